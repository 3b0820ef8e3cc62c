/- The walks of doc's rules: a map of what an element of a name must be; what an element needs. -/
import Derived.Test.YtijpfcjlochahaaDoorDocB
import Derived.Maps.OwnSet
import Derived.Carry
namespace Go.Proofs.YtijpfcjlochahaaDoor
open Go Go.RowKit

theorem wpList_insert_own {H : Type} {P : Program} (w : World) {ops : Array Oper} {rest : List Oper} {o : Oper} {a : Act} {Q : Exit → Act → World → Prop}
    (hg : o.guard = none) (m x v : Operand) (t : TypeId) (hop : o.op = Op.insert t m x v)
    (k e : TypeId) (K : Maps.Keyed P k) (ht : P.underlying t = some (.map k e)) (R : Value → Option (DataW H × List MemPlace)) (b n : Nat) (D : DataW H)
    (hm : a.eval m = .map (some b)) (hown : w.ownsMap P k R b n D) (hn : n < maxLen) (key val : Value) (kl : Lit) (hx : a.eval x = key) (hv : a.eval v = val) (hkey : Go.keyOf P k key = some kl)
    (d : DataW H) (ps : List MemPlace) (hval : R val = some (d, ps))
    (hK : ∀ w', w'.ownsMap P k R b (n + 1) (D.put kl d) → w.grownBy w' (some b) → wpList P ops Q rest (a.put o.dst undef) w') :
    wpList P ops Q (o :: rest) a w := by
  refine wpList_plain hg fun K' hK' => ?_
  obtain ⟨w', hrun, r1, r2⟩ := hown.update K ht hn hkey hval
  unfold Oper.wp
  simp [execOp, hop, hm, hx, hv, hrun, Result.andThen]
  exact hK' _ _ (hK w' r1 r2)

/-- An element of the rules' map stands for itself. -/
def selfR (v : Value) : Option (DataW Value × List MemPlace) := some (.held v, [])
def ruleVal (k : Int) (a : Bool) (i : Int) (f g : Nat) : Value := .agg #[.int .i64 k, .bool a, .int .i64 i, .func (.func f) #[] #[], .func (.func g) #[] #[]]
def rulesD : DataW Value :=
  (((((((((((DataW.map []).put (.string nInclude) (.held (ruleVal 2 true 0 100 101))).put (.string nComment) (.held (ruleVal 12 true 0 102 103))).put
    (.string nInline) (.held (ruleVal 3 false 0 104 105))).put (.string nVars) (.held (ruleVal 10 false 0 106 107))).put
    (.string nRemove) (.held (ruleVal 11 false 0 106 107))).put (.string nTry) (.held (ruleVal 4 false 0 106 107))).put
    (.string nAttempt) (.held (ruleVal 5 false 4 106 107))).put (.string nExcept) (.held (ruleVal 6 false 4 106 107))).put
    (.string nChoose) (.held (ruleVal 7 false 0 106 107))).put (.string nWhen) (.held (ruleVal 8 false 7 108 109))).put
    (.string nOtherwise) (.held (ruleVal 9 false 7 106 107))
theorem strKeyed : Maps.Keyed Tryd.prog 9 := Maps.string_keyed Tryd.underlying9
theorem keyStr {s : List UInt8} (h : s.length ≤ maxLen) : Go.keyOf Tryd.prog 9 (.string (bs s)) = some (.string s) := by
  have := Go.WideMaps.keyOf_string_mk (P := Tryd.prog) Tryd.underlying9 (s := bs s) (by rw [size_bs]; exact h)
  rw [this]
  simp [bs]

theorem keyArr (a : Array UInt8) (h : a.size ≤ maxLen) : Go.keyOf Tryd.prog 9 (.string ⟨a⟩) = some (.string a.toList) :=
  Go.WideMaps.keyOf_string_mk (P := Tryd.prog) Tryd.underlying9 (s := ⟨a⟩) h
/-- The rules' map, half laid. -/
structure Half (w0 w : World) (n : Nat) (D : DataW Value) : Prop where
  own : w.ownsMap Tryd.prog 9 selfR w0.heap.size n D
  below : Below w0.heap.size w0 w
theorem half0 (w : World) : Half w (w.alloc (.map #[] 0)) 0 (.map []) := ⟨World.ownsMap_made w _ _ _, (Below.refl _ _).alloc (Nat.le_refl _) _⟩
theorem wpList_half {w0 w : World} {n : Nat} {D : DataW Value} {ops : Array Oper} {rest : List Oper} {o : Oper} {a : Act} {Q : Exit → Act → World → Prop} (H : Half w0 w n D)
    (hg : o.guard = none) (m x v : Operand) (hop : o.op = Op.insert 107 m x v) (hn : n < maxLen) (hm : a.eval m = .map (some w0.heap.size)) (b : Array UInt8) (val : Value) (hx : a.eval x = .string ⟨b⟩) (hv : a.eval v = val) (hb : b.size ≤ maxLen)
    (hK : ∀ w', Half w0 w' (n + 1) (D.put (.string b.toList) (.held val)) → wpList Tryd.prog ops Q rest (a.put o.dst undef) w') : wpList Tryd.prog ops Q (o :: rest) a w :=
  wpList_insert_own w hg m x v _ hop _ _ strKeyed Tryd.underlying107 selfR _ n D hm H.own hn _ val _ hx hv (keyArr b hb) (.held val) [] rfl fun w' h1 h2 => hK w' ⟨h1, H.below.trans ⟨h2.os, h2.tape, h2.output, h2.size, fun k hk => h2.block k (Nat.lt_of_lt_of_le hk H.below.size) (fun e => by injection e with e; omega)⟩⟩

set_option maxRecDepth 20000 in
set_option maxHeartbeats 4000000 in
theorem rules_calls (w : World) : Calls Tryd.prog 66 #[] w fun e w' => e = .returned (.map (some w.heap.size)) ∧ w'.ownsMap Tryd.prog 9 selfR w.heap.size 11 rulesD ∧ Below w.heap.size w w' := by
  have hmm := @run_makeMap Tryd.prog
  have hH := half0 w
  go_enter Tryd.func66, Tryd.ntmps66
  go_wp2_with ((with_reducible refine wpList_half hH rfl _ _ _ rfl (by unfold maxLen; omega) rfl _ _ rfl rfl (by simp [maxLen]) ?_); clear hH; intro w_ hH)
  go_ret
  exact ⟨rfl, hH.own, hH.below⟩

/-- What lies in the rules' map under a name. -/
def ruleCells (q : Rule) (f g : Nat) : List Value := [.int .i64 q.kind, .bool q.alone, .int .i64 q.inn, .func (.func f) #[] #[], .func (.func g) #[] #[]]
def takesOf (k : Int) : Nat := if k = 2 then 100 else if k = 12 then 102 else if k = 3 then 104 else if k = 8 then 108 else 106
def needsOf (k : Int) : Nat := if k = 2 then 101 else if k = 12 then 103 else if k = 3 then 105 else if k = 8 then 109 else 107
def ruleV (s : List UInt8) : Value :=
  match ruleF s with
  | none => .agg #[.int .i64 0, .bool false, .int .i64 0, .nilFunc, .nilFunc]
  | some q => ruleVal q.kind q.alone q.inn (takesOf q.kind) (needsOf q.kind)
theorem put_at {D : DataW Value} (hD : Maps.IsMap D) (k s : List UInt8) (v z : DataW Value) : (D.put (.string k) v).atKey (.string s) z = if s = k then v else D.atKey (.string s) z := by
  by_cases h : s = k
  · subst h
    rw [if_pos rfl]
    exact Maps.atKey_put_same hD (by simp [WideAt.IsKeyLit]) v z
  · rw [if_neg h]
    exact Maps.atKey_put_other (fun e => h (by injection e)) v z
theorem put_has {D : DataW Value} (hD : Maps.IsMap D) (k s : List UInt8) (v : DataW Value) : Maps.has (D.put (.string k) v) (.string s) = if s = k then true else Maps.has D (.string s) := by
  by_cases h : s = k
  · subst h
    rw [if_pos rfl]
    exact Maps.has_put_same hD (by simp [WideAt.IsKeyLit]) v
  · rw [if_neg h]
    exact Maps.has_put_other (fun e => h (by injection e)) v
theorem rules_look {w : World} {b n : Nat} {s : List UInt8} (h : w.ownsMap Tryd.prog 9 selfR b n rulesD) (hs : s.length ≤ maxLen) (c : Bool) :
    (Instr.lookup 107 (.map (some b)) (.string (bs s)) c).run Tryd.prog w = .ok (if c then .tuple #[ruleV s, .bool (ruleF s).isSome] else ruleV s) w := by
  have hz : (zeroValue 105).run Tryd.prog w = .ok (.agg #[.int .i64 0, .bool false, .int .i64 0, .nilFunc, .nilFunc]) w := by kernel_rfl
  have hD : Maps.IsMap (DataW.map [] : DataW Value) := ⟨[], rfl⟩
  have ha : rulesD.atKey (.string s) (.held (.agg #[.int .i64 0, .bool false, .int .i64 0, .nilFunc, .nilFunc])) = .held (ruleV s) := by
    unfold rulesD ruleV ruleF
    rw [put_at, put_at, put_at, put_at, put_at, put_at, put_at, put_at, put_at, put_at, put_at]
    all_goals try exact (⟨_, rfl⟩ : Maps.IsMap _)
    by_cases h0 : s = nInclude
    · subst h0
      simp [nInclude, nComment, nInline, nVars, nRemove, nTry, nAttempt, nExcept, nChoose, nWhen, nOtherwise, takesOf, needsOf]
    by_cases h1 : s = nComment
    · subst h1
      simp [nInclude, nComment, nInline, nVars, nRemove, nTry, nAttempt, nExcept, nChoose, nWhen, nOtherwise, takesOf, needsOf]
    by_cases h2 : s = nInline
    · subst h2
      simp [nInclude, nComment, nInline, nVars, nRemove, nTry, nAttempt, nExcept, nChoose, nWhen, nOtherwise, takesOf, needsOf]
    by_cases h3 : s = nVars
    · subst h3
      simp [nInclude, nComment, nInline, nVars, nRemove, nTry, nAttempt, nExcept, nChoose, nWhen, nOtherwise, takesOf, needsOf]
    by_cases h4 : s = nRemove
    · subst h4
      simp [nInclude, nComment, nInline, nVars, nRemove, nTry, nAttempt, nExcept, nChoose, nWhen, nOtherwise, takesOf, needsOf]
    by_cases h5 : s = nTry
    · subst h5
      simp [nInclude, nComment, nInline, nVars, nRemove, nTry, nAttempt, nExcept, nChoose, nWhen, nOtherwise, takesOf, needsOf]
    by_cases h6 : s = nAttempt
    · subst h6
      simp [nInclude, nComment, nInline, nVars, nRemove, nTry, nAttempt, nExcept, nChoose, nWhen, nOtherwise, takesOf, needsOf]
    by_cases h7 : s = nExcept
    · subst h7
      simp [nInclude, nComment, nInline, nVars, nRemove, nTry, nAttempt, nExcept, nChoose, nWhen, nOtherwise, takesOf, needsOf]
    by_cases h8 : s = nChoose
    · subst h8
      simp [nInclude, nComment, nInline, nVars, nRemove, nTry, nAttempt, nExcept, nChoose, nWhen, nOtherwise, takesOf, needsOf]
    by_cases h9 : s = nWhen
    · subst h9
      simp [nInclude, nComment, nInline, nVars, nRemove, nTry, nAttempt, nExcept, nChoose, nWhen, nOtherwise, takesOf, needsOf]
    by_cases h10 : s = nOtherwise
    · subst h10
      simp [nInclude, nComment, nInline, nVars, nRemove, nTry, nAttempt, nExcept, nChoose, nWhen, nOtherwise, takesOf, needsOf]
    simp only [if_neg h0, if_neg h1, if_neg h2, if_neg h3, if_neg h4, if_neg h5, if_neg h6, if_neg h7, if_neg h8, if_neg h9, if_neg h10]
    rfl
  have hh : Maps.has rulesD (.string s) = (ruleF s).isSome := by
    unfold rulesD ruleF
    rw [put_has, put_has, put_has, put_has, put_has, put_has, put_has, put_has, put_has, put_has, put_has]
    all_goals try exact (⟨_, rfl⟩ : Maps.IsMap _)
    by_cases h0 : s = nInclude
    · subst h0
      simp [nInclude, nComment, nInline, nVars, nRemove, nTry, nAttempt, nExcept, nChoose, nWhen, nOtherwise]
    by_cases h1 : s = nComment
    · subst h1
      simp [nInclude, nComment, nInline, nVars, nRemove, nTry, nAttempt, nExcept, nChoose, nWhen, nOtherwise]
    by_cases h2 : s = nInline
    · subst h2
      simp [nInclude, nComment, nInline, nVars, nRemove, nTry, nAttempt, nExcept, nChoose, nWhen, nOtherwise]
    by_cases h3 : s = nVars
    · subst h3
      simp [nInclude, nComment, nInline, nVars, nRemove, nTry, nAttempt, nExcept, nChoose, nWhen, nOtherwise]
    by_cases h4 : s = nRemove
    · subst h4
      simp [nInclude, nComment, nInline, nVars, nRemove, nTry, nAttempt, nExcept, nChoose, nWhen, nOtherwise]
    by_cases h5 : s = nTry
    · subst h5
      simp [nInclude, nComment, nInline, nVars, nRemove, nTry, nAttempt, nExcept, nChoose, nWhen, nOtherwise]
    by_cases h6 : s = nAttempt
    · subst h6
      simp [nInclude, nComment, nInline, nVars, nRemove, nTry, nAttempt, nExcept, nChoose, nWhen, nOtherwise]
    by_cases h7 : s = nExcept
    · subst h7
      simp [nInclude, nComment, nInline, nVars, nRemove, nTry, nAttempt, nExcept, nChoose, nWhen, nOtherwise]
    by_cases h8 : s = nChoose
    · subst h8
      simp [nInclude, nComment, nInline, nVars, nRemove, nTry, nAttempt, nExcept, nChoose, nWhen, nOtherwise]
    by_cases h9 : s = nWhen
    · subst h9
      simp [nInclude, nComment, nInline, nVars, nRemove, nTry, nAttempt, nExcept, nChoose, nWhen, nOtherwise]
    by_cases h10 : s = nOtherwise
    · subst h10
      simp [nInclude, nComment, nInline, nVars, nRemove, nTry, nAttempt, nExcept, nChoose, nWhen, nOtherwise]
    simp only [if_neg h0, if_neg h1, if_neg h2, if_neg h3, if_neg h4, if_neg h5, if_neg h6, if_neg h7, if_neg h8, if_neg h9, if_neg h10]
    rfl
  cases c with
  | true =>
    obtain ⟨v, ps, hrun, hv⟩ := h.look_ok strKeyed Tryd.underlying107 hz rfl (keyStr hs)
    rw [ha] at hv
    simp only [selfR, Option.some.injEq, Prod.mk.injEq, DataW.held.injEq] at hv
    rw [hrun, hh, hv.1]
    rfl
  | false =>
    obtain ⟨v, ps, hrun, hv⟩ := h.lookup strKeyed Tryd.underlying107 hz rfl (keyStr hs)
    rw [ha] at hv
    simp only [selfR, Option.some.injEq, Prod.mk.injEq, DataW.held.injEq] at hv
    rw [hrun, hv.1]
    rfl
end Go.Proofs.YtijpfcjlochahaaDoor
