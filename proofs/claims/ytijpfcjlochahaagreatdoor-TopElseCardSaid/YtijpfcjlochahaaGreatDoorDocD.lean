/- The walks of doc's rules: a map of what an element of a name must be; what an element needs. The walks of what an element needs, of fits and of word. -/
import Derived.Test.YtijpfcjlochahaaGreatDoorDocB
import Derived.Maps.OwnSet
import Derived.Carry
set_option linter.unusedVariables false
set_option linter.unusedSimpArgs false
namespace Go.Proofs.YtijpfcjlochahaaGreatDoor
open Go Go.RowKit
set_option linter.unusedVariables false
set_option linter.unusedSimpArgs false

theorem wpList_insert_own {H : Type} {P : Program} (w : World) {ops : Array Oper} {rest : List Oper} {o : Oper} {a : Act} {Q : Exit → Act → World → Prop}
    (hg : o.guard = none) (m x v : Operand) (t : TypeId) (hop : o.op = Op.insert t m x v)
    (k e : TypeId) (K : Maps.Keyed P k) (ht : P.underlying t = some (.map k e)) (R : Value → Option (DataW H × List MemPlace)) (b n : Nat) (D : DataW H)
    (hm : a.eval m = .map (some b)) (hown : w.ownsMap P k R b n D) (hn : n < maxLen) (key val : Value) (kl : Lit) (hx : a.eval x = key) (hv : a.eval v = val) (hkey : Go.keyOf P k key = some kl)
    (d : DataW H) (ps : List MemPlace) (hval : R val = some (d, ps))
    (hK : ∀ w', w'.ownsMap P k R b (n + 1) (D.put kl d) → w.grownBy w' (some b) → wpList P ops Q rest (a.put o.dst undef) w') :
    wpList P ops Q (o :: rest) a w := by
  refine wpList_plain hg fun K' hK' => ?_
  obtain ⟨w', hrun, r1, r2⟩ := hown.update K ht hn hkey hval
  unfold Oper.wp
  simp [execOp, hop, hm, hx, hv, hrun, Result.andThen]
  exact hK' _ _ (hK w' r1 r2)

/-- An element of the rules' map stands for itself. -/
def selfR (v : Value) : Option (DataW Value × List MemPlace) := some (.held v, [])
def ruleVal (k : Int) (a : Bool) (i : Int) (f g : Nat) : Value := .agg #[.int .i64 k, .bool a, .int .i64 i, .func (.func f) #[] #[], .func (.func g) #[] #[]]
def rulesD : DataW Value :=
  (((((((((((DataW.map []).put (.string nInclude) (.held (ruleVal 2 true 0 111 112))).put (.string nComment) (.held (ruleVal 12 true 0 113 114))).put
    (.string nInline) (.held (ruleVal 3 false 0 115 116))).put (.string nVars) (.held (ruleVal 10 false 0 117 118))).put
    (.string nRemove) (.held (ruleVal 11 false 0 117 118))).put (.string nTry) (.held (ruleVal 4 false 0 117 118))).put
    (.string nAttempt) (.held (ruleVal 5 false 4 117 118))).put (.string nExcept) (.held (ruleVal 6 false 4 117 118))).put
    (.string nChoose) (.held (ruleVal 7 false 0 117 118))).put (.string nWhen) (.held (ruleVal 8 false 7 119 120))).put
    (.string nOtherwise) (.held (ruleVal 9 false 7 117 118))
theorem strKeyed : Maps.Keyed Tryz.prog 9 := Maps.string_keyed Tryz.underlying9
theorem keyStr {s : List UInt8} (h : s.length ≤ maxLen) : Go.keyOf Tryz.prog 9 (.string (bs s)) = some (.string s) := by
  have := Go.WideMaps.keyOf_string_mk (P := Tryz.prog) Tryz.underlying9 (s := bs s) (by rw [size_bs]; exact h)
  rw [this]
  simp [bs]

theorem keyArr (a : Array UInt8) (h : a.size ≤ maxLen) : Go.keyOf Tryz.prog 9 (.string ⟨a⟩) = some (.string a.toList) :=
  Go.WideMaps.keyOf_string_mk (P := Tryz.prog) Tryz.underlying9 (s := ⟨a⟩) h
/-- The rules' map, half laid. -/
structure Half (w0 w : World) (n : Nat) (D : DataW Value) : Prop where
  own : w.ownsMap Tryz.prog 9 selfR w0.heap.size n D
  below : Below w0.heap.size w0 w
theorem half0 (w : World) : Half w (w.alloc (.map #[] 0)) 0 (.map []) := ⟨World.ownsMap_made w _ _ _, (Below.refl _ _).alloc (Nat.le_refl _) _⟩
theorem wpList_half {w0 w : World} {n : Nat} {D : DataW Value} {ops : Array Oper} {rest : List Oper} {o : Oper} {a : Act} {Q : Exit → Act → World → Prop} (H : Half w0 w n D)
    (hg : o.guard = none) (m x v : Operand) (hop : o.op = Op.insert 127 m x v) (hn : n < maxLen) (hm : a.eval m = .map (some w0.heap.size)) (b : Array UInt8) (val : Value) (hx : a.eval x = .string ⟨b⟩) (hv : a.eval v = val) (hb : b.size ≤ maxLen)
    (hK : ∀ w', Half w0 w' (n + 1) (D.put (.string b.toList) (.held val)) → wpList Tryz.prog ops Q rest (a.put o.dst undef) w') : wpList Tryz.prog ops Q (o :: rest) a w :=
  wpList_insert_own w hg m x v _ hop _ _ strKeyed Tryz.underlying127 selfR _ n D hm H.own hn _ val _ hx hv (keyArr b hb) (.held val) [] rfl fun w' h1 h2 => hK w' ⟨h1, H.below.trans ⟨h2.os, h2.tape, h2.output, h2.size, fun k hk => h2.block k (Nat.lt_of_lt_of_le hk H.below.size) (fun e => by injection e with e; omega)⟩⟩

set_option maxRecDepth 20000 in
set_option maxHeartbeats 4000000 in
theorem rules_calls (w : World) : Calls Tryz.prog 69 #[] w fun e w' => e = .returned (.map (some w.heap.size)) ∧ w'.ownsMap Tryz.prog 9 selfR w.heap.size 11 rulesD ∧ Below w.heap.size w w' := by
  have hmm := @run_makeMap Tryz.prog
  have hH := half0 w
  go_enter Tryz.func69, Tryz.ntmps69
  go_wp2_with ((with_reducible refine wpList_half hH rfl _ _ _ rfl (by unfold maxLen; omega) rfl _ _ rfl rfl (by simp [maxLen]) ?_); clear hH; intro w_ hH)
  go_ret
  exact ⟨rfl, hH.own, hH.below⟩

/-- What lies in the rules' map under a name. -/
def ruleCells (q : Rule) (f g : Nat) : List Value := [.int .i64 q.kind, .bool q.alone, .int .i64 q.inn, .func (.func f) #[] #[], .func (.func g) #[] #[]]
def takesOf (k : Int) : Nat := if k = 2 then 111 else if k = 12 then 113 else if k = 3 then 115 else if k = 8 then 119 else 117
def needsOf (k : Int) : Nat := if k = 2 then 112 else if k = 12 then 114 else if k = 3 then 116 else if k = 8 then 120 else 118
def ruleV (s : List UInt8) : Value :=
  match ruleF s with
  | none => .agg #[.int .i64 0, .bool false, .int .i64 0, .nilFunc, .nilFunc]
  | some q => ruleVal q.kind q.alone q.inn (takesOf q.kind) (needsOf q.kind)
theorem put_at {D : DataW Value} (hD : Maps.IsMap D) (k s : List UInt8) (v z : DataW Value) : (D.put (.string k) v).atKey (.string s) z = if s = k then v else D.atKey (.string s) z := by
  by_cases h : s = k
  · subst h
    rw [if_pos rfl]
    exact Maps.atKey_put_same hD (by simp [WideAt.IsKeyLit]) v z
  · rw [if_neg h]
    exact Maps.atKey_put_other (fun e => h (by injection e)) v z
theorem put_has {D : DataW Value} (hD : Maps.IsMap D) (k s : List UInt8) (v : DataW Value) : Maps.has (D.put (.string k) v) (.string s) = if s = k then true else Maps.has D (.string s) := by
  by_cases h : s = k
  · subst h
    rw [if_pos rfl]
    exact Maps.has_put_same hD (by simp [WideAt.IsKeyLit]) v
  · rw [if_neg h]
    exact Maps.has_put_other (fun e => h (by injection e)) v
theorem rules_look {w : World} {b n : Nat} {s : List UInt8} (h : w.ownsMap Tryz.prog 9 selfR b n rulesD) (hs : s.length ≤ maxLen) (c : Bool) :
    (Instr.lookup 127 (.map (some b)) (.string (bs s)) c).run Tryz.prog w = .ok (if c then .tuple #[ruleV s, .bool (ruleF s).isSome] else ruleV s) w := by
  have hz : (zeroValue 125).run Tryz.prog w = .ok (.agg #[.int .i64 0, .bool false, .int .i64 0, .nilFunc, .nilFunc]) w := by kernel_rfl
  have hD : Maps.IsMap (DataW.map [] : DataW Value) := ⟨[], rfl⟩
  have ha : rulesD.atKey (.string s) (.held (.agg #[.int .i64 0, .bool false, .int .i64 0, .nilFunc, .nilFunc])) = .held (ruleV s) := by
    unfold rulesD ruleV ruleF
    rw [put_at, put_at, put_at, put_at, put_at, put_at, put_at, put_at, put_at, put_at, put_at]
    all_goals try exact (⟨_, rfl⟩ : Maps.IsMap _)
    by_cases h0 : s = nInclude
    · subst h0
      simp [nInclude, nComment, nInline, nVars, nRemove, nTry, nAttempt, nExcept, nChoose, nWhen, nOtherwise, takesOf, needsOf]
    by_cases h1 : s = nComment
    · subst h1
      simp [nInclude, nComment, nInline, nVars, nRemove, nTry, nAttempt, nExcept, nChoose, nWhen, nOtherwise, takesOf, needsOf]
    by_cases h2 : s = nInline
    · subst h2
      simp [nInclude, nComment, nInline, nVars, nRemove, nTry, nAttempt, nExcept, nChoose, nWhen, nOtherwise, takesOf, needsOf]
    by_cases h3 : s = nVars
    · subst h3
      simp [nInclude, nComment, nInline, nVars, nRemove, nTry, nAttempt, nExcept, nChoose, nWhen, nOtherwise, takesOf, needsOf]
    by_cases h4 : s = nRemove
    · subst h4
      simp [nInclude, nComment, nInline, nVars, nRemove, nTry, nAttempt, nExcept, nChoose, nWhen, nOtherwise, takesOf, needsOf]
    by_cases h5 : s = nTry
    · subst h5
      simp [nInclude, nComment, nInline, nVars, nRemove, nTry, nAttempt, nExcept, nChoose, nWhen, nOtherwise, takesOf, needsOf]
    by_cases h6 : s = nAttempt
    · subst h6
      simp [nInclude, nComment, nInline, nVars, nRemove, nTry, nAttempt, nExcept, nChoose, nWhen, nOtherwise, takesOf, needsOf]
    by_cases h7 : s = nExcept
    · subst h7
      simp [nInclude, nComment, nInline, nVars, nRemove, nTry, nAttempt, nExcept, nChoose, nWhen, nOtherwise, takesOf, needsOf]
    by_cases h8 : s = nChoose
    · subst h8
      simp [nInclude, nComment, nInline, nVars, nRemove, nTry, nAttempt, nExcept, nChoose, nWhen, nOtherwise, takesOf, needsOf]
    by_cases h9 : s = nWhen
    · subst h9
      simp [nInclude, nComment, nInline, nVars, nRemove, nTry, nAttempt, nExcept, nChoose, nWhen, nOtherwise, takesOf, needsOf]
    by_cases h10 : s = nOtherwise
    · subst h10
      simp [nInclude, nComment, nInline, nVars, nRemove, nTry, nAttempt, nExcept, nChoose, nWhen, nOtherwise, takesOf, needsOf]
    simp only [if_neg h0, if_neg h1, if_neg h2, if_neg h3, if_neg h4, if_neg h5, if_neg h6, if_neg h7, if_neg h8, if_neg h9, if_neg h10]
    rfl
  have hh : Maps.has rulesD (.string s) = (ruleF s).isSome := by
    unfold rulesD ruleF
    rw [put_has, put_has, put_has, put_has, put_has, put_has, put_has, put_has, put_has, put_has, put_has]
    all_goals try exact (⟨_, rfl⟩ : Maps.IsMap _)
    by_cases h0 : s = nInclude
    · subst h0
      simp [nInclude, nComment, nInline, nVars, nRemove, nTry, nAttempt, nExcept, nChoose, nWhen, nOtherwise]
    by_cases h1 : s = nComment
    · subst h1
      simp [nInclude, nComment, nInline, nVars, nRemove, nTry, nAttempt, nExcept, nChoose, nWhen, nOtherwise]
    by_cases h2 : s = nInline
    · subst h2
      simp [nInclude, nComment, nInline, nVars, nRemove, nTry, nAttempt, nExcept, nChoose, nWhen, nOtherwise]
    by_cases h3 : s = nVars
    · subst h3
      simp [nInclude, nComment, nInline, nVars, nRemove, nTry, nAttempt, nExcept, nChoose, nWhen, nOtherwise]
    by_cases h4 : s = nRemove
    · subst h4
      simp [nInclude, nComment, nInline, nVars, nRemove, nTry, nAttempt, nExcept, nChoose, nWhen, nOtherwise]
    by_cases h5 : s = nTry
    · subst h5
      simp [nInclude, nComment, nInline, nVars, nRemove, nTry, nAttempt, nExcept, nChoose, nWhen, nOtherwise]
    by_cases h6 : s = nAttempt
    · subst h6
      simp [nInclude, nComment, nInline, nVars, nRemove, nTry, nAttempt, nExcept, nChoose, nWhen, nOtherwise]
    by_cases h7 : s = nExcept
    · subst h7
      simp [nInclude, nComment, nInline, nVars, nRemove, nTry, nAttempt, nExcept, nChoose, nWhen, nOtherwise]
    by_cases h8 : s = nChoose
    · subst h8
      simp [nInclude, nComment, nInline, nVars, nRemove, nTry, nAttempt, nExcept, nChoose, nWhen, nOtherwise]
    by_cases h9 : s = nWhen
    · subst h9
      simp [nInclude, nComment, nInline, nVars, nRemove, nTry, nAttempt, nExcept, nChoose, nWhen, nOtherwise]
    by_cases h10 : s = nOtherwise
    · subst h10
      simp [nInclude, nComment, nInline, nVars, nRemove, nTry, nAttempt, nExcept, nChoose, nWhen, nOtherwise]
    simp only [if_neg h0, if_neg h1, if_neg h2, if_neg h3, if_neg h4, if_neg h5, if_neg h6, if_neg h7, if_neg h8, if_neg h9, if_neg h10]
    rfl
  cases c with
  | true =>
    obtain ⟨v, ps, hrun, hv⟩ := h.look_ok strKeyed Tryz.underlying127 hz rfl (keyStr hs)
    rw [ha] at hv
    simp only [selfR, Option.some.injEq, Prod.mk.injEq, DataW.held.injEq] at hv
    rw [hrun, hh, hv.1]
    rfl
  | false =>
    obtain ⟨v, ps, hrun, hv⟩ := h.lookup strKeyed Tryz.underlying127 hz rfl (keyStr hs)
    rw [ha] at hv
    simp only [selfR, Option.some.injEq, Prod.mk.injEq, DataW.held.injEq] at hv
    rw [hrun, hv.1]
    rfl
end Go.Proofs.YtijpfcjlochahaaGreatDoor
namespace Go.Proofs.YtijpfcjlochahaaGreatDoor
set_option linter.unusedVariables false
set_option linter.unusedSimpArgs false
open Go Go.RowKit

def elemV (e : Elem) (kv : Value) : Value := .agg #[.int .i64 e.kind, .string (bs e.text), .string (bs e.src), .string (bs e.alt), .bool e.soft, .string (bs e.test), kv]
theorem src_ne (s : List UInt8) : ((bs s).toList != []) = decide (s ≠ []) := by rw [toList_bs]; by_cases h : s = [] <;> simp [h]
set_option maxRecDepth 20000 in
set_option maxHeartbeats 1000000 in
theorem needs1_calls (e : Elem) (kv : Value) (w : World) : Calls Tryz.prog 112 #[.agg #[.int .i64 e.kind, .string (bs e.text), .string (bs e.src), .string (bs e.alt), .bool e.soft, .string (bs e.test), kv]] w fun en w' => en = .returned (.bool (decide (e.src ≠ []))) ∧ Below w.heap.size w w' := by
  go_enter Tryz.func112, Tryz.ntmps112
  go_wp2_with fail
  go_ret
  refine ⟨?_, (Below.refl _ _).alloc (Nat.le_refl _) _⟩
  show Ending.returned (.bool !(bs e.src).toList.isEmpty) = _
  rw [toList_bs]
  cases e.src <;> rfl
set_option maxRecDepth 20000 in
set_option maxHeartbeats 1000000 in
theorem needs2_calls (e : Elem) (kv : Value) (w : World) : Calls Tryz.prog 114 #[.agg #[.int .i64 e.kind, .string (bs e.text), .string (bs e.src), .string (bs e.alt), .bool e.soft, .string (bs e.test), kv]] w fun en w' => en = .returned (.bool e.soft) ∧ Below w.heap.size w w' := by
  go_enter Tryz.func114, Tryz.ntmps114
  go_wp2_with fail
  go_ret
  exact ⟨rfl, (Below.refl _ _).alloc (Nat.le_refl _) _⟩
set_option maxRecDepth 20000 in
set_option maxHeartbeats 1000000 in
theorem always_calls (e : Elem) (kv : Value) (w : World) : Calls Tryz.prog 118 #[.agg #[.int .i64 e.kind, .string (bs e.text), .string (bs e.src), .string (bs e.alt), .bool e.soft, .string (bs e.test), kv]] w fun en w' => en = .returned (.bool true) ∧ Below w.heap.size w w' := by
  go_enter Tryz.func118, Tryz.ntmps118
  go_wp2_with fail
  go_ret
  exact ⟨rfl, (Below.refl _ _).alloc (Nat.le_refl _) _⟩

set_option maxRecDepth 20000 in
set_option maxHeartbeats 1000000 in
theorem needs3_calls (e : Elem) (kv : Value) (w : World) : Calls Tryz.prog 116 #[.agg #[.int .i64 e.kind, .string (bs e.text), .string (bs e.src), .string (bs e.alt), .bool e.soft, .string (bs e.test), kv]] w fun en w' => en = .returned (.bool (decide (e.src ≠ []))) ∧ Below w.heap.size w w' := by
  go_enter Tryz.func116, Tryz.ntmps116
  go_wp2_with fail
  go_ret
  refine ⟨?_, (Below.refl _ _).alloc (Nat.le_refl _) _⟩
  show Ending.returned (.bool !(bs e.src).toList.isEmpty) = _
  rw [toList_bs]
  cases e.src <;> rfl
set_option maxRecDepth 20000 in
set_option maxHeartbeats 1000000 in
theorem needs4_calls (e : Elem) (kv : Value) (w : World) : Calls Tryz.prog 120 #[.agg #[.int .i64 e.kind, .string (bs e.text), .string (bs e.src), .string (bs e.alt), .bool e.soft, .string (bs e.test), kv]] w fun en w' => en = .returned (.bool e.soft) ∧ Below w.heap.size w w' := by
  go_enter Tryz.func120, Tryz.ntmps120
  go_wp2_with fail
  go_ret
  exact ⟨rfl, (Below.refl _ _).alloc (Nat.le_refl _) _⟩
theorem needs_calls (k : Int) (e : Elem) (kv : Value) (w : World) : Calls Tryz.prog (needsOf k) #[.agg #[.int .i64 e.kind, .string (bs e.text), .string (bs e.src), .string (bs e.alt), .bool e.soft, .string (bs e.test), kv]] w fun en w' => en = .returned (.bool (needsF k e)) ∧ Below w.heap.size w w' := by
  unfold needsOf needsF
  by_cases h1 : k = 2
  · rw [if_pos h1, if_pos (show k = 2 ∨ k = 3 from .inl h1)]
    exact needs1_calls e kv w
  · rw [if_neg h1]
    by_cases h2 : k = 12
    · rw [if_pos h2, if_neg (show ¬ (k = 2 ∨ k = 3) by omega), if_pos (show k = 12 ∨ k = 8 from .inl h2)]
      exact needs2_calls e kv w
    · rw [if_neg h2]
      by_cases h3 : k = 3
      · rw [if_pos h3, if_pos (show k = 2 ∨ k = 3 from .inr h3)]
        exact needs3_calls e kv w
      · rw [if_neg h3, if_neg (show ¬ (k = 2 ∨ k = 3) by omega)]
        by_cases h4 : k = 8
        · rw [if_pos h4, if_pos (show k = 12 ∨ k = 8 from .inr h4)]
          exact needs4_calls e kv w
        · rw [if_neg h4, if_neg (show ¬ (k = 12 ∨ k = 8) by omega)]
          exact always_calls e kv w
theorem takes_calls (k : Int) (X : Nat) (el : Elem) (n v : List UInt8) (w : World) (h : ElemAt w X el) : Calls Tryz.prog (takesOf k) #[.pointer (some ⟨X, 0, none⟩), .string (bs n), .string (bs v)] w (TakePost X k el n v w) := by
  unfold takesOf
  by_cases h1 : k = 2
  · rw [if_pos h1, h1]
    exact include_calls X el n v w h
  · rw [if_neg h1]
    by_cases h2 : k = 12
    · rw [if_pos h2, h2]
      exact text_calls X el n v w h
    · rw [if_neg h2]
      by_cases h3 : k = 3
      · rw [if_pos h3, h3]
        exact inline_calls X el n v w h
      · rw [if_neg h3]
        by_cases h4 : k = 8
        · rw [if_pos h4, h4]
          exact test_calls X el n v w h
        · rw [if_neg h4]
          exact never_calls X el k (by omega) n v w h
theorem last_kid {w : World} {base : Nat} {te : TypeId} {G : Nat → Prop} {A : Option Addr} {c : Nat} {l ys : List Elem} {u : Elem} (h : OwnR w base te 7 G (.slice A l.length c) (l.map Elem.gv)) (hl : l = ys ++ [u]) :
    ∃ g, A = some ⟨g, 0, none⟩ ∧ w.cell? ⟨g, ys.length * 7, none⟩ = some (.int .i64 u.kind) ∧ l.length ≤ c := by
  subst hl
  obtain ⟨xs, hr, hg⟩ := h
  have hr0 := hr
  rcases hr.2 with ⟨_, h0⟩ | ⟨g, cap, cur, hv, hb, hh, hn, hm, _⟩
  · simp at h0
  · injection hv with e1 e2 e3
    subst e1 e3
    refine ⟨g, rfl, ?_, by simpa using hn⟩
    obtain ⟨cs, h1, h2, h3⟩ := hg.at_ ys.length (by simp)
    have e : ((ys ++ [u]).map Elem.gv)[ys.length]'(by simp) = u.gv := by simp
    rw [e] at h1
    obtain ⟨k, tx, s, a, b, v, ks⟩ := u
    rw [Elem.gv] at h1
    obtain ⟨a1, b1, rfl, h4, -⟩ := GRa_cons.1 (GR_agg.1 h1)
    have h4 := GR_int.1 h4
    subst h4
    have h5 := h3 0 (by omega)
    rw [List.length_map] at hr0
    have h6 := hr0.cellAt (ys.length * 7) (by simp)
    rw [h6]
    show xs[ys.length * 7]? = some (Value.int .i64 k)
    simpa using h5

set_option maxRecDepth 20000 in
set_option maxHeartbeats 4000000 in
theorem fits_calls {base B : Nat} {v : Value} {r : List Level} {t : Level} {kvs : List Value} {own : Nat → Option Nat} (kind inn : Int) (w : World) (h : Bld w base B v (r ++ [t]) kvs own) (hr : r.length ≤ 100) (hk : t.e.kids.length ≤ 10000) :
    Calls Tryz.prog 72 #[.pointer (some ⟨B, 0, none⟩), .int .i64 kind, .int .i64 inn] w fun en w' => en = .returned (.bool (fitsF t.e kind inn)) ∧ ∃ m, w' = w.drewN m := by
  obtain ⟨sb, cap, rfl, hcap, hcm, hsb, hbs⟩ := h.form
  obtain ⟨kvr, kv, rfl, hkr⟩ := h.kid
  obtain ⟨hkid, hkown⟩ := h.stk.kid r.length t kv (by simp) (by rw [← hkr]; simp)
  obtain ⟨Ak, ck, rfl⟩ := hkid.form
  rw [List.length_map] at *
  have hrow := h.stk.row
  rw [List.length_append, List.length_singleton] at hrow
  have hat : ∀ j, j < 8 → w.cell? ⟨sb, r.length * 8 + j, none⟩ = (levCells t (.slice Ak t.e.kids.length ck))[j]? := fun j hj => by
    rw [hrow.cellAt _ (by omega)]
    exact stk_at r.length j hj (by simp) (by rw [← hkr]; simp)
  have b0 := h.blk.cell 0
  have k0 := hat 0 (by omega)
  have k6 : w.cell? ⟨sb, r.length * 8 + 6, none⟩ = some (.slice Ak t.e.kids.length ck) := hat 6 (by omega)
  have HKD := Lib.hid hkid
  clear hkid hkown hat h
  go_enter Tryz.func72, Tryz.ntmps72
  go_wp2_with fail
  refine (top_calls w b0 hcap (by omega)).mono ?_
  rintro en w2 ⟨rfl, m, rfl⟩
  have k0 : (w.drewN m).cell? ⟨sb, r.length * 8, none⟩ = some (.int .i64 t.e.kind) := k0
  have k6 : (w.drewN m).cell? ⟨sb, r.length * 8 + 6, none⟩ = some (.slice Ak t.e.kids.length ck) := k6
  by_cases h4 : t.e.kind = 4
  · have hb : (t.e.kind == 4) = true := by rw [h4]; rfl
    go_wp2_with fail
    all_goals (go_ret; refine ⟨?_, _, rfl⟩; simp only [fitsF, h4, if_true]; simp_all)
    all_goals (rw [Bool.eq_iff_iff]; simp; try omega)
  · have hb : (t.e.kind == 4) = false := by rw [beq_eq_false_iff_ne]; exact h4
    by_cases h7 : t.e.kind = 7
    · have hb7 : (t.e.kind == 7) = true := by rw [h7]; rfl
      have hF : Hid (fitsF t.e kind inn = decide ((kind = 8 ∨ kind = 9 ∧ 0 < t.e.kids.length) ∧ ∀ u, t.e.kids.getLast? = some u → u.kind ≠ 9)) := by unfold Hid fitsF; rw [if_neg h4, if_pos h7]
      clear h4 h7
      rcases List.eq_nil_or_concat t.e.kids with hz | ⟨ys, u, hz⟩
      · have hF2 : Hid (fitsF t.e kind inn = decide (kind = 8)) := by
          rw [Hid, hF.out, hz]; simp
        have hl0 : t.e.kids.length = 0 := by rw [hz]; rfl
        rw [hl0] at k6
        clear hF hz hl0
        go_wp2_with fail
        all_goals (go_ret; refine ⟨?_, _, rfl⟩; rw [hF2.out]; show Ending.returned (.bool _) = _; congr 2; rw [Bool.eq_iff_iff]; simp [*])
      · rw [List.concat_eq_append] at hz
        have hF2 : Hid (fitsF t.e kind inn = decide ((kind = 8 ∨ kind = 9) ∧ u.kind ≠ 9)) := by
          rw [Hid, hF.out, hz]; simp
        have hl0 : t.e.kids.length = ys.length + 1 := by rw [hz]; simp
        obtain ⟨g, rfl, hu, hcl⟩ := last_kid HKD.out hz
        rw [hl0] at k6
        have hu : (w.drewN m).cell? ⟨g, ys.length * 7, none⟩ = some (.int .i64 u.kind) := hu
        have hn1 : (0 : Int) ≤ (ys.length : Int) := by omega
        have hn2 : (ys.length : Int) < ((ys.length + 1 : Nat) : Int) := by omega
        have hn3 : ((ys.length : Int) + 1) - 1 = (ys.length : Int) := by omega
        have hn4 : (0 : Int) < (ys.length : Int) + 1 := by omega
        have hyl : ys.length ≤ 10000 := by omega
        have hn5 : ((ys.length : Int) + 1 == 0) = false := by rw [beq_eq_false_iff_ne]; omega
        clear hF hz hl0
        go_wp2_with fail
        all_goals (go_ret; refine ⟨?_, _, rfl⟩; rw [hF2.out]; show Ending.returned (.bool _) = _; congr 2; rw [Bool.eq_iff_iff]; simp [*])
    · have hb7 : (t.e.kind == 7) = false := by rw [beq_eq_false_iff_ne]; exact h7
      have hF : Hid (fitsF t.e kind inn = decide (inn = 0)) := by unfold Hid fitsF; rw [if_neg h4, if_neg h7]
      clear h4 h7
      go_wp2_with fail
      all_goals (go_ret; refine ⟨?_, _, rfl⟩; rw [hF.out]; rfl)
end Go.Proofs.YtijpfcjlochahaaGreatDoor
