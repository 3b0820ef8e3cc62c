/- Plain: what pages of many includes of one address, and a page of one include with another address in its place, are put together to. No program is named here. -/
import Derived.Test.YtijpfcjlochahaaGreatDoorLexQ
import Derived.Test.YtijpfcjlochahaaGreatDoorTopA
set_option linter.unusedVariables false
set_option linter.unusedSimpArgs false
namespace Go.Proofs.YtijpfcjlochahaaGreatDoor
open Go Go.RowKit
set_option linter.unusedVariables false
set_option linter.unusedSimpArgs false

/-- A text, n times. -/
def repS (s : List UInt8) : Nat → List UInt8
  | 0 => []
  | n + 1 => repS s n ++ s
theorem repS_length (s : List UInt8) : ∀ n, (repS s n).length = n * s.length
  | 0 => by simp [repS]
  | n + 1 => by rw [repS, List.length_append, repS_length s n, Nat.succ_mul]
theorem repS_front (s : List UInt8) : ∀ n, repS s (n + 1) = s ++ repS s n
  | 0 => by simp [repS]
  | n + 1 => by
    have h := repS_front s n
    show repS s (n + 1) ++ s = s ++ repS s (n + 1)
    rw [h, List.append_assoc]
    exact congrArg (s ++ ·) h
/-- A tag that is read by itself. -/
structure OneTag (S : List UInt8) (T : Token) (E : Elem) : Prop where
  feed : feedF ⟨[], false⟩ S = (⟨[], false⟩, [T], 0)
  kind : T.kind = 3
  take : ∀ ks : List Elem, takeTok [⟨(elem0 0).setKids ks, []⟩] T = ([⟨(elem0 0).setKids (ks ++ [E]), []⟩], 0)
theorem fed_rep {S : List UInt8} {T : Token} {E : Elem} (h : OneTag S T E) : ∀ n, Fed (repS S n) ⟨[], false⟩ (List.replicate n T)
  | 0 => fed_start
  | n + 1 => by
    have f := (fed_rep h n).step S (by rw [h.feed])
    rw [h.feed] at f
    rw [List.replicate_succ']
    exact f
theorem joinF_rep {T : Token} (h : T.kind = 3) : ∀ n, joinF (List.replicate n T) = List.replicate n T
  | 0 => rfl
  | n + 1 => by
    rw [List.replicate_succ']
    unfold joinF
    rw [List.foldl_append]
    rw [show List.foldl joinStep [] (List.replicate n T) = List.replicate n T from joinF_rep h n]
    show joinStep _ T = _
    unfold joinStep
    rw [if_pos (by omega)]
theorem allF_rep {S : List UInt8} {T : Token} {E : Elem} (h : OneTag S T E) (n : Nat) : allF (repS S n) = (List.replicate n T, 0) := by
  rw [(fed_rep h n).end_]
  have e : endF ⟨[], false⟩ = ([], 0) := by rfl
  rw [e, if_neg (by simp), List.append_nil, joinF_rep h.kind]
theorem buildLoop_rep {S : List UInt8} {T : Token} {E : Elem} (h : OneTag S T E) : ∀ (n i : Nat) (ks : List Elem), i + n ≤ 400 → buildLoop i [⟨(elem0 0).setKids ks, []⟩] (List.replicate n T) = ([⟨(elem0 0).setKids (ks ++ List.replicate n E), []⟩], 0)
  | 0, i, ks, _ => by rw [List.replicate_zero, List.replicate_zero, List.append_nil, buildLoop]
  | n + 1, i, ks, hi => by
    rw [List.replicate_succ, buildLoop, if_neg (by omega), h.take, if_neg (by simp)]
    show buildLoop (i + 1) [⟨(elem0 0).setKids (ks ++ [E]), []⟩] (List.replicate n T) = _
    rw [buildLoop_rep h n (i + 1) (ks ++ [E]) (by omega), List.append_assoc, List.replicate_succ]
    rfl
theorem readF_rep {S : List UInt8} {T : Token} {E : Elem} (h : OneTag S T E) (n : Nat) (hn : n ≤ 400) : readF (repS S n) = (List.replicate n E, 0) := by
  unfold readF
  rw [allF_rep h, if_neg (by simp)]
  unfold buildF
  have hj : joinedF (List.replicate n T) = List.replicate n T := by
    unfold joinedF
    rw [List.map_replicate, show knownF T = T from by unfold knownF; rw [if_pos (Or.inr (Or.inr h.kind))], joinF_rep h.kind]
  simp only [hj]
  rw [show page0 = ⟨(elem0 0).setKids [], []⟩ from rfl, buildLoop_rep h n 0 [] (by omega)]
  simp
theorem inlineF_rep (nm s a : List UInt8) (b : Bool) : ∀ n, inlineF nm (List.replicate n (.mk 2 [] s a b [] [])) = none
  | 0 => by rw [List.replicate_zero, inlineF]
  | n + 1 => by
    rw [List.replicate_succ, inlineF, inlineE_eq, if_neg (by rintro ⟨h, -⟩; exact absurd h (by show ¬ (2 : Int) = 3; decide))]
    show (match inlineF nm [] with | some x => some x | none => _) = _
    rw [inlineF, inlineF_rep nm s a b n]
theorem okL_rep {v : EnvD} {D : Dep} {e : Elem} (h : okE v D e) : ∀ n, okL v D (List.replicate n e)
  | 0 => okL_nil
  | n + 1 => by rw [List.replicate_succ]; exact okL_cons h (okL_rep h n)

/-! ### Many includes -/
def oneU : List UInt8 := [104, 116, 116, 112, 58, 47, 47, 111, 110, 101, 47, 120]
def twoU : List UInt8 := [104, 116, 116, 112, 58, 47, 47, 116, 119, 111, 47, 121]
def hardS : List UInt8 := [60, 101, 115, 105, 58, 105, 110, 99, 108, 117, 100, 101, 32, 115, 114, 99, 61, 34, 104, 116, 116, 112, 58, 47, 47, 111, 110, 101, 47, 120, 34, 47, 62]
def softS : List UInt8 := [60, 101, 115, 105, 58, 105, 110, 99, 108, 117, 100, 101, 32, 115, 114, 99, 61, 34, 104, 116, 116, 112, 58, 47, 47, 111, 110, 101, 47, 120, 34, 32, 111, 110, 101, 114, 114, 111, 114, 61, 34, 99, 111, 110, 116, 105, 110, 117, 101, 34, 47, 62]
def incE (b : Bool) : Elem := .mk 2 [] oneU [] b [] []
def incS (b : Bool) : List UInt8 := if b then softS else hardS
def incT (b : Bool) : Token := ⟨3, nInclude, if b then [⟨nSrc, oneU⟩, ⟨nOnerror, nContinue⟩] else [⟨nSrc, oneU⟩]⟩
theorem oneTag_inc : ∀ b, OneTag (incS b) (incT b) (incE b)
  | true => ⟨by rfl, by rfl, fun ks => by rfl⟩
  | false => ⟨by rfl, by rfl, fun ks => by rfl⟩
theorem address_one {base : List UInt8} (hb : (parseF base).2 = 0) (ha : (parseF base).1.abs = true) : addressF base oneU = (oneU, 0) :=
  address_own (u := (parseF oneU).1) (v := (parseF oneU).1) hb ha (by rfl) (fun b => by rfl) (by rfl) (by rfl)
theorem address_two {base : List UInt8} (hb : (parseF base).2 = 0) (ha : (parseF base).1.abs = true) : addressF base twoU = (twoU, 0) :=
  address_own (u := (parseF twoU).1) (v := (parseF twoU).1) hb ha (by rfl) (fun b => by rfl) (by rfl) (by rfl)
def oneU2 : List UInt8 := [104, 116, 116, 112, 58, 47, 47, 79, 78, 69, 47, 46, 47, 120]
def twoU2 : List UInt8 := [104, 116, 116, 112, 58, 47, 47, 116, 119, 111, 47, 122, 47, 46, 46, 47, 121]
theorem address_one2 {base : List UInt8} (hb : (parseF base).2 = 0) (ha : (parseF base).1.abs = true) : addressF base oneU2 = (oneU, 0) :=
  address_own (u := (parseF oneU2).1) (v := (parseF oneU).1) hb ha (by rfl) (fun b => by rfl) (by rfl) (by rfl)
theorem address_two2 {base : List UInt8} (hb : (parseF base).2 = 0) (ha : (parseF base).1.abs = true) : addressF base twoU2 = (twoU, 0) :=
  address_own (u := (parseF twoU2).1) (v := (parseF twoU).1) hb ha (by rfl) (fun b => by rfl) (by rfl) (by rfl)
def manyRep (body : List UInt8) : Rep := ⟨oneU, 200, false, body, 0⟩
def manyDep (body : List UInt8) : Dep := ⟨fun s => s, fun _ => (false, 0), [manyRep body], false⟩
theorem take_many {base body : List UInt8} (hb : (parseF base).2 = 0) (ha : (parseF base).1.abs = true) (hl : body.length ≤ 100) (b : Bool) (n c : Nat) :
    takeD (manyDep body) 4 base (List.replicate n (incE b)) oneU c = if 20 ≤ c then (failR [] 4, c) else (doneR body, c + 1) := by
  show takeStep (manyDep body) false _ base (List.replicate n (incE b)) oneU c = _
  unfold takeStep
  have hs : (manyDep body).sub oneU = oneU := rfl
  have hi : inlineF oneU (List.replicate n (incE b)) = none := inlineF_rep _ _ _ _ _
  have hg : goodF (manyDep body).replies oneU = some (manyRep body) := by rfl
  have hr : repBad (manyRep body) = 0 := by
    unfold repBad
    rw [if_neg (by simp [manyRep]), if_neg]
    rintro (h | h)
    · exact h rfl
    · have : (manyRep body).body.length = body.length := rfl
      omega
  simp only [hs, hi, address_one hb ha, hg, hr]
  rw [if_neg (by decide)]
  by_cases h : 20 ≤ c
  · rw [if_pos h, if_pos h]
  · rw [if_neg h, if_neg h]
    rfl
/-- What the include gives at a count. -/
theorem one_inc (D : Dep) (tk : Tk) (b : Bool) (body : List UInt8) (n c : Nat) (ht : ∀ c, tk oneU c = if 20 ≤ c then (failR [] 4, c) else (doneR body, c + 1)) :
    oneF D tk false n (incE b) c = if 20 ≤ c then ((if b then doneR [] else failR [] 4), c) else (doneR body, c + 1) := by
  rw [oneF_eq]
  show includeF tk oneU [] b c = _
  unfold includeF
  rw [ht]
  by_cases h : 20 ≤ c
  · rw [if_pos h, if_pos h]
    cases b <;> rfl
  · rw [if_neg h, if_neg h]
    simp [doneR, lessR]
theorem row_many (D : Dep) (tk : Tk) (b : Bool) (body : List UInt8) (hl : body.length ≤ 100) (ht : ∀ c, tk oneU c = if 20 ≤ c then (failR [] 4, c) else (doneR body, c + 1)) :
    ∀ (k c : Nat) (out : List UInt8), c ≤ 20 → out.length ≤ 100 * c →
      (rowF D tk false 0 out (List.replicate k (incE b)) c).1 = if c + k ≤ 20 ∨ b = true then doneR (out ++ repS body (min k (20 - c))) else failR (out ++ repS body (20 - c)) 4
  | 0, c, out, hc, ho => by
    rw [List.replicate_zero, rowF, if_pos (Or.inl (by omega)), Nat.zero_min]
    simp [repS]
  | k + 1, c, out, hc, ho => by
    rw [List.replicate_succ, rowF_cons, one_inc D tk b body _ c ht]
    by_cases h : 20 ≤ c
    · have hc20 : c = 20 := by omega
      subst hc20
      cases b with
      | false =>
        simp only [if_pos h]
        rw [if_neg (by simp [failR]; omega), if_pos (by simp [failR]), if_neg (by simp)]
        simp [failR, Res.behind, repS]
        try exact fun h9 => absurd h9 (by omega)
      | true =>
        simp only [if_pos h]
        rw [if_neg (by simp [doneR]; omega), if_neg (by simp [doneR])]
        show (rowF D tk false 0 (out ++ []) (List.replicate k (incE true)) 20).1 = _
        rw [List.append_nil, row_many D tk true body hl ht k 20 out (by omega) ho]
        simp only [or_true, if_true]
        rw [show min k (20 - 20) = 0 by omega, show min (k + 1) (20 - 20) = 0 by omega]
    · simp only [if_neg h]
      rw [if_neg (by simp [doneR]; omega), if_neg (by simp [doneR])]
      rw [show (doneR body).out = body from rfl, row_many D tk b body hl ht k (c + 1) (out ++ body) (by omega) (by rw [List.length_append]; omega)]
      have h1 : min (k + 1) (20 - c) = min k (20 - (c + 1)) + 1 := by omega
      have h2 : 20 - c = (20 - (c + 1)) + 1 := by omega
      rw [h1, repS_front, List.append_assoc]
      by_cases h3 : c + 1 + k ≤ 20 ∨ b = true
      · rw [if_pos h3, if_pos (h3.imp (fun h => by omega) id)]
      · rw [if_neg h3, if_neg (fun h => h3 (h.imp (fun h => by omega) id)), h2, repS_front, List.append_assoc]
theorem many_run {base body : List UInt8} (hb : (parseF base).2 = 0) (ha : (parseF base).1.abs = true) (hl : body.length ≤ 100) (b : Bool) (n : Nat) (hn : n ≤ 30) :
    erunF (manyDep body) base (repS (incS b) n) true = (if n ≤ 20 ∨ b = true then doneR (repS body (min n 20)) else failR (repS body 20) 4, 0) := by
  have hlen : (repS (incS b) n).length ≤ 2000 := by
    rw [repS_length]
    have : (incS b).length ≤ 60 := by cases b <;> decide
    exact Nat.le_trans (Nat.mul_le_mul hn this) (by decide)
  unfold erunF
  rw [if_pos (by unfold pageRight; rw [hb, ha]; simp; omega), if_pos rfl]
  unfold wholeF
  rw [readF_rep (oneTag_inc b) n (by omega), if_neg (by simp)]
  rw [row_many (manyDep body) _ b body hl (fun c => take_many hb ha hl b n c) n 0 [] (by omega) (by simp)]
  simp only [Nat.zero_add, List.nil_append, Nat.sub_zero]
theorem many_ok {v : EnvD} {body : List UInt8} (b : Bool) (n : Nat) (hn : n ≤ 400) : okL v (manyDep body) (readF (repS (incS b) n)).1 := by
  rw [readF_rep (oneTag_inc b) n hn]
  exact okL_rep (includeOk rfl (takeOk_plain rfl (by decide) (by decide) (by decide)) (fun h => absurd rfl h)) n

/-! ### One include with another address in its place -/
def elseS1 : List UInt8 := [40, 60, 101, 115, 105, 58, 105, 110, 99, 108, 117, 100, 101, 32, 115, 114, 99, 61, 34, 104, 116, 116, 112, 58, 47, 47, 111, 110, 101, 47, 120, 34, 32, 97, 108, 116, 61, 34, 104, 116, 116, 112, 58, 47, 47, 116, 119, 111, 47, 121, 34, 47, 62, 41]
def elseS2 : List UInt8 := [40, 60, 101, 115, 105, 58, 105, 110, 99, 108, 117, 100, 101, 32, 115, 114, 99, 61, 34, 104, 116, 116, 112, 58, 47, 47, 79, 78, 69, 47, 46, 47, 120, 34, 32, 97, 108, 116, 61, 34, 104, 116, 116, 112, 58, 47, 47, 116, 119, 111, 47, 122, 47, 46, 46, 47, 121, 34, 32, 111, 110, 101, 114, 114, 111, 114, 61, 34, 99, 111, 110, 116, 105, 110, 117, 101, 34, 47, 62, 41]
def elseEls (s a : List UInt8) (b : Bool) : List Elem := [.mk 1 [40] [] [] false [] [], .mk 2 [] s a b [] [], .mk 1 [41] [] [] false [] []]
theorem else_els1 : readF elseS1 = (elseEls oneU twoU false, 0) := by rfl
theorem else_els2 : readF elseS2 = (elseEls oneU2 twoU2 true, 0) := by rfl
def elseDep (a b : Rep) : Dep := ⟨fun s => s, fun _ => (false, 0), [a, b], false⟩
def gotF (r : Rep) (c : Nat) : Res × Nat := if repBad r ≠ 0 then (failR [] (repBad r), c + 1) else (doneR r.body, c + 1)
theorem take_else {base : List UInt8} {a b r : Rep} {s u s1 a1 : List UInt8} {b1 : Bool} (hu : addressF base s = (u, 0)) (hg : goodF [a, b] u = some r) (he : r.esi = false) (c : Nat) (hc : c < 20) :
    takeD (elseDep a b) 4 base (elseEls s1 a1 b1) s c = gotF r c := by
  show takeStep (elseDep a b) false _ base (elseEls s1 a1 b1) s c = _
  unfold takeStep gotF
  have hs : (elseDep a b).sub s = s := rfl
  have hi : inlineF s (elseEls s1 a1 b1) = none := by
    unfold elseEls
    rw [inlineF, inlineE_eq, if_neg (by rintro ⟨h, -⟩; exact absurd h (by show ¬ (1 : Int) = 3; decide))]
    show (match inlineF s [] with | some x => some x | none => _) = _
    rw [inlineF]
    show inlineF s _ = _
    rw [inlineF, inlineE_eq, if_neg (by rintro ⟨h, -⟩; exact absurd h (by show ¬ (2 : Int) = 3; decide))]
    show (match inlineF s [] with | some x => some x | none => _) = _
    rw [inlineF]
    show inlineF s _ = _
    rw [inlineF, inlineE_eq, if_neg (by rintro ⟨h, -⟩; exact absurd h (by show ¬ (1 : Int) = 3; decide))]
    show (match inlineF s [] with | some x => some x | none => _) = _
    rw [inlineF]
  have hg' : goodF (elseDep a b).replies u = some r := hg
  simp only [hs, hi, hu, hg', he]
  rw [if_neg (by decide), if_neg (by omega)]
  simp only [if_true]
def elseF (a b : Rep) (soft : Bool) : Res :=
  if repBad a = 0 then doneR ([40] ++ a.body ++ [41])
  else if repBad b = 0 then doneR ([40] ++ b.body ++ [41])
  else if soft then doneR [40, 41] else ⟨[40], 2, repBad b, []⟩
theorem else_row {base : List UInt8} {a b : Rep} {s t : List UInt8} {soft : Bool} (D : Dep) (tk : Tk) (hs : tk s 0 = gotF a 0) (ht : tk t 1 = gotF b 1) (htn : t ≠ []) (hal : a.body.length ≤ 1500) (hbl : b.body.length ≤ 1500) :
    (rowF D tk false 0 [] (elseEls s t soft) 0).1 = elseF a b soft := by
  have hone : (oneF D tk false 1 (.mk 2 [] s t soft [] []) 0).1 = (if repBad a = 0 then doneR a.body else if repBad b = 0 then doneR b.body else if soft then doneR [] else failR [] (repBad b)) := by
    rw [oneF_eq]
    show (includeF tk s t soft 0).1 = _
    unfold includeF
    rw [hs]
    unfold gotF at *
    by_cases h1 : repBad a = 0
    · simp [h1, doneR, lessR]
    · by_cases h2 : repBad b = 0
      · simp [h2] at ht
        simp [h1, h2, failR, htn, ht, doneR, lessR]
      · simp [h2] at ht
        cases soft <;> simp [h1, h2, failR, htn, ht, doneR, lessR]
  unfold elseEls
  rw [rowF_cons]
  rw [show oneF D tk false (0 + ([] : List UInt8).length) (.mk 1 [40] [] [] false [] []) 0 = (doneR [40], 0) from by rw [oneF_eq]; rfl]
  rw [if_neg (by simp [doneR]), if_neg (by simp [doneR])]
  show (rowF D tk false 0 [40] [.mk 2 [] s t soft [] [], .mk 1 [41] [] [] false [] []] 0).1 = _
  rw [rowF_cons]
  show (if 20000 < 0 + 1 + (oneF D tk false 1 (.mk 2 [] s t soft [] []) 0).1.out.length then (failR [40] 2, (oneF D tk false 1 (.mk 2 [] s t soft [] []) 0).2)
    else if (oneF D tk false 1 (.mk 2 [] s t soft [] []) 0).1.state ≠ 0 then ((oneF D tk false 1 (.mk 2 [] s t soft [] []) 0).1.behind [40], (oneF D tk false 1 (.mk 2 [] s t soft [] []) 0).2)
    else rowF D tk false 0 ([40] ++ (oneF D tk false 1 (.mk 2 [] s t soft [] []) 0).1.out) [.mk 1 [41] [] [] false [] []] (oneF D tk false 1 (.mk 2 [] s t soft [] []) 0).2).1 = _
  generalize (oneF D tk false 1 (.mk 2 [] s t soft [] []) 0) = Z at *
  obtain ⟨z, c⟩ := Z
  simp only at hone
  have hlast : ∀ (o : List UInt8), o.length ≤ 1500 → (rowF D tk false 0 ([40] ++ o) [.mk 1 [41] [] [] false [] []] c).1 = doneR ([40] ++ o ++ [41]) := by
    intro o ho
    rw [rowF_cons]
    rw [show ∀ n, oneF D tk false n (.mk 1 [41] [] [] false [] []) c = (doneR [41], c) from fun n => by rw [oneF_eq]; rfl]
    rw [if_neg (by simp [doneR]; omega), if_neg (by simp [doneR]), rowF]
    rfl
  unfold elseF
  by_cases h1 : repBad a = 0
  · rw [if_pos h1] at hone ⊢
    subst hone
    rw [if_neg (by show ¬ 20000 < 0 + 1 + a.body.length; omega), if_neg (by show ¬ ((0 : Int) ≠ 0); simp)]
    exact hlast _ hal
  · rw [if_neg h1] at hone ⊢
    by_cases h2 : repBad b = 0
    · rw [if_pos h2] at hone ⊢
      subst hone
      rw [if_neg (by show ¬ 20000 < 0 + 1 + b.body.length; omega), if_neg (by show ¬ ((0 : Int) ≠ 0); simp)]
      exact hlast _ hbl
    · rw [if_neg h2] at hone ⊢
      cases soft with
      | true =>
        rw [if_pos rfl] at hone ⊢
        subst hone
        rw [if_neg (by show ¬ 20000 < 0 + 1 + 0; omega), if_neg (by show ¬ ((0 : Int) ≠ 0); simp)]
        exact hlast [] (by simp)
      | false =>
        have hone : z = failR [] (repBad b) := by simpa using hone
        rw [show (if false = true then doneR [40, 41] else (⟨[40], 2, repBad b, []⟩ : Res)) = ⟨[40], 2, repBad b, []⟩ from rfl]
        rw [if_neg (by rw [hone]; show ¬ 20000 < 0 + 1 + 0; omega), if_pos (by rw [hone]; show (2 : Int) ≠ 0; decide)]
        rw [hone]
        rfl
def elseP (soft : Bool) : List UInt8 := if soft then elseS2 else elseS1
theorem else_run {base : List UInt8} (hb : (parseF base).2 = 0) (ha : (parseF base).1.abs = true) {a b : Rep} (hua : a.url = oneU) (hub : b.url = twoU) (hea : a.esi = false) (heb : b.esi = false) (hal : a.body.length ≤ 1500) (hbl : b.body.length ≤ 1500) (soft : Bool) :
    erunF (elseDep a b) base (elseP soft) true = (elseF a b soft, 0) := by
  have hga : goodF [a, b] oneU = some a := by
    unfold goodF
    rw [List.find?_cons, hua]
    rfl
  have hgb : goodF [a, b] twoU = some b := by
    unfold goodF
    rw [List.find?_cons, hua, show (oneU == twoU) = false from by rfl]
    simp only
    rw [List.find?_cons, hub]
    rfl
  unfold erunF
  rw [if_pos (by unfold pageRight; rw [hb, ha]; cases soft <;> rfl), if_pos rfl]
  unfold wholeF
  cases soft with
  | false =>
    show ((if (readF elseS1).2 ≠ 0 then failR [] (readF elseS1).2 else (rowF (elseDep a b) (takeD (elseDep a b) 4 base (readF elseS1).1) false 0 [] (readF elseS1).1 0).1), (0 : Int)) = _
    rw [else_els1, if_neg (by simp)]
    rw [else_row (base := base) (a := a) (b := b) (elseDep a b) _ (take_else (address_one hb ha) hga hea 0 (by omega)) (take_else (address_two hb ha) hgb heb 1 (by omega)) (by decide) hal hbl]
  | true =>
    show ((if (readF elseS2).2 ≠ 0 then failR [] (readF elseS2).2 else (rowF (elseDep a b) (takeD (elseDep a b) 4 base (readF elseS2).1) false 0 [] (readF elseS2).1 0).1), (0 : Int)) = _
    rw [else_els2, if_neg (by simp)]
    rw [else_row (base := base) (a := a) (b := b) (elseDep a b) _ (take_else (address_one2 hb ha) hga hea 0 (by omega)) (take_else (address_two2 hb ha) hgb heb 1 (by omega)) (by decide) hal hbl]
theorem else_ok {v : EnvD} {a b : Rep} (soft : Bool) : okL v (elseDep a b) (readF (elseP soft)).1 := by
  cases soft with
  | false =>
    rw [show elseP false = elseS1 from rfl, else_els1]
    exact okL_cons (textOk rfl (by decide) (by decide)) (okL_cons (includeOk rfl (takeOk_plain rfl (by decide) (by decide) (by decide)) (fun _ => takeOk_plain rfl (by decide) (by decide) (by decide))) (okL_cons (textOk rfl (by decide) (by decide)) okL_nil))
  | true =>
    rw [show elseP true = elseS2 from rfl, else_els2]
    exact okL_cons (textOk rfl (by decide) (by decide)) (okL_cons (includeOk rfl (takeOk_plain rfl (by decide) (by decide) (by decide)) (fun _ => takeOk_plain rfl (by decide) (by decide) (by decide))) (okL_cons (textOk rfl (by decide) (by decide)) okL_nil))
end Go.Proofs.YtijpfcjlochahaaGreatDoor
