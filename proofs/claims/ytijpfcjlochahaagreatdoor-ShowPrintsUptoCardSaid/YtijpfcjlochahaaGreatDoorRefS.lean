/- The reference's Build and Read, plainly: by recursion over tokens. They answer as the fold with a stack does. The walks of the reference's small functions of layer 15: kind, attr, blank, may. -/
import Derived.Test.YtijpfcjlochahaaGreatDoorDocF
import Derived.Test.YtijpfcjlochahaaGreatDoorProg
import Derived.Test.YtijpfcjlochahaaGreatDoorElem
import Derived.Test.YtijpfcjlochahaaGreatDoorApp
import Derived.Test.YtijpfcjlochahaaGreatDoorLexB
import Derived.Deep.CutRange
import Derived.BigQuiet
namespace Go.Proofs.YtijpfcjlochahaaGreatDoor
open Go Go.RowKit
set_option linter.unusedVariables false
set_option linter.unusedSimpArgs false

def kindF (s : List UInt8) : Int := match ruleF s with | some q => q.kind | none => 0
def findA : List Pair → List UInt8 → Option (List UInt8)
  | [], _ => none
  | p :: l, n => if p.name = n then some p.value else findA l n
def valA (l : List Pair) (n : List UInt8) : List UInt8 := (findA l n).getD []
def hasA (l : List Pair) (n : List UInt8) : Bool := (findA l n).isSome
def distA : List Pair → List Pair → Bool
  | _, [] => true
  | seen, p :: l => !seen.any (fun x => x.name == p.name) && distA (seen ++ [p]) l
def onlyF (ns : List (List UInt8)) : List Pair → List Pair → Bool
  | _, [] => true
  | seen, p :: l => (ns.any (fun n => p.name == n) && !seen.any (fun x => x.name == p.name)) && onlyF ns (seen ++ [p]) l
def elemR (t : Token) : Elem × Bool :=
  if kindF t.text = 2 then
    (.mk 2 [] (valA t.attrs nSrc) (valA t.attrs nAlt) (hasA t.attrs nOnerror) [] [], decide (valA t.attrs nSrc ≠ []) && (!hasA t.attrs nOnerror || decide (valA t.attrs nOnerror = nContinue)) && onlyF [nSrc, nAlt, nOnerror] [] t.attrs)
  else if kindF t.text = 3 then
    (.mk 3 [] (valA t.attrs nName) [] false [] [], decide (valA t.attrs nName ≠ []) && (!hasA t.attrs nFetchable || decide (valA t.attrs nFetchable = nYes) || decide (valA t.attrs nFetchable = nNo)) && onlyF [nName, nFetchable] [] t.attrs)
  else if kindF t.text = 12 then
    (.mk 12 (valA t.attrs nText) [] [] false [] [], hasA t.attrs nText && onlyF [nText] [] t.attrs)
  else if kindF t.text = 8 then
    (.mk 8 [] [] [] false (valA t.attrs nTest) [], hasA t.attrs nTest && onlyF [nTest] [] t.attrs)
  else (elem0 (kindF t.text), decide (t.attrs.length = 0))
theorem only_dist (ns : List (List UInt8)) : ∀ (l seen : List Pair), onlyF ns seen l = (l.all (fun p => ns.any (fun n => p.name == n)) && distA seen l)
  | [], seen => rfl
  | p :: l, seen => by
    rw [onlyF, distA, List.all_cons, only_dist ns l]
    cases ns.any (fun n => p.name == n) <;> cases seen.any (fun x => x.name == p.name) <;> cases l.all (fun p => ns.any (fun n => p.name == n)) <;> cases distA (seen ++ [p]) l <;> rfl
theorem dist_none : ∀ {l seen : List Pair} {n : List UInt8}, distA seen l = true → seen.any (fun x => x.name == n) = true → findA l n = none
  | [], seen, n, _, _ => rfl
  | p :: l, seen, n, h, hs => by
    rw [distA, Bool.and_eq_true, Bool.not_eq_true'] at h
    have hp : ¬ p.name = n := fun e => by rw [← e, h.1] at hs; cases hs
    rw [findA, if_neg hp]
    exact dist_none h.2 (by rw [List.any_append, hs, Bool.true_or])
theorem dist_find : ∀ {l seen : List Pair} {p : Pair}, distA seen l = true → p ∈ l → findA l p.name = some p.value
  | q :: l, seen, p, h, hp => by
    rw [distA, Bool.and_eq_true, Bool.not_eq_true'] at h
    rw [findA]
    rcases List.mem_cons.1 hp with rfl | hp
    · rw [if_pos rfl]
    · have h1 := dist_find h.2 hp
      by_cases e : q.name = p.name
      · have h2 := dist_none (n := p.name) h.2 (by rw [List.any_append]; simp [e])
        rw [h2] at h1
        cases h1
      · rw [if_neg e]
        exact h1
/-- May an attribute be, and what it sets. -/
def okA (kd : Int) (p : Pair) : Bool :=
  if kd = 2 then (p.name == nSrc && decide (p.value ≠ [])) || p.name == nAlt || (p.name == nOnerror && p.value == nContinue)
  else if kd = 3 then (p.name == nName && decide (p.value ≠ [])) || (p.name == nFetchable && (p.value == nYes || p.value == nNo))
  else if kd = 12 then p.name == nText
  else if kd = 8 then p.name == nTest
  else false
def setA (kd : Int) (e : Elem) (p : Pair) : Elem :=
  if kd = 2 then (if p.name = nSrc then e.setSrc p.value else if p.name = nAlt then e.setAlt p.value else e.setSoft true)
  else if kd = 3 then (if p.name = nName then e.setSrc p.value else e)
  else if kd = 12 then (e.setText p.value).setSoft true
  else (e.setTest p.value).setSoft true
theorem take_ok (kd : Int) (e : Elem) (p : Pair) : takeF kd e p.name p.value = if okA kd p then some (setA kd e p) else none := by
  unfold takeF okA setA
  have d1 : nAlt ≠ nSrc := by decide
  have d2 : nOnerror ≠ nSrc := by decide
  have d3 : nOnerror ≠ nAlt := by decide
  have d4 : nFetchable ≠ nName := by decide
  by_cases h2 : kd = 2
  · simp only [if_pos h2]
    by_cases n1 : p.name = nSrc
    · by_cases v : p.value = [] <;> simp [n1, v, d1.symm, d2.symm]
    · by_cases n2 : p.name = nAlt
      · simp [n2, d1]
      · by_cases n3 : p.name = nOnerror
        · by_cases v : p.value = nContinue <;> simp [n3, v, d2, d3]
        · simp [n1, n2, n3]
  · simp only [if_neg h2]
    by_cases h3 : kd = 3
    · simp only [if_pos h3]
      by_cases n1 : p.name = nName
      · by_cases v : p.value = [] <;> simp [n1, v, d4.symm]
      · by_cases n2 : p.name = nFetchable
        · by_cases v : p.value = nYes
          · simp [n2, v, d4]
          · by_cases v2 : p.value = nNo <;> simp [n2, v, v2, d4]
        · simp [n1, n2]
    · simp only [if_neg h3]
      by_cases h4 : kd = 12
      · simp only [if_pos h4]
        by_cases n : p.name = nText <;> simp [n]
      · simp only [if_neg h4]
        by_cases h5 : kd = 8
        · simp only [if_pos h5]
          by_cases n : p.name = nTest <;> simp [n]
        · simp [if_neg h5]
theorem attrs_fold (kd : Int) : ∀ (l seen : List Pair) (e : Elem), attrsF kd e seen l = if distA seen l && l.all (okA kd) then some (l.foldl (setA kd) e) else none
  | [], seen, e => rfl
  | p :: l, seen, e => by
    rw [attrsF, take_ok, distA, List.all_cons, List.foldl_cons]
    cases seen.any (fun x => x.name == p.name)
    · cases h : okA kd p
      · simp
      · simp only [if_true, attrs_fold kd l]
        simp
    · simp
theorem find_cons (p : Pair) (l : List Pair) (n : List UInt8) : findA (p :: l) n = if p.name = n then some p.value else findA l n := rfl
theorem fold2 : ∀ (l seen : List Pair) (t s a : List UInt8) (b : Bool) (u : List UInt8), distA seen l = true → l.all (okA 2) = true →
    l.foldl (setA 2) (.mk 2 t s a b u []) = .mk 2 t ((findA l nSrc).getD s) ((findA l nAlt).getD a) (b || hasA l nOnerror) u []
  | [], seen, t, s, a, b, u, _, _ => by simp [findA, hasA]
  | p :: l, seen, t, s, a, b, u, h, ho => by
    rw [distA, Bool.and_eq_true] at h
    rw [List.all_cons, Bool.and_eq_true] at ho
    have hn := dist_none (n := p.name) h.2 (by rw [List.any_append]; simp)
    have d1 : nAlt ≠ nSrc := by decide
    have d2 : nOnerror ≠ nSrc := by decide
    have d3 : nOnerror ≠ nAlt := by decide
    rw [List.foldl_cons]
    have hk : p.name = nSrc ∨ p.name = nAlt ∨ p.name = nOnerror := by
      have := ho.1
      simp only [okA, if_true, Bool.or_eq_true, Bool.and_eq_true, beq_iff_eq] at this
      rcases this with (⟨h, _⟩ | h) | ⟨h, _⟩
      · exact .inl h
      · exact .inr (.inl h)
      · exact .inr (.inr h)
    rcases hk with e | e | e
    · rw [show setA 2 (.mk 2 t s a b u []) p = .mk 2 t p.value a b u [] by simp [setA, e, Elem.setSrc], fold2 l _ t p.value a b u h.2 ho.2]
      rw [e] at hn
      simp [hasA, find_cons, e, hn, d1.symm, d2.symm]
    · rw [show setA 2 (.mk 2 t s a b u []) p = .mk 2 t s p.value b u [] by simp [setA, e, Elem.setAlt, d1], fold2 l _ t s p.value b u h.2 ho.2]
      rw [e] at hn
      simp [hasA, find_cons, e, hn, d1, d3.symm]
    · rw [show setA 2 (.mk 2 t s a b u []) p = .mk 2 t s a true u [] by simp [setA, e, Elem.setSoft, d2, d3], fold2 l _ t s a true u h.2 ho.2]
      simp [hasA, find_cons, e, d2, d3]
theorem fold3 : ∀ (l seen : List Pair) (t s a : List UInt8) (b : Bool) (u : List UInt8), distA seen l = true → l.all (okA 3) = true →
    l.foldl (setA 3) (.mk 3 t s a b u []) = .mk 3 t ((findA l nName).getD s) a b u []
  | [], seen, t, s, a, b, u, _, _ => by simp [findA]
  | p :: l, seen, t, s, a, b, u, h, ho => by
    rw [distA, Bool.and_eq_true] at h
    rw [List.all_cons, Bool.and_eq_true] at ho
    have hn := dist_none (n := p.name) h.2 (by rw [List.any_append]; simp)
    rw [List.foldl_cons]
    by_cases e : p.name = nName
    · rw [show setA 3 (.mk 3 t s a b u []) p = .mk 3 t p.value a b u [] by simp [setA, e, Elem.setSrc], fold3 l _ t p.value a b u h.2 ho.2]
      rw [e] at hn
      simp [find_cons, e, hn]
    · rw [show setA 3 (.mk 3 t s a b u []) p = .mk 3 t s a b u [] by simp [setA, e], fold3 l _ t s a b u h.2 ho.2]
      simp [find_cons, e]
theorem fold12 : ∀ (l seen : List Pair) (t s a : List UInt8) (b : Bool) (u : List UInt8), distA seen l = true → l.all (okA 12) = true →
    l.foldl (setA 12) (.mk 12 t s a b u []) = .mk 12 ((findA l nText).getD t) s a (b || hasA l nText) u []
  | [], seen, t, s, a, b, u, _, _ => by simp [findA, hasA]
  | p :: l, seen, t, s, a, b, u, h, ho => by
    rw [distA, Bool.and_eq_true] at h
    rw [List.all_cons, Bool.and_eq_true] at ho
    have hn := dist_none (n := p.name) h.2 (by rw [List.any_append]; simp)
    have e : p.name = nText := by simpa [okA] using ho.1
    rw [List.foldl_cons, show setA 12 (.mk 12 t s a b u []) p = .mk 12 p.value s a true u [] by simp [setA, Elem.setText, Elem.setSoft], fold12 l _ p.value s a true u h.2 ho.2]
    rw [e] at hn
    simp [hasA, find_cons, e, hn]
theorem fold8 : ∀ (l seen : List Pair) (t s a : List UInt8) (b : Bool) (u : List UInt8), distA seen l = true → l.all (okA 8) = true →
    l.foldl (setA 8) (.mk 8 t s a b u []) = .mk 8 t s a (b || hasA l nTest) ((findA l nTest).getD u) []
  | [], seen, t, s, a, b, u, _, _ => by simp [findA, hasA]
  | p :: l, seen, t, s, a, b, u, h, ho => by
    rw [distA, Bool.and_eq_true] at h
    rw [List.all_cons, Bool.and_eq_true] at ho
    have hn := dist_none (n := p.name) h.2 (by rw [List.any_append]; simp)
    have e : p.name = nTest := by simpa [okA] using ho.1
    rw [List.foldl_cons, show setA 8 (.mk 8 t s a b u []) p = .mk 8 t s a true p.value [] by simp [setA, Elem.setTest, Elem.setSoft], fold8 l _ t s a true p.value h.2 ho.2]
    rw [e] at hn
    simp [hasA, find_cons, e, hn]
/-- What begins, if it may: the code's and the reference's. -/
def takenF (kd : Int) (l : List Pair) : Option Elem :=
  match attrsF kd (elem0 kd) [] l with
  | none => none
  | some e => if needsF kd e = false then none else some (hardF kd e)
theorem ok_all {kd : Int} {l : List Pair} (hd : distA [] l = true) : l.all (okA kd) = true ↔ ∀ p ∈ l, findA l p.name = some p.value ∧ okA kd p = true := by
  rw [List.all_eq_true]
  exact ⟨fun h p hp => ⟨dist_find hd hp, h p hp⟩, fun h p hp => (h p hp).2⟩
theorem find_mem : ∀ {l : List Pair} {n v : List UInt8}, findA l n = some v → ∃ p ∈ l, p.name = n ∧ p.value = v
  | p :: l, n, v, h => by
    rw [findA] at h
    split at h
    · rename_i e
      exact ⟨p, List.mem_cons_self, e, by injection h⟩
    · obtain ⟨q, hq, h1⟩ := find_mem h
      exact ⟨q, List.mem_cons_of_mem _ hq, h1⟩
theorem taken_ref (t : Token) : takenF (kindF t.text) t.attrs = if (elemR t).2 = true then some (elemR t).1 else none := by
  unfold takenF elemR
  rw [attrs_fold]
  have d1 : nAlt ≠ nSrc := by decide
  have d2 : nOnerror ≠ nSrc := by decide
  have d3 : nOnerror ≠ nAlt := by decide
  have d4 : nFetchable ≠ nName := by decide
  have d5 : nYes ≠ nNo := by decide
  generalize kindF t.text = kd
  obtain ⟨tk, tx, l⟩ := t
  simp only
  by_cases h2 : kd = 2
  · subst h2
    simp only [if_true, only_dist]
    cases hd : distA [] l with
    | false => simp
    | true =>
      cases ho : l.all (okA 2) with
      | true =>
        have hall : l.all (fun p => [nSrc, nAlt, nOnerror].any (fun n => p.name == n)) = true := by
          rw [List.all_eq_true] at ho ⊢
          intro p hp
          have := ho p hp
          simp only [okA, if_true, Bool.or_eq_true, Bool.and_eq_true, beq_iff_eq] at this
          simp only [List.any_cons, List.any_nil, Bool.or_false, Bool.or_eq_true, beq_iff_eq]
          rcases this with (⟨h, _⟩ | h) | ⟨h, _⟩
          · exact .inl h
          · exact .inr (.inl h)
          · exact .inr (.inr h)
        have hon : (!hasA l nOnerror || decide (valA l nOnerror = nContinue)) = true := by
          cases hf : findA l nOnerror with
          | none => simp [hasA, hf]
          | some v =>
            obtain ⟨p, hp, hn, hv⟩ := find_mem hf
            have := List.all_eq_true.1 ho p hp
            simp only [okA, if_true, hn, Bool.or_eq_true, Bool.and_eq_true, beq_iff_eq, d2, d3, false_and, false_or, true_and] at this
            simp [hasA, valA, hf, ← hv, this]
        rw [hall, hon]
        simp only [Bool.and_self, Bool.and_true, if_true]
        unfold elem0
        rw [fold2 l [] [] [] [] false [] hd ho]
        by_cases hs : (findA l nSrc).getD [] = [] <;> simp [needsF, Elem.src, hs, valA, hardF, Elem.setSoft, Elem.soft]
      | false =>
        simp only [Bool.and_false, Bool.and_true, if_false, Bool.false_eq_true]
        symm
        rw [if_neg]
        intro h
        simp only [Bool.and_eq_true, decide_eq_true_eq, Bool.or_eq_true, Bool.not_eq_true'] at h
        obtain ⟨⟨hs, hon⟩, hall⟩ := h
        rw [← Bool.not_eq_true] at ho
        apply ho
        rw [List.all_eq_true] at hall ⊢
        intro p hp
        have hf := dist_find hd hp
        have := hall p hp
        simp only [List.any_cons, List.any_nil, Bool.or_false, Bool.or_eq_true, beq_iff_eq] at this
        rcases this with e | e | e
        · rw [e] at hf
          simp only [valA, hf, Option.getD_some] at hs
          simp [okA, e, hs]
        · simp [okA, e]
        · rw [e] at hf
          simp only [hasA, valA, hf, Option.isSome_some, Option.getD_some, Bool.true_eq_false, false_or] at hon
          simp [okA, e, hon]
  · by_cases h3 : kd = 3
    · subst h3
      simp only [if_neg h2, if_true, only_dist]
      cases hd : distA [] l with
      | false => simp
      | true =>
        cases ho : l.all (okA 3) with
        | true =>
          have hall : l.all (fun p => [nName, nFetchable].any (fun n => p.name == n)) = true := by
            rw [List.all_eq_true] at ho ⊢
            intro p hp
            have := ho p hp
            simp only [okA, if_neg h2, if_true, Bool.or_eq_true, Bool.and_eq_true, beq_iff_eq] at this
            simp only [List.any_cons, List.any_nil, Bool.or_false, Bool.or_eq_true, beq_iff_eq]
            rcases this with ⟨h, _⟩ | ⟨h, _⟩
            · exact .inl h
            · exact .inr h
          have hon : (!hasA l nFetchable || decide (valA l nFetchable = nYes) || decide (valA l nFetchable = nNo)) = true := by
            cases hf : findA l nFetchable with
            | none => simp [hasA, hf]
            | some v =>
              obtain ⟨p, hp, hn, hv⟩ := find_mem hf
              have := List.all_eq_true.1 ho p hp
              simp only [okA, if_neg h2, if_true, hn, Bool.or_eq_true, Bool.and_eq_true, beq_iff_eq, d4, false_and, false_or, true_and] at this
              simp only [hasA, valA, hf, ← hv, Option.isSome_some, Option.getD_some, Bool.not_true, Bool.false_or, Bool.or_eq_true, decide_eq_true_eq]
              exact this
          rw [hall, hon]
          simp only [Bool.and_self, Bool.and_true, if_true]
          unfold elem0
          rw [fold3 l [] [] [] [] false [] hd ho]
          by_cases hs : (findA l nName).getD [] = [] <;> simp [needsF, Elem.src, hs, valA, hardF, Elem.setSoft, Elem.soft]
        | false =>
          simp only [Bool.and_false, Bool.and_true, if_false, Bool.false_eq_true]
          symm
          rw [if_neg]
          intro h
          simp only [Bool.and_eq_true, decide_eq_true_eq, Bool.or_eq_true, Bool.not_eq_true'] at h
          obtain ⟨⟨hs, hon⟩, hall⟩ := h
          rw [← Bool.not_eq_true] at ho
          apply ho
          rw [List.all_eq_true] at hall ⊢
          intro p hp
          have hf := dist_find hd hp
          have := hall p hp
          simp only [List.any_cons, List.any_nil, Bool.or_false, Bool.or_eq_true, beq_iff_eq] at this
          rcases this with e | e
          · rw [e] at hf
            simp only [valA, hf, Option.getD_some] at hs
            simp [okA, e, hs]
          · rw [e] at hf
            simp only [hasA, valA, hf, Option.isSome_some, Option.getD_some, Bool.true_eq_false, false_or] at hon
            simp only [okA, if_neg h2, if_true, e, beq_self_eq_true, Bool.true_and, Bool.or_eq_true, beq_iff_eq]
            exact .inr hon
    · by_cases h12 : kd = 12
      · subst h12
        simp only [if_neg h2, if_neg h3, if_true, only_dist]
        cases hd : distA [] l with
        | false => simp
        | true =>
          have hall : l.all (fun p => [nText].any (fun n => p.name == n)) = l.all (okA 12) := by
            congr 1
            funext p
            simp [okA]
          rw [hall]
          cases ho : l.all (okA 12) with
          | true =>
            simp only [Bool.and_self, Bool.and_true, if_true]
            unfold elem0
            rw [fold12 l [] [] [] [] false [] hd ho]
            cases hh : hasA l nText <;> simp [needsF, Elem.soft, valA, hardF, Elem.setSoft, hh]
          | false => simp
      · by_cases h8 : kd = 8
        · subst h8
          simp only [if_neg h2, if_neg h3, if_neg h12, if_true, only_dist]
          cases hd : distA [] l with
          | false => simp
          | true =>
            have hall : l.all (fun p => [nTest].any (fun n => p.name == n)) = l.all (okA 8) := by
              congr 1
              funext p
              simp [okA]
            rw [hall]
            cases ho : l.all (okA 8) with
            | true =>
              simp only [Bool.and_self, Bool.and_true, if_true]
              unfold elem0
              rw [fold8 l [] [] [] [] false [] hd ho]
              cases hh : hasA l nTest <;> simp [needsF, Elem.soft, valA, hardF, Elem.setSoft, hh]
            | false => simp
        · simp only [if_neg h2, if_neg h3, if_neg h12, if_neg h8]
          cases l with
          | nil => simp [distA, needsF, h2, h3, h12, h8, elem0, hardF, Elem.setSoft, Elem.soft]
          | cons p l =>
            have : okA kd p = false := by simp [okA, h2, h3, h12, h8]
            simp [this]

def mayF (inn : Int) (before : List Elem) (k : Int) : Bool :=
  if inn = 4 then decide (k = 5 ∧ before.length = 0 ∨ k = 6 ∧ before.length = 1)
  else if inn = 7 then decide ((∀ u, before.getLast? = some u → u.kind ≠ 9) ∧ (k = 8 ∨ k = 9 ∧ 0 < before.length))
  else decide (k ≠ 5 ∧ k ≠ 6 ∧ k ≠ 8 ∧ k ≠ 9)
def aloneF (k : Int) : Bool := decide (k = 2 ∨ k = 12)
def endsR (t : Token) (inn : Int) (name : List UInt8) (l : List Elem) : Int :=
  if kindF t.text = 0 ∨ kindF t.text = 2 ∨ kindF t.text = 12 then 40
  else if t.text ≠ name ∨ inn = 4 ∧ l.length ≠ 2 ∨ inn = 7 ∧ l.length = 0 then 42 else 0
def beginR (sub : Int → List UInt8 → Nat → List Elem × Int × Nat) (room : Bool) (t : Token) (inn : Int) (out : List Elem) (i : Nat) : Elem × Int × Nat :=
  if kindF t.text = 0 ∨ aloneF (kindF t.text) ≠ decide (t.kind = 3) then ((elemR t).1, 40, i)
  else if (elemR t).2 = false then ((elemR t).1, 41, i)
  else if mayF inn out (kindF t.text) = false then ((elemR t).1, 42, i)
  else if aloneF (kindF t.text) = true then ((elemR t).1, 0, i)
  else if room = false then ((elemR t).1, 5, i)
  else ((elemR t).1.setKids (if kindF t.text = 11 then [] else (sub (kindF t.text) t.text i).1), (sub (kindF t.text) t.text i).2.1, (sub (kindF t.text) t.text i).2.2)
def loopR (sub : Int → List UInt8 → Nat → List Elem × Int × Nat) (room : Bool) (l : List Token) (inn : Int) (name : List UInt8) : Nat → Nat → List Elem → List Elem × Int × Nat
  | 0, i, out => (out, if name ≠ [] then 42 else 0, i)
  | n + 1, i, out =>
    match l[i]? with
    | none => (out, if name ≠ [] then 42 else 0, i)
    | some t =>
      if 400 ≤ i then (out, 4, i)
      else if t.kind = 2 then (out, endsR t inn name out, i + 1)
      else if t.kind = 1 ∨ t.kind = 3 then
        (if (beginR sub room t inn out (i + 1)).2.1 = 0 then loopR sub room l inn name n (beginR sub room t inn out (i + 1)).2.2 (out ++ [(beginR sub room t inn out (i + 1)).1])
         else (out ++ [(beginR sub room t inn out (i + 1)).1], (beginR sub room t inn out (i + 1)).2.1, (beginR sub room t inn out (i + 1)).2.2))
      else if inn = 4 ∨ inn = 7 then (if t.text.all blankB then loopR sub room l inn name n (i + 1) out else (out, 42, i + 1))
      else loopR sub room l inn name n (i + 1) (out ++ [textEl t.text])
def withinR (l : List Token) : Nat → Int → List UInt8 → Nat → List Elem × Int × Nat
  | 0, inn, name, i => loopR (fun _ _ i => ([], 0, i)) false l inn name (l.length + 1) i []
  | d + 1, inn, name, i => loopR (withinR l d) true l inn name (l.length + 1) i []
def buildR (l : List Token) : List Elem × Int :=
  let z := withinR (joinedF l) 16 0 [] 0
  if z.2.1 ≠ 0 then ([], z.2.1) else (z.1, 0)
def readR (s : List UInt8) : List Elem × Int := if (allF s).2 ≠ 0 then ([], (allF s).2) else buildR (allF s).1

/-- The sort of a name: its rule. -/
theorem rule_kind (s : List UInt8) : (kindF s = 0 ↔ ruleF s = none) ∧ ∀ q, ruleF s = some q → kindF s = q.kind ∧ q.alone = aloneF q.kind ∧ (q.inn = 0 ↔ q.kind ≠ 5 ∧ q.kind ≠ 6 ∧ q.kind ≠ 8 ∧ q.kind ≠ 9) ∧ s ≠ [] := by
  unfold kindF
  have key : ∀ q, ruleF s = some q → q.kind ≠ 0 ∧ q.alone = aloneF q.kind ∧ (q.inn = 0 ↔ q.kind ≠ 5 ∧ q.kind ≠ 6 ∧ q.kind ≠ 8 ∧ q.kind ≠ 9) ∧ s ≠ [] := by
    intro q hq
    unfold ruleF at hq
    repeat' split at hq
    all_goals first
      | (cases hq; done)
      | (injection hq with hq; subst hq; exact ⟨by decide, by decide, by decide, fun hs => by subst hs; rename_i h; exact absurd h (by decide)⟩)
  cases h : ruleF s with
  | none => exact ⟨⟨fun _ => rfl, fun _ => rfl⟩, fun q hq => by cases hq⟩
  | some q =>
    obtain ⟨k1, k2, k3, k4⟩ := key q h
    exact ⟨⟨fun e => absurd e k1, fun e => by cases e⟩, fun q' hq => by injection hq with hq; subst hq; exact ⟨rfl, k2, k3, k4⟩⟩
def Bad (z : List Level × Int) : Prop := z.2 ≠ 0 ∨ z.1.length ≠ 1
def keepK (inn : Int) (out : List Elem) : List Elem := if inn = 11 then [] else out
/-- The level that is open, with what is within. -/
def lev (e : Elem) (name : List UInt8) (out : List Elem) : Level := ⟨e.setKids (keepK e.kind out), name⟩
theorem put_lev (e x : Elem) (name : List UInt8) (out : List Elem) (r : List Level) : putF (lev e name out :: r) x = lev e name (out ++ [x]) :: r := by
  obtain ⟨k, t, s, a, b, u, l⟩ := e
  unfold putF putK lev keepK
  by_cases h : k = 11 <;> simp [h, Elem.kind, Elem.setKids, Elem.kids]
theorem fits_may (e : Elem) (out : List Elem) (q : Rule) (hq : q.inn = 0 ↔ q.kind ≠ 5 ∧ q.kind ≠ 6 ∧ q.kind ≠ 8 ∧ q.kind ≠ 9) :
    fitsF (e.setKids (keepK e.kind out)) q.kind q.inn = mayF e.kind out q.kind := by
  unfold fitsF mayF keepK
  by_cases h4 : e.kind = 4
  · simp [h4]
  · by_cases h7 : e.kind = 7
    · simp [h7, and_comm]
    · simp only [Elem.kind_setKids, if_neg h4, if_neg h7, hq]
/-- What a loop over tokens is to the fold. -/
def Tied (l : List Token) (e : Elem) (name : List UInt8) (r : List Level) (i : Nat) (out : List Elem) (z : List Elem × Int × Nat) : Prop :=
  (z.2.1 = 0 → name ≠ [] → buildLoop i (lev e name out :: r) (l.drop i) = buildLoop z.2.2 (putF r (e.setKids (keepK e.kind z.1))) (l.drop z.2.2)) ∧
  (z.2.1 = 0 → name = [] → buildLoop i (lev e name out :: r) (l.drop i) = ([lev e name z.1], 0)) ∧
  (z.2.1 ≠ 0 → Bad (buildLoop i (lev e name out :: r) (l.drop i))) ∧ i ≤ z.2.2
theorem drop_at {l : List Token} {i : Nat} {t : Token} (h : l[i]? = some t) : l.drop i = t :: l.drop (i + 1) := by
  obtain ⟨hi, rfl⟩ := List.getElem?_eq_some_iff.1 h
  exact List.drop_eq_getElem_cons hi
theorem loop_end {l : List Token} {e : Elem} {name : List UInt8} {r : List Level} {i : Nat} {out : List Elem} (h0 : l.drop i = []) (hr : name = [] ↔ r = []) :
    Tied l e name r i out (out, if name ≠ [] then 42 else 0, i) := by
  by_cases hn : name = []
  · rw [if_neg (fun h => h hn)]
    refine ⟨fun _ h => absurd hn h, fun _ _ => ?_, fun h => absurd rfl h, Nat.le_refl _⟩
    rw [h0, buildLoop, hr.1 hn]
  · rw [if_pos hn]
    refine ⟨fun h => (by cases h), fun h => (by cases h), fun _ => ?_, Nat.le_refl _⟩
    rw [h0, buildLoop]
    refine .inr ?_
    have : 0 < r.length := List.length_pos_iff.2 (fun h => hn (hr.2 h))
    simp only [List.length_cons]
    omega
theorem loop_tied (sub : Int → List UInt8 → Nat → List Elem × Int × Nat) (l : List Token) (d : Nat)
    (hsub : ∀ (e : Elem) (name : List UInt8) (r : List Level) (i : Nat), name ≠ [] → r ≠ [] → r.length + d = 17 → 0 < d → e.kids = [] → Tied l e name r i [] (sub e.kind name i))
    (e : Elem) (name : List UInt8) (r : List Level) (hr : name = [] ↔ r = []) (hd : r.length + d = 16) :
    ∀ (n i : Nat) (out : List Elem), l.length < n + i → Tied l e name r i out (loopR sub (decide (0 < d)) l e.kind name n i out)
  | 0, i, out, h => by
    rw [loopR]
    exact loop_end (List.drop_eq_nil_of_le (by omega)) hr
  | n + 1, i, out, h => by
    rw [loopR]
    cases ht : l[i]? with
    | none => exact loop_end (List.drop_eq_nil_of_le (List.getElem?_eq_none_iff.1 ht)) hr
    | some t =>
      have hdr := drop_at ht
      have hlen : i < l.length := (List.getElem?_eq_some_iff.1 ht).1
      simp only
      by_cases h4 : 400 ≤ i
      · rw [if_pos h4]
        refine ⟨fun h => (by cases h), fun h => (by cases h), fun _ => ?_, Nat.le_refl _⟩
        rw [hdr, buildLoop, if_pos h4]
        exact .inl (show (4:Int) ≠ 0 by decide)
      · rw [if_neg h4]
        by_cases hk2 : t.kind = 2
        · rw [if_pos hk2]
          have hT : takeTok (lev e name out :: r) t = closeF (lev e name out :: r) t := by
            unfold takeTok
            rw [if_neg (by rw [hk2]; decide), if_pos hk2]
          have hC : closeF (lev e name out :: r) t = if endsR t e.kind name out = 0 then (putF r (e.setKids (keepK e.kind out)), 0) else (lev e name out :: r, endsR t e.kind name out) := by
            unfold closeF endsR
            obtain ⟨k1, k2⟩ := rule_kind t.text
            cases hq : ruleF t.text with
            | none => simp only [k1.2 hq, true_or, if_true]; rfl
            | some q =>
              obtain ⟨q1, q2, q3, q4⟩ := k2 q hq
              have q0 : ¬ kindF t.text = 0 := fun h => by rw [k1.1 h] at hq; cases hq
              simp only
              by_cases ha : q.alone = true
              · have : kindF t.text = 0 ∨ kindF t.text = 2 ∨ kindF t.text = 12 := by
                  rw [q2, aloneF, decide_eq_true_eq] at ha
                  rw [q1]
                  exact .inr ha
                rw [if_pos ha, if_pos this]
                rfl
              · have : ¬ (kindF t.text = 0 ∨ kindF t.text = 2 ∨ kindF t.text = 12) := by
                  rw [q2, aloneF, decide_eq_true_eq] at ha
                  rw [q1] at q0 ⊢
                  exact fun h => h.elim q0 ha
                rw [if_neg ha, if_neg this]
                have hcond : (r = [] ∨ (lev e name out).name ≠ t.text ∨ (lev e name out).e.kind = 4 ∧ (lev e name out).e.kids.length ≠ 2 ∨ (lev e name out).e.kind = 7 ∧ (lev e name out).e.kids.length = 0) ↔
                    (t.text ≠ name ∨ e.kind = 4 ∧ out.length ≠ 2 ∨ e.kind = 7 ∧ out.length = 0) := by
                  simp only [lev, Elem.kind_setKids, Elem.kids_setKids, keepK]
                  constructor
                  · rintro (h | h | ⟨h, h2⟩ | ⟨h, h2⟩)
                    · exact .inl (by rw [hr.2 h]; exact q4)
                    · exact .inl (fun e => h e.symm)
                    · exact .inr (.inl ⟨h, by rw [h] at h2; simpa using h2⟩)
                    · exact .inr (.inr ⟨h, by rw [h] at h2; simpa using h2⟩)
                  · rintro (h | ⟨h, h2⟩ | ⟨h, h2⟩)
                    · exact .inr (.inl (fun e => h e.symm))
                    · exact .inr (.inr (.inl ⟨h, by rw [h]; simpa using h2⟩))
                    · exact .inr (.inr (.inr ⟨h, by rw [h]; simpa using h2⟩))
                by_cases hc : t.text ≠ name ∨ e.kind = 4 ∧ out.length ≠ 2 ∨ e.kind = 7 ∧ out.length = 0
                · rw [if_pos (hcond.2 hc), if_pos hc]
                  rfl
                · rw [if_neg (fun h => hc (hcond.1 h)), if_neg hc]
                  rfl
          have hnn : endsR t e.kind name out = 0 → name ≠ [] := by
            intro h hn
            unfold endsR at h
            split at h
            · cases h
            · rename_i h1
              split at h
              · cases h
              · rename_i h2
                refine h2 (.inl ?_)
                rw [hn]
                cases hq : ruleF t.text with
                | none => exact absurd (.inl ((rule_kind t.text).1.2 hq)) h1
                | some q => exact ((rule_kind t.text).2 q hq).2.2.2
          refine ⟨fun h _ => ?_, fun h hn => absurd hn (hnn h), fun h => ?_, Nat.le_succ _⟩
          · simp only at h ⊢
            rw [hdr, buildLoop, if_neg h4, hT, hC, if_pos h, if_neg (by simp)]
          · simp only at h
            rw [hdr, buildLoop, if_neg h4, hT, hC, if_neg h, if_pos h]
            exact .inl h
        · rw [if_neg hk2]
          by_cases hk1 : t.kind = 1 ∨ t.kind = 3
          · rw [if_pos hk1]
            have hT : takeTok (lev e name out :: r) t = beginF (lev e name out :: r) t := by
              unfold takeTok
              rw [if_pos hk1]
            obtain ⟨k1, k2⟩ := rule_kind t.text
            have htk := taken_ref t
            -- an error: both refuse
            have bad : ∀ (x : Elem) (err : Int) (j : Nat) (err2 : Int), err ≠ 0 → err2 ≠ 0 → i ≤ j → beginF (lev e name out :: r) t = (lev e name out :: r, err2) →
                Tied l e name r i out (if err = 0 then loopR sub (decide (0 < d)) l e.kind name n j (out ++ [x]) else (out ++ [x], err, j)) := by
              intro x err j err2 he he2 hj hB
              rw [if_neg he]
              refine ⟨fun h => absurd h he, fun h => absurd h he, fun _ => ?_, hj⟩
              rw [hdr, buildLoop, if_neg h4, hT, hB, if_pos he2]
              exact .inl he2
            generalize hbz : beginR sub (decide (0 < d)) t e.kind out (i + 1) = bz
            unfold beginR at hbz
            cases hq : ruleF t.text with
            | none =>
              have hc : kindF t.text = 0 ∨ aloneF (kindF t.text) ≠ decide (t.kind = 3) := .inl (k1.2 hq)
              rw [if_pos hc] at hbz
              subst hbz
              exact bad _ 40 (i + 1) 40 (by decide) (by decide) (Nat.le_succ _) (by unfold beginF; rw [hq])
            | some q =>
              obtain ⟨q1, q2, q3, q4⟩ := k2 q hq
              have q0 : ¬ kindF t.text = 0 := fun h => by rw [k1.1 h] at hq; cases hq
              have hB : beginF (lev e name out :: r) t = if q.alone ≠ decide (t.kind = 3) then (lev e name out :: r, (40 : Int)) else match takenF q.kind t.attrs with
                  | none => (lev e name out :: r, (41 : Int))
                  | some x => if fitsF (lev e name out).e q.kind q.inn = false then (lev e name out :: r, 42) else if q.alone then (putF (lev e name out :: r) x, 0) else if 16 < (lev e name out :: r).length then (lev e name out :: r, 5) else (⟨x, t.text⟩ :: lev e name out :: r, 0) := by
                unfold beginF takenF
                rw [hq]
                simp only
                split
                · rfl
                · cases attrsF q.kind (elem0 q.kind) [] t.attrs with
                  | none => rfl
                  | some x =>
                    simp only
                    cases needsF q.kind x <;> rfl
              rw [q1, ← q2] at hbz
              rw [q1] at q0 htk
              by_cases ha : q.alone = decide (t.kind = 3)
              · have hn : ¬ (q.kind = 0 ∨ q.alone ≠ decide (t.kind = 3)) := fun h => h.elim q0 (fun h => h ha)
                rw [if_neg hn] at hbz
                rw [if_neg (by simp [ha]), htk] at hB
                cases he : (elemR t).2 with
                | false =>
                  rw [if_neg (by rw [he]; decide)] at hB
                  rw [if_pos he] at hbz
                  subst hbz
                  exact bad _ 41 (i + 1) 41 (by decide) (by decide) (Nat.le_succ _) hB
                | true =>
                  rw [if_pos he] at hB
                  rw [if_neg (by rw [he]; decide)] at hbz
                  simp only at hB
                  rw [show fitsF (lev e name out).e q.kind q.inn = mayF e.kind out q.kind from fits_may e out q q3] at hB
                  cases hm : mayF e.kind out q.kind with
                  | false =>
                    rw [if_pos hm] at hB
                    rw [if_pos hm] at hbz
                    subst hbz
                    exact bad _ 42 (i + 1) 42 (by decide) (by decide) (Nat.le_succ _) hB
                  | true =>
                    rw [if_neg (by rw [hm]; decide)] at hB
                    rw [if_neg (by rw [hm]; decide)] at hbz
                    cases hal : q.alone with
                    | true =>
                      rw [if_pos hal, put_lev] at hB
                      rw [if_pos hal] at hbz
                      subst hbz
                      show Tied l e name r i out (if (0:Int) = 0 then loopR sub (decide (0 < d)) l e.kind name n (i + 1) (out ++ [(elemR t).1]) else (out ++ [(elemR t).1], 0, i + 1))
                      rw [if_pos rfl]
                      have ih := loop_tied sub l d hsub e name r hr hd n (i + 1) (out ++ [(elemR t).1]) (by omega)
                      have hstep : buildLoop i (lev e name out :: r) (l.drop i) = buildLoop (i + 1) (lev e name (out ++ [(elemR t).1]) :: r) (l.drop (i + 1)) := by
                        rw [hdr, buildLoop, if_neg h4, hT, hB, if_neg (by simp)]
                      unfold Tied at ih ⊢
                      rw [hstep]
                      exact ⟨ih.1, ih.2.1, ih.2.2.1, Nat.le_trans (Nat.le_succ _) ih.2.2.2⟩
                    | false =>
                      rw [if_neg (by rw [hal]; decide)] at hB
                      rw [if_neg (by rw [hal]; decide)] at hbz
                      by_cases hd0 : 0 < d
                      · have hlen2 : ¬ 16 < (lev e name out :: r).length := by rw [List.length_cons]; omega
                        rw [if_neg hlen2] at hB
                        rw [if_neg (by rw [decide_eq_true hd0]; decide)] at hbz
                        have hkx : (elemR t).1.kind = q.kind ∧ (elemR t).1.kids = [] := by
                          unfold elemR
                          rw [q1]
                          by_cases e2 : q.kind = 2
                          · rw [if_pos e2]; exact ⟨e2.symm, rfl⟩
                          · rw [if_neg e2]
                            by_cases e3 : q.kind = 3
                            · rw [if_pos e3]; exact ⟨e3.symm, rfl⟩
                            · rw [if_neg e3]
                              by_cases e12 : q.kind = 12
                              · rw [if_pos e12]; exact ⟨e12.symm, rfl⟩
                              · rw [if_neg e12]
                                by_cases e8 : q.kind = 8
                                · rw [if_pos e8]; exact ⟨e8.symm, rfl⟩
                                · rw [if_neg e8]; exact ⟨rfl, rfl⟩
                        have hs := hsub (elemR t).1 t.text (lev e name out :: r) (i + 1) q4 (by simp) (by rw [List.length_cons]; omega) hd0 hkx.2
                        rw [hkx.1] at hs
                        generalize (elemR t).1 = x at hkx hs hbz hB
                        have hlx : lev x t.text [] = ⟨x, t.text⟩ := by
                          unfold lev keepK
                          obtain ⟨xk, xt, xs, xa, xb, xu, xl⟩ := x
                          have := hkx.2
                          simp only [Elem.kids] at this
                          subst this
                          simp [Elem.setKids]
                        have hstep : buildLoop i (lev e name out :: r) (l.drop i) = buildLoop (i + 1) (lev x t.text [] :: lev e name out :: r) (l.drop (i + 1)) := by
                          rw [hdr, buildLoop, if_neg h4, hT, hB, if_neg (by simp), hlx]
                        generalize sub q.kind t.text (i + 1) = z at hs hbz
                        obtain ⟨zl, ze, zi⟩ := z
                        subst hbz
                        unfold Tied at hs
                        simp only at hs
                        show Tied l e name r i out (if ze = 0 then loopR sub (decide (0 < d)) l e.kind name n zi (out ++ [x.setKids (if q.kind = 11 then [] else zl)]) else (out ++ [x.setKids (if q.kind = 11 then [] else zl)], ze, zi))
                        by_cases hze : ze = 0
                        · rw [if_pos hze]
                          have h1 := hs.1 hze q4
                          have hzi : i + 1 ≤ zi := hs.2.2.2
                          rw [hkx.1, show keepK q.kind zl = (if q.kind = 11 then [] else zl) from rfl] at h1
                          rw [put_lev] at h1
                          have ih := loop_tied sub l d hsub e name r hr hd n zi (out ++ [x.setKids (if q.kind = 11 then [] else zl)]) (by omega)
                          unfold Tied at ih ⊢
                          rw [hstep, h1]
                          exact ⟨ih.1, ih.2.1, ih.2.2.1, Nat.le_trans (by omega) ih.2.2.2⟩
                        · rw [if_neg hze]
                          refine ⟨fun h => absurd h hze, fun h => absurd h hze, fun _ => ?_, Nat.le_trans (Nat.le_succ _) hs.2.2.2⟩
                          rw [hstep]
                          exact hs.2.2.1 hze
                      · have hlen2 : 16 < (lev e name out :: r).length := by rw [List.length_cons]; omega
                        rw [if_pos hlen2] at hB
                        rw [if_pos (decide_eq_false hd0)] at hbz
                        subst hbz
                        exact bad _ 5 (i + 1) 5 (by decide) (by decide) (Nat.le_succ _) hB
              · have hc : q.kind = 0 ∨ q.alone ≠ decide (t.kind = 3) := .inr ha
                rw [if_pos hc] at hbz
                rw [if_pos ha] at hB
                subst hbz
                exact bad _ 40 (i + 1) 40 (by decide) (by decide) (Nat.le_succ _) hB
          · rw [if_neg hk1]
            have hT : takeTok (lev e name out :: r) t = wordF (lev e name out :: r) t := by
              unfold takeTok
              rw [if_neg hk1, if_neg hk2]
            have hW : wordF (lev e name out :: r) t = if e.kind = 4 ∨ e.kind = 7 then (lev e name out :: r, if t.text.all blankB then 0 else 42) else (lev e name (out ++ [textEl t.text]) :: r, 0) := by
              unfold wordF
              simp only [show (lev e name out).e.kind = e.kind from Elem.kind_setKids _ _, put_lev]
            by_cases hi : e.kind = 4 ∨ e.kind = 7
            · rw [if_pos hi] at hW ⊢
              cases hb : t.text.all blankB with
              | true =>
                rw [hb, if_pos rfl] at hW
                simp only [if_true]
                have ih := loop_tied sub l d hsub e name r hr hd n (i + 1) out (by omega)
                have hstep : buildLoop i (lev e name out :: r) (l.drop i) = buildLoop (i + 1) (lev e name out :: r) (l.drop (i + 1)) := by
                  rw [hdr, buildLoop, if_neg h4, hT, hW, if_neg (by simp)]
                unfold Tied at ih ⊢
                rw [hstep]
                exact ⟨ih.1, ih.2.1, ih.2.2.1, Nat.le_trans (Nat.le_succ _) ih.2.2.2⟩
              | false =>
                rw [hb, if_neg (by decide)] at hW
                simp only [Bool.false_eq_true, if_false]
                refine ⟨fun h => (by cases h), fun h => (by cases h), fun _ => ?_, Nat.le_succ _⟩
                rw [hdr, buildLoop, if_neg h4, hT, hW, if_pos (show (42:Int) ≠ 0 by decide)]
                exact .inl (show (42:Int) ≠ 0 by decide)
            · rw [if_neg hi] at hW ⊢
              have ih := loop_tied sub l d hsub e name r hr hd n (i + 1) (out ++ [textEl t.text]) (by omega)
              have hstep : buildLoop i (lev e name out :: r) (l.drop i) = buildLoop (i + 1) (lev e name (out ++ [textEl t.text]) :: r) (l.drop (i + 1)) := by
                rw [hdr, buildLoop, if_neg h4, hT, hW, if_neg (by simp)]
              unfold Tied at ih ⊢
              rw [hstep]
              exact ⟨ih.1, ih.2.1, ih.2.2.1, Nat.le_trans (Nat.le_succ _) ih.2.2.2⟩
theorem within_tied (l : List Token) : ∀ (d : Nat) (e : Elem) (name : List UInt8) (r : List Level) (i : Nat), (name = [] ↔ r = []) → r.length + d = 16 → Tied l e name r i [] (withinR l d e.kind name i)
  | 0, e, name, r, i, hr, hd => loop_tied _ l 0 (fun _ _ _ _ _ _ _ h => absurd h (Nat.lt_irrefl 0)) e name r hr hd (l.length + 1) i [] (by omega)
  | d + 1, e, name, r, i, hr, hd => by
    have := loop_tied (withinR l d) l (d + 1) (fun e' name' r' i' hn hr' hd' _ _ => within_tied l d e' name' r' i' ⟨fun h => absurd h hn, fun h => absurd h hr'⟩ (by omega)) e name r hr hd (l.length + 1) i [] (by omega)
    rw [decide_eq_true (Nat.succ_pos d)] at this
    exact this
theorem build_ref (l : List Token) : ((buildR l).2 = 0 → buildR l = buildF l) ∧ ((buildF l).2 = 0 → buildR l = buildF l) := by
  have h := within_tied (joinedF l) 16 (elem0 0) [] [] 0 ⟨fun _ => rfl, fun _ => rfl⟩ rfl
  unfold buildR buildF
  rw [show (elem0 0).kind = 0 from rfl] at h
  unfold Tied at h
  rw [List.drop_zero, show lev (elem0 0) [] [] = page0 from rfl] at h
  generalize withinR (joinedF l) 16 0 [] 0 = z at *
  obtain ⟨zl, ze, zi⟩ := z
  simp only at h ⊢
  by_cases hz : ze = 0
  · have h1 := h.2.1 hz trivial
    rw [h1]
    simp only [hz, ne_eq, not_true_eq_false, if_false, lev, keepK, Elem.kids_setKids]
    exact ⟨fun _ => rfl, fun _ => rfl⟩
  · have h1 := h.2.2.1 hz
    simp only [ne_eq, hz, not_false_eq_true, if_true]
    refine ⟨fun h => h.elim, fun h2 => ?_⟩
    exfalso
    generalize buildLoop 0 [page0] (joinedF l) = y at *
    obtain ⟨yl, ye⟩ := y
    simp only at h2
    rcases h1 with h1 | h1
    · simp only at h1
      rw [if_pos h1] at h2
      exact h1 h2
    · simp only at h1
      split at h2
      · rename_i h3
        exact h3 h2
      · match yl, h1, h2 with
        | [], _, h2 => cases h2
        | [p], h1, _ => exact h1 rfl
        | p :: q :: r, _, h2 => cases h2
theorem read_ref (s : List UInt8) : ((readR s).2 = 0 → readR s = readF s) ∧ ((readF s).2 = 0 → readR s = readF s) := by
  unfold readR readF
  split
  · rename_i h
    exact ⟨fun _ => rfl, fun _ => rfl⟩
  · exact build_ref _
end Go.Proofs.YtijpfcjlochahaaGreatDoor
namespace Go.Proofs.YtijpfcjlochahaaGreatDoor
set_option linter.unusedVariables false
set_option linter.unusedSimpArgs false
open Go Go.RowKit

def kNames : List (List UInt8) := [[], [], nInclude, nInline, nTry, nAttempt, nExcept, nChoose, nWhen, nOtherwise, nVars, nRemove, nComment]
def kn (k : Nat) : List UInt8 := kNames[k]?.getD []
theorem upto13 {k : Nat} (hk : k < 13) : k = 0 ∨ k = 1 ∨ k = 2 ∨ k = 3 ∨ k = 4 ∨ k = 5 ∨ k = 6 ∨ k = 7 ∨ k = 8 ∨ k = 9 ∨ k = 10 ∨ k = 11 ∨ k = 12 := by omega
theorem kind_hit {s : List UInt8} {k : Nat} (hk : k < 13) (h : kn k = s) (hn : s ≠ []) : kindF s = k := by
  subst h
  rcases upto13 hk with rfl | rfl | rfl | rfl | rfl | rfl | rfl | rfl | rfl | rfl | rfl | rfl | rfl
  all_goals first
    | exact absurd rfl hn
    | rfl
theorem kind_miss {s : List UInt8} (h : ∀ j, j < 13 → kn j = s → kn j = []) : kindF s = 0 := by
  have key : ∀ (j : Nat) (n : List UInt8), j < 13 → kn j = n → n ≠ [] → ¬ s = n := fun j n hj hk hn hs => hn (hk ▸ h j hj (hk.trans hs.symm))
  unfold kindF ruleF
  rw [if_neg (key 2 nInclude (by omega) rfl (by decide)), if_neg (key 12 nComment (by omega) rfl (by decide)), if_neg (key 3 nInline (by omega) rfl (by decide)), if_neg (key 10 nVars (by omega) rfl (by decide)), if_neg (key 11 nRemove (by omega) rfl (by decide)),
    if_neg (key 4 nTry (by omega) rfl (by decide)), if_neg (key 5 nAttempt (by omega) rfl (by decide)), if_neg (key 6 nExcept (by omega) rfl (by decide)), if_neg (key 7 nChoose (by omega) rfl (by decide)), if_neg (key 8 nWhen (by omega) rfl (by decide)), if_neg (key 9 nOtherwise (by omega) rfl (by decide))]
set_option maxRecDepth 20000 in
set_option maxHeartbeats 1000000 in
theorem kind_calls (s : ByteArray) (w : World) : Calls Tryz.prog 154 #[.string s] w fun e w' => e = .returned (.int .i64 (kindF (L s))) ∧ Below w.heap.size w w' := by
  have hX := Blk.new w 9 #[.string (bs []), .string (bs []), .string (bs nInclude), .string (bs nInline), .string (bs nTry), .string (bs nAttempt), .string (bs nExcept), .string (bs nChoose), .string (bs nWhen), .string (bs nOtherwise), .string (bs nVars), .string (bs nRemove), .string (bs nComment)]
  have HC0 : Hid (∀ k, k < 13 → (w.alloc (.cells #[.string (bs []), .string (bs []), .string (bs nInclude), .string (bs nInline), .string (bs nTry), .string (bs nAttempt), .string (bs nExcept), .string (bs nChoose), .string (bs nWhen), .string (bs nOtherwise), .string (bs nVars), .string (bs nRemove), .string (bs nComment)] 9)).cell? ⟨w.heap.size, k, none⟩ = some (.string (bs (kn k)))) := by
    intro k hk
    rcases upto13 hk with rfl | rfl | rfl | rfl | rfl | rfl | rfl | rfl | rfl | rfl | rfl | rfl | rfl
    all_goals exact hX.cell _
  have HB0 : Hid (Below w.heap.size w (w.alloc (.cells #[.string (bs []), .string (bs []), .string (bs nInclude), .string (bs nInline), .string (bs nTry), .string (bs nAttempt), .string (bs nExcept), .string (bs nChoose), .string (bs nWhen), .string (bs nOtherwise), .string (bs nVars), .string (bs nRemove), .string (bs nComment)] 9))) := (Below.refl _ _).alloc (Nat.le_refl _) _
  clear hX
  go_enter Tryz.func154, Tryz.ntmps154
  go_wp2_with fail
  go_loopw [3, 4, 7] (fun _ _ iv wr => ∃ k : Nat, k ≤ 13 ∧ iv = .int .i64 k ∧ Hid (∀ j, j < k → kn j = L s → kn j = []) ∧ Hid (∀ k, k < 13 → wr.cell? ⟨w.heap.size, k, none⟩ = some (.string (bs (kn k)))) ∧ Hid (Below w.heap.size w wr))
     (fun _ _ iv _ => 13 - (intOf iv).toNat)
  case atStart => exact ⟨0, Nat.zero_le _, rfl, fun j h => absurd h (Nat.not_lt_zero j), HC0.out, HB0.out⟩
  case round =>
    clear HC0 HB0
    obtain ⟨k, hk, rfl, HM, HC, HB⟩ := hrel
    by_cases hlt : k < 13
    · have e0 := HC.out k hlt
      have hk1 : (0 : Int) ≤ (k : Int) := by omega
      have hk2 : (k : Int) < 13 := by omega
      have HH := Lib.hid (fun h1 h2 => kind_hit (s := L s) hlt h1 h2)
      generalize hq : kn k = q at *
      have HQ := Lib.hid hq
      have htl : (bs q).toList = q := toList_bs q
      have hsl : s.toList = L s := toList_L s
      clear hq
      cases h1 : (q == L s) with
      | true =>
        have H1 : Hid (q = L s) := beq_iff_eq.1 h1
        cases h2 : q.isEmpty with
        | true =>
          have H2 : Hid (q = []) := List.isEmpty_iff.1 h2
          go_wp2_with fail
          go_roundw
          case rel => exact ⟨k + 1, hlt, by go_num, fun j hj h => (by rcases Nat.lt_succ_iff_lt_or_eq.1 hj with h3 | rfl; exact HM.out j h3 h; rw [HQ.out]; exact H2.out), HC.out, HB.out⟩
          case measure => simp [intOf]; omega
        | false =>
          have H2 : Hid (L s ≠ []) := fun h => by rw [← H1.out] at h; rw [h] at h2; cases h2
          go_wp2_with fail
          go_ret
          exact ⟨by rw [HH.out (H1.out) H2.out]; rfl, HB.out⟩
      | false =>
        have H1 : Hid (q ≠ L s) := fun h => by rw [h] at h1; simp at h1
        go_wp2_with fail
        go_roundw
        case rel => exact ⟨k + 1, hlt, by go_num, fun j hj h => (by rcases Nat.lt_succ_iff_lt_or_eq.1 hj with h3 | rfl; exact HM.out j h3 h; rw [HQ.out] at h; exact absurd h H1.out), HC.out, HB.out⟩
        case measure => simp [intOf]; omega
    · have hkl : k = 13 := by omega
      subst hkl
      go_wp2_with fail
      go_ret
      exact ⟨by rw [kind_miss HM.out]; rfl, HB.out⟩
theorem find_step {l : List Pair} {j : Nat} (h : j < l.length) (n : List UInt8) : findA (l.drop j) n = if l[j].name = n then some l[j].value else findA (l.drop (j + 1)) n := by
  rw [List.drop_eq_getElem_cons h]; rfl
set_option maxRecDepth 20000 in
set_option maxHeartbeats 1000000 in
theorem rattr_calls (kd : Int) (tx n : ByteArray) (va : Value) (l : List Pair) (F : Nat → Prop) (w : World) (hv : GR w F (.row 2 (l.map Pair.gv)) [va]) :
    Calls Tryz.prog 185 #[.agg #[.int .i64 kd, .string tx, va], .string n] w fun e w' => e = .returned (.tuple #[.string (bs (valA l (L n))), .bool (hasA l (L n))]) ∧ Below w.heap.size w w' := by
  obtain ⟨A, c, rfl, hlc, hcm, hop⟩ := pairs_open (GR.lt_heap _ _ hv)
  have HOP := Lib.hid hop
  unfold maxLen at hcm
  have HB0 := Lib.hid ((Below.refl w.heap.size w).alloc (Nat.le_refl _) (.cells #[.int .i64 kd, .string tx, .slice A l.length c] 80))
  have HF0 : Hid (findA l (L n) = findA (l.drop 0) (L n)) := by rw [Hid, List.drop_zero]
  have HV : Hid (valA l (L n) = (findA l (L n)).getD []) := rfl
  have HH : Hid (hasA l (L n) = (findA l (L n)).isSome) := rfl
  generalize valA l (L n) = V at *
  generalize hasA l (L n) = H at *
  generalize findA l (L n) = R at *
  clear hop hv
  go_enter Tryz.func185, Tryz.ntmps185
  go_wp2_with fail
  go_loopw [7, 11] (fun _ iv wr => ∃ j : Nat, j ≤ l.length ∧ iv = .int .i64 j ∧ Hid (R = findA (l.drop j) (L n)) ∧ Hid (Below w.heap.size w wr))
     (fun _ iv _ => l.length - (intOf iv).toNat)
  case atStart => exact ⟨0, Nat.zero_le _, rfl, HF0.out, HB0.out⟩
  case round =>
    clear HF0 HB0
    obtain ⟨j, hj, rfl, HF, HB⟩ := hrel
    by_cases hlt : j < l.length
    · obtain ⟨b, off, rfl, ⟨_, hbw⟩, hop⟩ := HOP.out (by rintro rfl; simp at hlt)
      obtain ⟨k0, k1⟩ := hop j hlt
      have c0 := (HB.out.cell (p := ⟨b, off + j * 2, none⟩) hbw).trans k0
      have c1 := (HB.out.cell (p := ⟨b, off + j * 2 + 1, none⟩) hbw).trans k1
      rw [find_step hlt] at HF
      clear hop k0 k1 hbw
      generalize l[j] = p at *
      have HB1 := Lib.hid (HB.out.alloc HB.out.size (.cells #[.string (bs p.name), .string (bs p.value)] 130))
      have htl : (bs p.name).toList = p.name := toList_bs _
      have hsl : n.toList = L n := toList_L n
      cases h1 : (p.name == L n) with
      | true =>
        have H1 : Hid (R = some p.value) := by rw [Hid, HF.out, if_pos (beq_iff_eq.1 h1)]
        go_wp2_with fail
        go_ret2
        exact ⟨by rw [HV.out, HH.out, H1.out]; rfl, HB1.out⟩
      | false =>
        have H1 : Hid (R = findA (l.drop (j + 1)) (L n)) := by rw [Hid, HF.out, if_neg (fun h => by rw [h] at h1; simp at h1)]
        go_wp2_with fail
        go_roundw
        case rel => exact ⟨j + 1, hlt, by go_num, H1.out, HB1.out⟩
        case measure => simp [intOf]; omega
    · have hjl : j = l.length := by omega
      subst hjl
      have H1 : Hid (R = none) := by rw [Hid, HF.out, List.drop_length]; rfl
      go_wp2_with fail
      go_ret2
      exact ⟨by rw [HV.out, HH.out, H1.out]; rfl, HB.out⟩
set_option maxRecDepth 20000 in
set_option maxHeartbeats 1000000 in
theorem blank15_calls (s : ByteArray) (w : World) (hs : s.size ≤ 100000000) : Calls Tryz.prog 92 #[.string s] w fun e w' => e = .returned (.bool ((L s).all blankB)) ∧ w = w' := by
  go_enter Tryz.func92, Tryz.ntmps92
  go_wp2_with fail
  go_loopw [3] (fun iv wr => ∃ k : Nat, k ≤ s.size ∧ iv = .int .i64 k ∧ Hid ((L s).all blankB = ((L s).drop k).all blankB) ∧ wr = w)
     (fun iv _ => s.size - (intOf iv).toNat)
  case atStart => exact ⟨0, Nat.zero_le _, rfl, by rw [Hid, List.drop_zero], rfl⟩
  case round =>
    obtain ⟨k, hk, rfl, HA, rfl⟩ := hrel
    by_cases hlt : k < s.size
    · have hlt2 : k < (L s).length := by rw [← size_L]; exact hlt
      have hk1 : (0 : Int) ≤ (k : Int) := by omega
      have hk2 : (k : Int) < (s.size : Int) := by omega
      rw [List.drop_eq_getElem_cons hlt2, List.all_cons, ← getElem_L s k hlt] at HA
      have HBL : Hid (blankB s[k] = ((s[k].toNat : Int) == 32 || (s[k].toNat : Int) == 9 || (s[k].toNat : Int) == 10 || (s[k].toNat : Int) == 13)) := by
        have e32 := u8_beq s[k] 32
        have e9 := u8_beq s[k] 9
        have e10 := u8_beq s[k] 10
        have e13 := u8_beq s[k] 13
        simp only [Hid, blankB]
        rw [e32, e9, e10, e13]
        rfl
      have HT : Hid ((s[k].toNat : Int) = 32 ∨ (s[k].toNat : Int) = 9 ∨ (s[k].toNat : Int) = 10 ∨ (s[k].toNat : Int) = 13 → (L s).all blankB = ((L s).drop (k + 1)).all blankB) := by
        intro h
        have h2 : blankB s[k] = true := by rw [HBL.out]; simp only [Bool.or_eq_true, beq_iff_eq]; omega
        exact HA.out.trans (by rw [show blankB s[k] = true from h2]; rfl)
      have HF : Hid ((s[k].toNat : Int) ≠ 32 → (s[k].toNat : Int) ≠ 9 → (s[k].toNat : Int) ≠ 10 → (s[k].toNat : Int) ≠ 13 → (L s).all blankB = false) := by
        intro h1 h2 h3 h4
        have h5 : blankB s[k] = false := by rw [HBL.out]; simp only [Bool.or_eq_false_iff, beq_eq_false_iff_ne]; exact ⟨⟨⟨h1, h2⟩, h3⟩, h4⟩
        exact HA.out.trans (by rw [show blankB s[k] = false from h5]; rfl)
      clear HA HBL
      go_wp2_with fail
      all_goals first
        | (go_roundw
           case rel => exact ⟨k + 1, hlt, by go_num, HT.out (by first | omega | (simp only [bne_eq_false_iff_eq] at *; omega)), trivial⟩
           case measure => simp [intOf]; omega)
        | (go_ret; refine ⟨ret_bool ((HF.out ?_ ?_ ?_ ?_).symm), rfl⟩; all_goals (simp_all; try omega))
    · have hkl : k = s.size := by omega
      subst hkl
      go_wp2_with fail
      go_ret
      exact ⟨by rw [HA.out, List.drop_of_length_le (by rw [← size_L]; exact Nat.le_refl _)]; rfl, rfl⟩
theorem may_last {l : List Elem} (h : 0 < l.length) : (∀ u, l.getLast? = some u → u.kind ≠ 9) ↔ l[l.length - 1].kind ≠ 9 := by
  rw [List.getLast?_eq_getElem?, List.getElem?_eq_getElem (by omega)]
  exact ⟨fun h => h _ rfl, fun h u hu => by injection hu with hu; subst hu; exact h⟩
set_option maxRecDepth 20000 in
set_option maxHeartbeats 2000000 in
theorem may_calls (inn k : Int) (l : List Elem) (v : Value) (F : Nat → Prop) (w : World) (hv : GR w F (.row 7 (l.map Elem.gv)) [v]) :
    Calls Tryz.prog 156 #[.int .i64 inn, v, .int .i64 k] w fun e w' => e = .returned (.bool (mayF inn l k)) ∧ w = w' := by
  obtain ⟨A, c, rfl, hlc, hcm, hop⟩ := elems_open (GR.lt_heap _ _ hv)
  obtain ⟨N, hN⟩ : ∃ N, N = l.length := ⟨_, rfl⟩
  obtain ⟨z, hz⟩ : ∃ z : Int, z = if 0 < N then (l[N - 1]?.map Elem.kind).getD 0 else 0 := ⟨_, rfl⟩
  have HM : Hid (mayF inn l k = if inn = 4 then ((k == 5 && (N : Int) == 0) || (k == 6 && (N : Int) == 1)) else if inn = 7 then (z != 9 && (k == 8 || (k == 9 && decide (0 < (N : Int))))) else (k != 5 && k != 6 && k != 8 && k != 9)) := by
    rw [Hid, mayF, hz, hN]
    split
    · rw [Bool.eq_iff_iff]
      simp only [decide_eq_true_eq, Bool.or_eq_true, Bool.and_eq_true, beq_iff_eq]
      omega
    · split
      · rw [Bool.eq_iff_iff]
        by_cases hl : 0 < l.length
        · have := may_last hl
          have h2 : l[l.length - 1]? = some l[l.length - 1] := List.getElem?_eq_getElem (by omega)
          simp only [decide_eq_true_eq, this, if_pos hl, h2, Option.map_some, Option.getD_some, Bool.and_eq_true, Bool.or_eq_true, bne_iff_ne, beq_iff_eq]
          simp [hl]
        · have h0 : l = [] := List.length_eq_zero_iff.1 (by omega)
          subst h0
          simp
      · rw [Bool.eq_iff_iff]; simp [and_assoc]
  generalize mayF inn l k = R at *
  unfold maxLen at hcm
  by_cases hl : 0 < l.length
  · obtain ⟨b, off, rfl, -, hop2⟩ := hop (by rintro rfl; simp at hl)
    obtain ⟨Ak, ck, hE⟩ := hop2 (l.length - 1) (by omega)
    have e0 := hE.c0
    have hz2 : z = l[l.length - 1].kind := by
      rw [hz]; subst hN; rw [if_pos hl, List.getElem?_eq_getElem (by omega)]; rfl
    rw [← hz2] at e0
    clear hE hop2 hop hv hz hz2
    rw [← hN] at e0 hl hlc ⊢
    obtain ⟨n, rfl⟩ : ∃ n, N = n + 1 := ⟨N - 1, by omega⟩
    rw [Nat.add_sub_cancel] at e0
    clear hN
    have hn1 : ((n + 1 : Nat) : Int) - 1 = (n : Int) := by omega
    have hn2 : (0 : Int) < ((n + 1 : Nat) : Int) := by omega
    have hn3 : (0 : Int) ≤ (n : Int) := by omega
    have hn4 : (n : Int) < ((n + 1 : Nat) : Int) := by omega
    go_enter Tryz.func156, Tryz.ntmps156
    go_wp2_with fail
    all_goals (go_ret; refine ⟨ret_bool ?_, rfl⟩; rw [HM.out]; clear HM; simp_all <;> (first | omega | (rename_i h9; rw [beq_eq_false_iff_ne.2 h9, Bool.or_false])))
  · have hz2 : z = 0 := by rw [hz]; subst hN; rw [if_neg hl]
    have h0 : N = 0 := by omega
    subst hz2 h0
    rw [← hN]
    clear hop hv hz hN hlc hl
    go_enter Tryz.func156, Tryz.ntmps156
    go_wp2_with fail
    all_goals (go_ret; refine ⟨ret_bool ?_, rfl⟩; rw [HM.out]; clear HM; simp_all <;> omega)
def onlyAt (ns : List (List UInt8)) (l : List Pair) (j : Nat) : Bool := onlyF ns (l.take j) (l.drop j)
theorem only_step {ns : List (List UInt8)} {l : List Pair} {j : Nat} (h : j < l.length) :
    onlyAt ns l j = ((ns.any (fun n => l[j].name == n) && !(l.take j).any (fun x => x.name == l[j].name)) && onlyAt ns l (j + 1)) := by
  unfold onlyAt
  rw [List.drop_eq_getElem_cons h, onlyF, List.take_succ_eq_append_getElem h]
theorem strs_open15 {w : World} {F : Nat → Prop} {l : List (List UInt8)} {v : Value} (h : GR w F (.row 1 (l.map .str)) [v]) :
    ∃ A c, v = .slice A l.length c ∧ l.length ≤ c ∧ c ≤ maxLen ∧ (l ≠ [] → ∃ b o, A = some ⟨b, o, none⟩ ∧ F b ∧ ∀ i (hi : i < l.length), w.cell? ⟨b, o + i, none⟩ = some (.string (bs l[i]))) := by
  obtain ⟨A, c, h1, h2, h3, h4⟩ := row_open h (by omega)
  simp only [List.length_map] at h1 h2 h4
  refine ⟨A, c, h1, h2, h3, fun hne => ?_⟩
  obtain ⟨b, o, hA, hF, hc⟩ := h4 (by simpa using hne)
  refine ⟨b, o, hA, hF, fun i hi => ?_⟩
  obtain ⟨cs, g1, _, g3⟩ := hc i hi
  rw [List.getElem_map, GR_str] at g1
  subst g1
  have := g3 0 _ rfl
  rwa [Nat.mul_one, Nat.add_zero] at this
set_option maxRecDepth 20000 in
set_option maxHeartbeats 4000000 in
theorem only_calls (kd : Int) (tx : ByteArray) (va vn : Value) (l : List Pair) (ns : List (List UInt8)) (F : Nat → Prop) (w : World) (hv : GR w F (.row 2 (l.map Pair.gv)) [va]) (hn : GR w F (.row 1 (ns.map .str)) [vn]) :
    Calls Tryz.prog 186 #[.agg #[.int .i64 kd, .string tx, va], vn] w fun e w' => e = .returned (.bool (onlyF ns [] l)) ∧ Below w.heap.size w w' := by
  obtain ⟨A, c, rfl, hlc, hcm, hop⟩ := pairs_open (GR.lt_heap _ _ hv)
  obtain ⟨An, cn, rfl, hlcn, hcmn, hopn⟩ := strs_open15 (GR.lt_heap _ _ hn)
  have HOP := Lib.hid hop
  have HON := Lib.hid hopn
  unfold maxLen at hcm hcmn
  have hX := Blk.new w 80 #[.int .i64 kd, .string tx, .slice A l.length c]
  have HT0 : Hid ((w.alloc (.cells #[.int .i64 kd, .string tx, .slice A l.length c] 80)).cell? ⟨w.heap.size, 2, none⟩ = some (.slice A l.length c)) := hX.cell 2
  have HB0 := Lib.hid ((Below.refl w.heap.size w).alloc (Nat.le_refl _) (.cells #[.int .i64 kd, .string tx, .slice A l.length c] 80))
  have HF0 : Hid (onlyF ns [] l = onlyAt ns l 0) := rfl
  generalize onlyF ns [] l = R at *
  clear hop hopn hv hn hX
  go_enter Tryz.func186, Tryz.ntmps186
  go_wp2_with fail
  go_loopw [5, 6, 7, 9, 10, 14] (fun _ _ _ _ _ iv wr => ∃ j : Nat, j ≤ l.length ∧ iv = .int .i64 j ∧ Hid (R = onlyAt ns l j) ∧ Hid (Below w.heap.size w wr) ∧ Hid (wr.cell? ⟨w.heap.size, 2, none⟩ = some (.slice A l.length c)) ∧ Hid (w.heap.size < wr.heap.size))
     (fun _ _ _ _ _ iv _ => l.length - (intOf iv).toNat)
  case atStart => exact ⟨0, Nat.zero_le _, rfl, HF0.out, HB0.out, HT0.out, by rw [Hid, size_alloc]; exact Nat.lt_succ_self _⟩
  case round =>
    clear HF0 HB0 HT0
    obtain ⟨j, hj, rfl, HF, HB, HT, HS⟩ := hrel
    by_cases hlt : j < l.length
    · obtain ⟨b, off, rfl, ⟨_, hbw⟩, hop⟩ := HOP.out (by rintro rfl; simp at hlt)
      obtain ⟨k0, k1⟩ := hop j hlt
      have c0 := (HB.out.cell (p := ⟨b, off + j * 2, none⟩) hbw).trans k0
      have c1 := (HB.out.cell (p := ⟨b, off + j * 2 + 1, none⟩) hbw).trans k1
      have HNM : Hid (∀ q, q < j → ∃ h : q < l.length, ∀ W, Below w.heap.size w W → W.cell? ⟨b, off + q * 2, none⟩ = some (.string (bs l[q].name))) := fun q hq => ⟨by omega, fun W hb => (hb.cell (p := ⟨b, off + q * 2, none⟩) hbw).trans (hop q (by omega)).1⟩
      rw [only_step hlt] at HF
      clear hop k0 k1 hbw
      generalize hp : l[j] = p at *
      obtain ⟨W, hW⟩ : ∃ W, W = wr.alloc (.cells #[.string (bs p.name), .string (bs p.value)] 130) := ⟨_, rfl⟩
      have HB1 : Hid (Below w.heap.size w W) := by rw [hW]; exact HB.out.alloc HB.out.size _
      obtain ⟨g, hg⟩ : ∃ g, g = wr.heap.size := ⟨_, rfl⟩
      have HP1 : Hid (W.cell? ⟨g, 0, none⟩ = some (.string (bs p.name))) := by rw [hW, hg]; exact (Blk.new wr 130 #[.string (bs p.name), .string (bs p.value)]).cell 0
      have HT1 : Hid (W.cell? ⟨w.heap.size, 2, none⟩ = some (.slice (some ⟨b, off, none⟩) l.length c)) := by
        rw [hW]
        exact ((Below.refl wr.heap.size wr).alloc (Nat.le_refl _) _).cell (p := ⟨w.heap.size, 2, none⟩) HS.out |>.trans HT.out
      have HS1 : Hid (w.heap.size < W.heap.size) := by rw [hW, Hid, size_alloc]; have := HS.out; omega
      go_upto_region 4 with (fail)
      rw [← hW, ← hg]
      clear hW hg
      go_wp2_with fail
      go_loopw [7, 9, 21] (fun isv _ iv wx => ∃ q : Nat, q ≤ ns.length ∧ iv = .int .i64 q ∧ isv = .bool ((ns.take q).any (fun n => p.name == n)) ∧ Hid (wx = W))
         (fun _ _ iv _ => ns.length - (intOf iv).toNat)
      case atStart => exact ⟨0, Nat.zero_le _, rfl, rfl, rfl⟩
      case round =>
        obtain ⟨q, hq, rfl, rfl, HWX⟩ := hrel
        obtain rfl := HWX.out
        clear HWX
        by_cases hqn : q < ns.length
        · obtain ⟨bn, on_, rfl, ⟨_, hbn⟩, hopn⟩ := HON.out (by rintro rfl; simp at hqn)
          have d0 := (HB1.out.cell (p := ⟨bn, on_ + q, none⟩) hbn).trans (hopn q hqn)
          have p0 := HP1.out
          have HTK : Hid ((ns.take (q + 1)).any (fun n => p.name == n) = ((ns.take q).any (fun n => p.name == n) || p.name == ns[q])) := by
            rw [Hid, List.take_succ_eq_append_getElem hqn, List.any_append]
            simp only [List.any_cons, List.any_nil, Bool.or_false]
          have htl : (bs p.name).toList = p.name := toList_bs _
          have htn : (bs ns[q]).toList = ns[q] := toList_bs _
          clear hopn hbn
          generalize ns[q] = nq at *
          generalize (ns.take q).any (fun n => p.name == n) = B at *
          cases B with
          | true =>
            go_wp2_with fail
            go_roundw
            case rel => exact ⟨q + 1, hqn, by go_num, by rw [HTK.out]; rfl, (by first | exact trivial | exact rfl)⟩
            case measure => simp [intOf]; omega
          | false =>
            cases hpn : (p.name == nq) with
            | true =>
              have HPN := Lib.hid hpn
              go_wp2_with fail
              go_roundw
              case rel => exact ⟨q + 1, hqn, by go_num, by rw [HTK.out, HPN.out]; rfl, (by first | exact trivial | exact rfl)⟩
              case measure => simp [intOf]; omega
            | false =>
              have HPN := Lib.hid hpn
              go_wp2_with fail
              go_roundw
              case rel => exact ⟨q + 1, hqn, by go_num, by rw [HTK.out, HPN.out]; rfl, (by first | exact trivial | exact rfl)⟩
              case measure => simp [intOf]; omega
        · have hqe : q = ns.length := by omega
          subst hqe
          rw [List.take_length]
          generalize ns.any (fun n => p.name == n) = B at *
          clear hq hqn
          go_wp2_with fail
          go_loopw [7, 10] (fun isv kv wx => ∃ q : Nat, q ≤ j ∧ kv = .int .i64 q ∧ isv = .bool (B && !(l.take q).any (fun x => x.name == p.name)) ∧ Hid (Below w.heap.size w wx) ∧ Hid (wx.cell? ⟨g, 0, none⟩ = some (.string (bs p.name))) ∧
              Hid (wx.cell? ⟨w.heap.size, 2, none⟩ = some (.slice (some ⟨b, off, none⟩) l.length c)) ∧ Hid (w.heap.size < wx.heap.size))
             (fun _ kv _ => j - (intOf kv).toNat)
          case atStart => exact ⟨0, Nat.zero_le _, rfl, by simp, HB1.out, HP1.out, HT1.out, HS1.out⟩
          case round =>
            clear HB1 HP1 HT1 HS1
            obtain ⟨q, hq, rfl, rfl, HB1, HP1, HT1, HS1⟩ := hrel
            by_cases hqj : q < j
            · obtain ⟨hql, hcell⟩ := HNM.out q hqj
              have d0 := hcell _ HB1.out
              have p0 := HP1.out
              have t0 := HT1.out
              have hq1 : (0 : Int) ≤ (q : Int) := by omega
              have hq2 : (q : Int) < (l.length : Int) := by omega
              have HTK : Hid ((l.take (q + 1)).any (fun x => x.name == p.name) = ((l.take q).any (fun x => x.name == p.name) || l[q].name == p.name)) := by
                rw [Hid, List.take_succ_eq_append_getElem hql, List.any_append]
                simp only [List.any_cons, List.any_nil, Bool.or_false]
              have htl : (bs p.name).toList = p.name := toList_bs _
              have htn : (bs l[q].name).toList = l[q].name := toList_bs _
              clear hcell
              generalize l[q].name = nq at *
              generalize (l.take q).any (fun x => x.name == p.name) = C at *
              generalize hBC : (B && !C) = D at *
              have HBC := Lib.hid hBC
              clear hBC
              have HD2 : Hid ((B && !(l.take (q + 1)).any (fun x => x.name == p.name)) = (D && !(nq == p.name))) := by
                rw [Hid, HTK.out, ← HBC.out]; cases B <;> cases C <;> cases (nq == p.name) <;> rfl
              cases D with
              | false =>
                go_wp2_with (go_quiet (fail))
                go_roundw
                case rel => exact ⟨q + 1, hqj, by go_num, by rw [HD2.out]; rfl, (by first | exact HB1.out | exact below_drewN HB1.out _), HP1.out, HT1.out, HS1.out⟩
                case measure => simp [intOf]; omega
              | true =>
                cases hpn : (nq == p.name) with
                | true =>
                  have HPN := Lib.hid hpn
                  go_wp2_with (go_quiet (fail))
                  go_roundw
                  case rel => exact ⟨q + 1, hqj, by go_num, by rw [HD2.out, HPN.out]; rfl, (by first | exact HB1.out | exact below_drewN HB1.out _), HP1.out, HT1.out, HS1.out⟩
                  case measure => simp [intOf]; omega
                | false =>
                  have HPN := Lib.hid hpn
                  go_wp2_with (go_quiet (fail))
                  go_roundw
                  case rel => exact ⟨q + 1, hqj, by go_num, by rw [HD2.out, HPN.out]; rfl, (by first | exact HB1.out | exact below_drewN HB1.out _), HP1.out, HT1.out, HS1.out⟩
                  case measure => simp [intOf]; omega
            · have hqe : q = j := by omega
              subst hqe
              generalize (l.take q).any (fun x => x.name == p.name) = C at *
              generalize (B && !C) = D at *
              cases D with
              | true =>
                rw [Bool.true_and] at HF
                go_wp2_with fail
                go_roundw
                case rel => exact ⟨q + 1, hlt, by go_num, HF.out, HB1.out, HT1.out, HS1.out⟩
                case measure => simp [intOf]; omega
              | false =>
                go_wp2_with fail
                go_ret
                exact ⟨ret_bool (by rw [HF.out]; rfl), HB1.out⟩
    · have hjl : j = l.length := by omega
      subst hjl
      have HR : Hid (R = true) := by rw [Hid, HF.out, onlyAt, List.drop_length]; rfl
      go_wp2_with fail
      go_ret
      exact ⟨ret_bool (by rw [HR.out]), HB.out⟩
end Go.Proofs.YtijpfcjlochahaaGreatDoor
