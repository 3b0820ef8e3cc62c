/- Plain: elements as a page. No program is named here. -/
import Derived.Test.YtijpfcjlochahaaGreatDoorLnkP
namespace Go.Proofs.YtijpfcjlochahaaGreatDoor
open Go Go.RowKit

def shAttrs : List (List UInt8 × List UInt8) → List UInt8
  | [] => []
  | p :: r => [32] ++ p.1 ++ [61, 34] ++ p.2 ++ [34] ++ shAttrs r
def flatP : List (List UInt8 × List UInt8) → List (List UInt8)
  | [] => []
  | p :: r => p.1 :: p.2 :: flatP r
def shTag (n : List UInt8) (alone : Bool) (inn : List UInt8) (ps : List (List UInt8 × List UInt8)) : List UInt8 :=
  if alone then [60, 101, 115, 105, 58] ++ n ++ shAttrs ps ++ [47, 62]
  else [60, 101, 115, 105, 58] ++ n ++ shAttrs ps ++ [62] ++ inn ++ [60, 47, 101, 115, 105, 58] ++ n ++ [62]
def shName (k : Int) : List UInt8 :=
  if k = 4 then [116, 114, 121] else if k = 5 then [97, 116, 116, 101, 109, 112, 116] else if k = 6 then [101, 120, 99, 101, 112, 116] else if k = 7 then [99, 104, 111, 111, 115, 101]
  else if k = 9 then [111, 116, 104, 101, 114, 119, 105, 115, 101] else if k = 10 then [118, 97, 114, 115] else if k = 11 then [114, 101, 109, 111, 118, 101] else []
def includeP (s a : List UInt8) (b : Bool) : List (List UInt8 × List UInt8) :=
  ([115, 114, 99], s) :: ((if a = [] then [] else [([97, 108, 116], a)]) ++ (if b then [([111, 110, 101, 114, 114, 111, 114], [99, 111, 110, 116, 105, 110, 117, 101])] else []))
mutual
/-- An element, written. -/
def shE : Elem → List UInt8
  | .mk k t s a b u l =>
    if k = 1 then t
    else if k = 2 then shTag [105, 110, 99, 108, 117, 100, 101] true [] (includeP s a b)
    else if k = 12 then shTag [99, 111, 109, 109, 101, 110, 116] true [] [([116, 101, 120, 116], t)]
    else if k = 3 then shTag [105, 110, 108, 105, 110, 101] false (shF l) [([110, 97, 109, 101], s)]
    else if k = 8 then shTag [119, 104, 101, 110] false (shF l) [([116, 101, 115, 116], u)]
    else if shName k = [] then [] else shTag (shName k) false (shF l) []
def shF : List Elem → List UInt8
  | [] => []
  | e :: l => shE e ++ shF l
end
theorem shE_eq (e : Elem) : shE e =
    if e.kind = 1 then e.text
    else if e.kind = 2 then shTag [105, 110, 99, 108, 117, 100, 101] true [] (includeP e.src e.alt e.soft)
    else if e.kind = 12 then shTag [99, 111, 109, 109, 101, 110, 116] true [] [([116, 101, 120, 116], e.text)]
    else if e.kind = 3 then shTag [105, 110, 108, 105, 110, 101] false (shF e.kids) [([110, 97, 109, 101], e.src)]
    else if e.kind = 8 then shTag [119, 104, 101, 110] false (shF e.kids) [([116, 101, 115, 116], e.test)]
    else if shName e.kind = [] then [] else shTag (shName e.kind) false (shF e.kids) [] := by
  cases e
  rw [shE]
  rfl
theorem shF_append : ∀ (l m : List Elem), shF (l ++ m) = shF l ++ shF m
  | [], m => by simp [shF]
  | e :: l, m => by simp only [List.cons_append, shF]; rw [shF_append l m, List.append_assoc]
theorem shAttrs_append : ∀ (l m : List (List UInt8 × List UInt8)), shAttrs (l ++ m) = shAttrs l ++ shAttrs m
  | [], m => by simp [shAttrs]
  | p :: l, m => by simp only [List.cons_append, shAttrs]; rw [shAttrs_append l m]; simp only [List.append_assoc, List.cons_append]
theorem flatP_len : ∀ l : List (List UInt8 × List UInt8), (flatP l).length = 2 * l.length
  | [] => rfl
  | p :: l => by simp only [flatP, List.length_cons]; rw [flatP_len l]; omega
theorem flatP_at : ∀ {l : List (List UInt8 × List UInt8)} {k : Nat} (h : k < l.length), (flatP l)[2 * k]? = some l[k].1 ∧ (flatP l)[2 * k + 1]? = some l[k].2
  | [], k, h => by simp at h
  | p :: l, 0, h => ⟨rfl, rfl⟩
  | p :: l, k + 1, h => by
    have := flatP_at (l := l) (k := k) (by simpa using h)
    have e : 2 * (k + 1) = 2 * k + 1 + 1 := by omega
    rw [e]
    simpa only [flatP, List.getElem?_cons_succ, List.getElem_cons_succ] using this
theorem shAttrs_take {l : List (List UInt8 × List UInt8)} {k : Nat} (h : k < l.length) : shAttrs (l.take (k + 1)) = shAttrs (l.take k) ++ ([32] ++ l[k].1 ++ [61, 34] ++ l[k].2 ++ [34]) := by
  rw [List.take_succ_eq_append_getElem h, shAttrs_append]
  simp only [shAttrs, List.append_nil]
theorem shAttrs_take_le (l : List (List UInt8 × List UInt8)) (k : Nat) : (shAttrs (l.take k)).length ≤ (shAttrs l).length := by
  have e : shAttrs l = shAttrs (l.take k) ++ shAttrs (l.drop k) := by rw [← shAttrs_append, List.take_append_drop]
  rw [e, List.length_append]; omega
end Go.Proofs.YtijpfcjlochahaaGreatDoor
