/- Plain: the addresses that elements name; how many elements there are in all. No program is named here. -/
import Derived.Test.YtijpfcjlochahaaGreatDoorCntP
set_option linter.unusedVariables false
set_option linter.unusedSimpArgs false
namespace Go.Proofs.YtijpfcjlochahaaGreatDoor
open Go Go.RowKit

/-- What an element names by itself. -/
def ownLinks (e : Elem) : List (List UInt8) := if e.kind = 2 then (if e.alt = [] then [e.src] else [e.src, e.alt]) else []
mutual
def linksE : Elem → List (List UInt8) | .mk k t s a b u l => ownLinks (.mk k t s a b u l) ++ linksF l
def linksF : List Elem → List (List UInt8) | [] => [] | e :: l => linksE e ++ linksF l
end
mutual
def sizeE : Elem → Nat | .mk _ _ _ _ _ _ l => 1 + sizeF l
def sizeF : List Elem → Nat | [] => 0 | e :: l => sizeE e + sizeF l
end
theorem linksE_eq (e : Elem) : linksE e = ownLinks e ++ linksF e.kids := by cases e; simp only [linksE, Elem.kids]
theorem sizeE_eq (e : Elem) : sizeE e = 1 + sizeF e.kids := by cases e; simp only [sizeE, Elem.kids]
theorem linksF_append : ∀ (l m : List Elem), linksF (l ++ m) = linksF l ++ linksF m
  | [], m => by simp [linksF]
  | e :: l, m => by simp only [List.cons_append, linksF]; rw [linksF_append l m, List.append_assoc]
theorem sizeF_append : ∀ (l m : List Elem), sizeF (l ++ m) = sizeF l + sizeF m
  | [], m => by simp [sizeF]
  | e :: l, m => by simp only [List.cons_append, sizeF]; rw [sizeF_append l m, Nat.add_assoc]
theorem sizeF_len : ∀ l : List Elem, l.length ≤ sizeF l
  | [] => by simp
  | e :: l => by
    have h1 := sizeF_len l
    have h2 := sizeE_eq e
    simp only [List.length_cons, sizeF]
    omega
theorem sizeE_mem : ∀ {l : List Elem} {i : Nat} (h : i < l.length), sizeE l[i] ≤ sizeF l
  | [], i, h => by simp at h
  | e :: l, 0, h => by simp only [List.getElem_cons_zero, sizeF]; omega
  | e :: l, i + 1, h => by
    simp only [List.getElem_cons_succ, sizeF]
    have := sizeE_mem (l := l) (i := i) (by simpa using h)
    omega
theorem linksF_len (n : Nat) : ∀ l : List Elem, sizeF l ≤ n → (linksF l).length ≤ 2 * sizeF l := by
  induction n with
  | zero =>
    intro l hl
    cases l with
    | nil => simp [linksF]
    | cons e l =>
      have := sizeE_eq e
      simp only [sizeF] at hl
      omega
  | succ n ih =>
    intro l
    induction l with
    | nil => intro _; simp [linksF]
    | cons e l ihl =>
      intro hl
      simp only [sizeF] at hl ⊢
      have he := sizeE_eq e
      have h1 := ihl (by omega)
      have h2 := ih e.kids (by omega)
      simp only [linksF, List.length_append, linksE_eq]
      have h3 : (ownLinks e).length ≤ 2 := by
        unfold ownLinks
        split
        · split <;> simp
        · simp
      omega
/-- A count that does not reach its limit is how many there are. -/
theorem bfsF_size {lim : Nat} : ∀ (n i : Nat) (q : List Elem), i ≤ q.length → lim + 1 ≤ n + i → bfsF lim n i q ≤ lim → bfsF lim n i q = i + sizeF (q.drop i)
  | 0, i, q, hi, hn, h => by
    rw [bfsF] at h
    omega
  | n + 1, i, q, hi, hn, h => by
    rw [bfsF] at h ⊢
    split at h
    · rename_i hc
      rw [if_pos hc]
      have hk : ((q[i]?).map Elem.kids).getD [] = q[i].kids := by rw [List.getElem?_eq_getElem hc.1]; rfl
      rw [hk] at h ⊢
      have hle : q[i].kids.length ≤ lim + 1 - q.length := by
        refine Classical.byContradiction fun hgt => ?_
        have hlen : (q ++ q[i].kids.take (lim + 1 - q.length)).length = lim + 1 := by
          rw [List.length_append, List.length_take]; omega
        rw [bfsF_stop (by rw [hlen]; omega), hlen] at h
        omega
      rw [List.take_of_length_le hle] at h ⊢
      rw [bfsF_size n (i + 1) _ (by rw [List.length_append]; omega) (by omega) h]
      rw [List.drop_append_of_le_length (by omega), sizeF_append, List.drop_eq_getElem_cons hc.1, sizeF, sizeE_eq]
      omega
    · rename_i hc
      rw [if_neg hc]
      have h2 : i = q.length := by omega
      rw [h2, List.drop_length]
      rfl
theorem countF_size {lim : Nat} {l : List Elem} (h : countF lim l ≤ lim) : sizeF l = countF lim l ∧ l.length ≤ lim := by
  have h0 : l.length ≤ lim := by
    refine Classical.byContradiction fun hgt => ?_
    have hlen : (l.take (lim + 1)).length = lim + 1 := by rw [List.length_take]; omega
    unfold countF at h
    rw [bfsF_stop (by rw [hlen]; omega), hlen] at h
    omega
  refine ⟨?_, h0⟩
  unfold countF at h ⊢
  rw [List.take_of_length_le (by omega)] at h ⊢
  have := bfsF_size (lim + 2) 0 l (Nat.zero_le _) (by omega) h
  rw [this, List.drop_zero, Nat.zero_add]
end Go.Proofs.YtijpfcjlochahaaGreatDoor
