/- How many elements there are, up to a limit: level by level. No program is named here. -/
import Derived.Test.YtijpfcjlochahaaGreatDoorDocF
set_option linter.unusedVariables false
set_option linter.unusedSimpArgs false
namespace Go.Proofs.YtijpfcjlochahaaGreatDoor
open Go Go.RowKit

/-- The rest of a count: behind i elements that were looked into. -/
def bfsF (lim : Nat) : Nat → Nat → List Elem → Nat
  | 0, _, q => q.length
  | n + 1, i, q => if i < q.length ∧ q.length ≤ lim then bfsF lim n (i + 1) (q ++ (((q[i]?).map Elem.kids).getD []).take (lim + 1 - q.length)) else q.length
def countF (lim : Nat) (l : List Elem) : Nat := bfsF lim (lim + 2) 0 (l.take (lim + 1))
theorem bfsF_stop {lim n i : Nat} {q : List Elem} (h : ¬ (i < q.length ∧ q.length ≤ lim)) : bfsF lim n i q = q.length := by
  cases n with
  | zero => rfl
  | succ n => rw [bfsF, if_neg h]
theorem bfsF_more {lim n i : Nat} {q : List Elem} (h1 : i < q.length) (h2 : q.length ≤ lim) : bfsF lim (n + 1) i q = bfsF lim n (i + 1) (q ++ q[i].kids.take (lim + 1 - q.length)) := by
  rw [bfsF, if_pos ⟨h1, h2⟩, List.getElem?_eq_getElem h1]
  rfl
theorem bfsF_le {lim : Nat} : ∀ (n i : Nat) (q : List Elem), q.length ≤ lim + 1 → bfsF lim n i q ≤ lim + 1
  | 0, _, _, h => h
  | n + 1, i, q, h => by
    rw [bfsF]
    split
    · refine bfsF_le n _ _ ?_
      rw [List.length_append, List.length_take]
      omega
    · exact h
theorem countF_le (lim : Nat) (l : List Elem) : countF lim l ≤ lim + 1 := bfsF_le _ _ _ (by rw [List.length_take]; omega)
end Go.Proofs.YtijpfcjlochahaaGreatDoor
