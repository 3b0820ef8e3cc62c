/- Plain: how long a written page is. No program is named here. The walk of law16's alive. The walk of ShowLinks. -/
import Derived.Test.YtijpfcjlochahaaGreatDoorShwP
import Derived.Test.YtijpfcjlochahaaGreatDoorShwG
import Derived.Test.YtijpfcjlochahaaGreatDoorElem
import Derived.Test.YtijpfcjlochahaaGreatDoorCntL
namespace Go.Proofs.YtijpfcjlochahaaGreatDoor
open Go Go.RowKit
set_option linter.unusedVariables false
set_option linter.unusedSimpArgs false

mutual
def textE : Elem → Nat | .mk _ t s a _ u l => t.length + s.length + a.length + u.length + textF l
def textF : List Elem → Nat | [] => 0 | e :: l => textE e + textF l
end
theorem textE_eq (e : Elem) : textE e = e.text.length + e.src.length + e.alt.length + e.test.length + textF e.kids := by cases e; rw [textE]; rfl
theorem shName_len (k : Int) : (shName k).length ≤ 9 := by
  unfold shName
  repeat' split
  all_goals simp
theorem shTagF_len (n inn : List UInt8) (ps : List (List UInt8 × List UInt8)) : (shTag n false inn ps).length = 13 + 2 * n.length + inn.length + (shAttrs ps).length := by
  rw [shTag, if_neg (by simp)]; simp only [List.length_append, List.length_cons, List.length_nil]; omega
theorem shTagT_len (n inn : List UInt8) (ps : List (List UInt8 × List UInt8)) : (shTag n true inn ps).length = 7 + n.length + (shAttrs ps).length := by
  rw [shTag, if_pos rfl]; simp only [List.length_append, List.length_cons, List.length_nil]; omega
theorem include_len (s a : List UInt8) (b : Bool) : (shAttrs (includeP s a b)).length ≤ 33 + s.length + a.length := by
  unfold includeP
  split
  · cases b <;> simp [shAttrs] <;> omega
  · cases b <;> simp [shAttrs] <;> omega
mutual
theorem shE_len : ∀ e : Elem, (shE e).length ≤ textE e + 60 * sizeE e
  | .mk k t s a b u l => by
    have ih := shF_len l
    have hn := shName_len k
    rw [shE, textE, sizeE]
    split
    · omega
    split
    · have := include_len s a b
      rw [shTagT_len]
      simp only [List.length_cons, List.length_nil]
      omega
    split
    · rw [shTagT_len]
      simp only [shAttrs, List.length_cons, List.length_nil, List.length_append]
      omega
    split
    · rw [shTagF_len]
      simp only [shAttrs, List.length_cons, List.length_nil, List.length_append]
      omega
    split
    · rw [shTagF_len]
      simp only [shAttrs, List.length_cons, List.length_nil, List.length_append]
      omega
    split
    · simp
    · rw [shTagF_len]
      simp only [shAttrs, List.length_nil]
      omega
theorem shF_len : ∀ l : List Elem, (shF l).length ≤ textF l + 60 * sizeF l
  | [] => by simp [shF]
  | e :: l => by
    have h1 := shE_len e
    have h2 := shF_len l
    rw [shF, textF, sizeF, List.length_append]
    omega
end
/-- What page asks. -/
theorem shF_ok {l : List Elem} (ht : textF l ≤ 20000000) (hc : countF 1000 l ≤ 1000) : (shF l).length ≤ 100000000 := by
  have h1 := shF_len l
  have h2 := (countF_size hc).1
  omega
end Go.Proofs.YtijpfcjlochahaaGreatDoor
namespace Go.Proofs.YtijpfcjlochahaaGreatDoor
set_option linter.unusedVariables false
set_option linter.unusedSimpArgs false
open Go Go.RowKit

def aliveE : List Elem := [.mk 10 [] [] [] false [] [.mk 1 [97] [] [] false [] []]]
def alivePage16 : List UInt8 := [60, 101, 115, 105, 58, 118, 97, 114, 115, 62, 97, 60, 47, 101, 115, 105, 58, 118, 97, 114, 115, 62]
theorem alive16_sh : shF aliveE = alivePage16 := by rfl
theorem alive16_read : readF alivePage16 = (aliveE, 0) := by rfl
theorem alive16_print : printF aliveE = (alivePage16, 0) := by
  have hc : countF 1000 aliveE = 2 := by rfl
  have hp : pageF aliveE = (alivePage16, true) := by
    rw [pageF, hc, alive16_sh, alive16_read, if_neg (by omega), if_neg (by decide), likeF_refl]; rfl
  rw [printF, hp]; rfl
set_option maxRecDepth 20000 in
set_option maxHeartbeats 4000000 in
theorem alive16_calls (w : World) : Calls Tryz.prog 25 #[] w fun e w' => e = .returned (.bool true) ∧ Below w.heap.size w w' := by
  go_enter Tryz.func25, Tryz.ntmps25
  have hX := (Blk.new w 74 (eCells (.mk 1 [97] [] [] false [] []) (.slice none 0 0)).toArray).alloc (.cells (eCells (.mk 10 [] [] [] false [] [.mk 1 [97] [] [] false [] []]) (.slice (some ⟨w.heap.size, 0, none⟩) 1 1)).toArray 74)
  have hY := Blk.new (w.alloc (.cells (eCells (.mk 1 [97] [] [] false [] []) (.slice none 0 0)).toArray 74)) 74 (eCells (.mk 10 [] [] [] false [] [.mk 1 [97] [] [] false [] []]) (.slice (some ⟨w.heap.size, 0, none⟩) 1 1)).toArray
  rw [size_alloc] at hY
  have h1 := gr_one_new (F := fun _ => True) (sz := 7) hX trivial (cells_elem (e := .mk 1 [97] [] [] false [] []) gr_nil) rfl
  have H2 := Lib.hid (gr_one_new (F := fun _ => True) (sz := 7) hY trivial (cells_elem (e := .mk 10 [] [] [] false [] [.mk 1 [97] [] [] false [] []]) h1) rfl)
  have hb : Below w.heap.size w (w.alloc (.cells (eCells (.mk 1 [97] [] [] false [] []) (.slice none 0 0)).toArray 74)) := (Below.refl _ _).alloc (Nat.le_refl _) _
  have HB := Lib.hid (hb.alloc hb.size (.cells (eCells (.mk 10 [] [] [] false [] [.mk 1 [97] [] [] false [] []]) (.slice (some ⟨w.heap.size, 0, none⟩) 1 1)).toArray 74))
  clear hX hY h1 hb
  go_wp2_with fail
  refine (print_calls aliveE _ (fun _ => True) _ H2.out (fun _ => by rw [alive16_sh]; simp [alivePage16])).mono ?_
  rw [alive16_print]
  rintro e w1 ⟨rfl, h1⟩
  have HB1 := Lib.hid (HB.out.trans (h1.mono HB.out.size))
  clear h1
  go_wp2_with fail
  go_ret
  exact ⟨ret_bool (by rw [toList_bs]; rfl), HB1.out⟩
end Go.Proofs.YtijpfcjlochahaaGreatDoor
namespace Go.Proofs.YtijpfcjlochahaaGreatDoor
set_option linter.unusedVariables false
set_option linter.unusedSimpArgs false
open Go Go.RowKit

theorem print_ok {l : List Elem} (h : (printF l).2 = 0) : (printF l).1 = shF l ∧ (shF l).length ≤ 20000 ∧ readF (shF l) = (l, 0) ∧ countF 1000 l ≤ 1000 := by
  unfold printF at h ⊢
  split at h
  · rename_i hp
    rw [if_pos hp]
    unfold pageF at hp ⊢
    split at hp
    · cases hp
    split at hp
    · cases hp
    rename_i h1 h2
    rw [if_neg h1, if_neg h2]
    simp only [Bool.and_eq_true, beq_iff_eq] at hp
    have h3 := likeF_iff.1 hp.2
    refine ⟨rfl, by omega, ?_, by omega⟩
    rw [← hp.1]
    conv => rhs; lhs; rw [h3]
  · cases h
theorem print_cases (l : List Elem) : (printF l).2 = 0 ∨ ((printF l).2 = 1 ∧ (printF l).1 = [] ∧ (pageF l).2 = false) := by
  unfold printF
  split
  · exact .inl rfl
  · rename_i h
    exact .inr ⟨rfl, rfl, by simpa using h⟩
theorem count_small {lim : Nat} {l : List Elem} (hl : lim ≤ 1000) (h : countF lim l ≤ lim) : sizeF l ≤ lim := by
  have := (countF_size h).1
  omega
end Go.Proofs.YtijpfcjlochahaaGreatDoor
