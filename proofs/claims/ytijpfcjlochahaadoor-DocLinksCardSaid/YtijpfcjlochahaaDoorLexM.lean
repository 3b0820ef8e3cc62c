/- The walk of intarsialaw14.alive. -/
import Derived.Test.YtijpfcjlochahaaDoorLexK
namespace Go.Proofs.YtijpfcjlochahaaDoor
open Go Go.RowKit

/-- The page that 'alive' reads. -/
def alivePage : List UInt8 := [97, 60, 101, 115, 105, 58, 105, 110, 99, 108, 117, 100, 101, 32, 115, 114, 99, 61, 34, 47, 120, 34, 47, 62, 98]
theorem alive_all : allF alivePage = ([⟨0, [97], []⟩, ⟨3, [105, 110, 99, 108, 117, 100, 101], [⟨[115, 114, 99], [47, 120]⟩]⟩, ⟨0, [98], []⟩], 0) := by rfl

set_option maxRecDepth 20000 in
set_option maxHeartbeats 4000000 in
theorem alive_calls (w : World) : Calls Tryd.prog 14 #[] w fun e w' => e = .returned (.bool true) ∧ Below w.heap.size w w' := by
  go_enter Tryd.func14, Tryd.ntmps14
  go_wp2_with fail
  refine (all_calls (bs alivePage) w (by rw [size_bs]; simp [alivePage])).mono ?_
  rw [L_bs, alive_all]
  rintro e w1 ⟨v, rfl, hgr, hb⟩
  obtain ⟨A, c, rfl, -, -, hop⟩ := toks_open hgr
  obtain ⟨b, o, rfl, -, h⟩ := hop (by simp)
  obtain ⟨va, e0, e1, -, -⟩ := h 1 (by simp)
  simp only [List.getElem_cons_succ, List.getElem_cons_zero, Nat.one_mul] at e0 e1
  clear h hop hgr
  go_wp2_with fail
  go_ret
  exact ⟨ret_bool (by rw [toList_bs]; rfl), hb⟩
end Go.Proofs.YtijpfcjlochahaaDoor
