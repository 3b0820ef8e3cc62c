/- The walk of the reference's Like, at two rows of the same elements. -/
import Derived.Test.YtijpfcjlochahaaGreatDoorLexB
import Derived.Test.YtijpfcjlochahaaGreatDoorElem
import Derived.Test.YtijpfcjlochahaaGreatDoorLnkP
import Derived.Test.YtijpfcjlochahaaGreatDoorLexA
import Derived.Deep.CutRange
import Derived.Deep.QuietTactic
import Derived.IntWalk
namespace Go.Proofs.YtijpfcjlochahaaGreatDoor
open Go Go.RowKit
set_option linter.unusedVariables false
set_option linter.unusedSimpArgs false

set_option maxRecDepth 20000 in
set_option maxHeartbeats 4000000 in
theorem like_calls : ∀ (n : Nat) (l : List Elem) (va vb : Value) (F : Nat → Prop) (w : World), sizeF l ≤ n → GR w F (.row 7 (l.map Elem.gv)) [va] → GR w F (.row 7 (l.map Elem.gv)) [vb] →
    Calls Tryz.prog 21 #[va, vb] w fun e w' => e = .returned (.bool true) ∧ Below w.heap.size w w' := by
  intro n
  induction n using Nat.strongRecOn with
  | ind n ih =>
    intro l va vb F w hn ha hb
    obtain ⟨A, c, rfl, hlc, hcm, hop⟩ := elems_open (GR.lt_heap _ _ ha)
    obtain ⟨B, d, rfl, hld, hdm, hop2⟩ := elems_open (GR.lt_heap _ _ hb)
    have HOP := Lib.hid hop
    have HOP2 := Lib.hid hop2
    have IH := Lib.hid ih
    clear hop hop2 ha hb ih
    unfold maxLen at hcm hdm
    go_enter Tryz.func21, Tryz.ntmps21
    go_wp2_with fail
    go_loopw [5, 6, 7, 15] (fun _ _ _ i wr => ∃ k : Nat, k ≤ l.length ∧ i = .int .i64 k ∧ Hid (Below w.heap.size w wr))
      (fun _ _ _ i wr => l.length - (intOf i).toNat)
    case atStart => exact ⟨0, Nat.zero_le _, rfl, Below.refl _ _⟩
    case round =>
      obtain ⟨k, hk, rfl, HB⟩ := hrel
      by_cases hlt : k < l.length
      · obtain ⟨b, off, rfl, ⟨_, hbw⟩, hop⟩ := HOP.out (by rintro rfl; simp at hlt)
        obtain ⟨b2, off2, rfl, ⟨_, hbw2⟩, hop2⟩ := HOP2.out (by rintro rfl; simp at hlt)
        obtain ⟨A1, c1, hE⟩ := hop k hlt
        obtain ⟨A2, c2, hE2⟩ := hop2 k hlt
        have hE := hE.below HB.out hbw
        have HE2 := Lib.hid (hE2.below HB.out hbw2)
        have HW2 : Hid (b2 < wr.heap.size) := Nat.lt_of_lt_of_le hbw2 HB.out.size
        have hsz : sizeF l[k].kids < n := by have h1 := sizeE_mem hlt; have h2 := sizeE_eq l[k]; omega
        have HSZ := Lib.hid hsz
        have HK1 := Lib.hid hE.kids
        have hk1 : (0 : Int) ≤ (k : Int) := by omega
        have hk2 : (k : Int) < (l.length : Int) := by omega
        have e0 := hE.c0
        have e1 := hE.c1
        have e2 := hE.c2
        have e3 := hE.c3
        have e4 := hE.c4
        have e5 := hE.c5
        have e6 := hE.c6
        clear hop hop2 hbw hbw2 hE hE2 hsz
        generalize l[k] = x at *
        go_upto_region 6 with (fail)
        have hal : Below wr.heap.size wr (wr.alloc (.cells #[.int .i64 x.kind, .string (bs x.text), .string (bs x.src), .string (bs x.alt), .bool x.soft, .string (bs x.test), .slice A1 x.kids.length c1] 74)) := (Below.refl _ _).alloc (Nat.le_refl _) _
        have HX := Lib.hid (Blk.new wr 74 #[.int .i64 x.kind, .string (bs x.text), .string (bs x.src), .string (bs x.alt), .bool x.soft, .string (bs x.test), .slice A1 x.kids.length c1])
        clear e0 e1 e2 e3 e4 e5 e6
        have hE2 := HE2.out.below hal HW2.out
        have HB5 := Lib.hid (HB.out.trans (hal.mono HB.out.size))
        have HK1 := Lib.hid (HK1.out.below hal)
        have HK2 := Lib.hid hE2.kids
        generalize wr.alloc (.cells #[.int .i64 x.kind, .string (bs x.text), .string (bs x.src), .string (bs x.alt), .bool x.soft, .string (bs x.test), .slice A1 x.kids.length c1] 74) = w5 at *
        have e0 := hE2.c0
        have e1 := hE2.c1
        have e2 := hE2.c2
        have e3 := hE2.c3
        have e4 := hE2.c4
        have e5 := hE2.c5
        have e6 := hE2.c6
        clear hE2 HE2 HB hal HW2
        generalize wr.heap.size = X at *
        go_upto_region 7 with (fail)
        have hal : Below w5.heap.size w5 (w5.alloc (.cells #[.int .i64 x.kind, .string (bs x.text), .string (bs x.src), .string (bs x.alt), .bool x.soft, .string (bs x.test), .slice A2 x.kids.length c2] 74)) := (Below.refl _ _).alloc (Nat.le_refl _) _
        have hY := Blk.new w5 74 #[.int .i64 x.kind, .string (bs x.text), .string (bs x.src), .string (bs x.alt), .bool x.soft, .string (bs x.test), .slice A2 x.kids.length c2]
        have hX := HX.out.below hal HX.out.lt
        clear e0 e1 e2 e3 e4 e5 e6 HX
        have HB6 := Lib.hid (HB5.out.trans (hal.mono HB5.out.size))
        have HK1 := Lib.hid (HK1.out.below hal)
        have HK2 := Lib.hid (HK2.out.below hal)
        generalize w5.alloc (.cells #[.int .i64 x.kind, .string (bs x.text), .string (bs x.src), .string (bs x.alt), .bool x.soft, .string (bs x.test), .slice A2 x.kids.length c2] 74) = w6 at *
        generalize w5.heap.size = Y at *
        have x0 := hX.cell 0
        have x1 := hX.cell 1
        have x2 := hX.cell 2
        have x3 := hX.cell 3
        have x4 := hX.cell 4
        have x5 := hX.cell 5
        have x6 := hX.cell 6
        have y0 := hY.cell 0
        have y1 := hY.cell 1
        have y2 := hY.cell 2
        have y3 := hY.cell 3
        have y4 := hY.cell 4
        have y5 := hY.cell 5
        have y6 := hY.cell 6
        clear hX hY hal HB5
        go_wp2_with fail
        refine (IH.out _ HSZ.out x.kids _ _ _ w6 (Nat.le_refl _) HK1.out HK2.out).mono ?_
        rintro e w7 ⟨rfl, hb7⟩
        have HB7 := Lib.hid (HB6.out.trans (hb7.mono HB6.out.size))
        clear hb7 HB6
        go_wp2_with fail
        exact ⟨⟨k + 1, hlt, by go_num, HB7.out⟩, by simp [intOf]; omega⟩
      · go_wp2_with fail
        go_ret
        exact ⟨rfl, HB.out⟩
end Go.Proofs.YtijpfcjlochahaaGreatDoor
