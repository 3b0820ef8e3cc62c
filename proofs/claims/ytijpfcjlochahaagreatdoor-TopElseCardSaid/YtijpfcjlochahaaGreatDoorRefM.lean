/- The walk of the reference's uri.place. -/
import Derived.Test.YtijpfcjlochahaaGreatDoorRefJ
import Derived.Test.YtijpfcjlochahaaGreatDoorUriS
set_option linter.unusedVariables false
set_option linter.unusedSimpArgs false
namespace Go.Proofs.YtijpfcjlochahaaGreatDoor
open Go Go.RowKit
set_option linter.unusedVariables false
set_option linter.unusedSimpArgs false

/-- A host with its port, as the reference keeps it: port -1 where it may not be. -/
def rplaceF (s : List UInt8) : UriD := if (placeF s uri0).2 = true then (placeF s uri0).1 else { (placeF s uri0).1 with port := -1 }
theorem rplace_results {w : World} {X : Nat} {tmps : Array Value} {u : UriD} (h4 : tmps[2]?.getD undef = .pointer (some ⟨X, 0, none⟩)) (B0 : Blk w X 94 (uCells u)) :
    (results Tryz.f75 tmps).run Tryz.prog w = .ok u.val w := by
  have a0 := B0.cell 0
  have a1 := B0.cell 1
  have a2 := B0.cell 2
  have a3 := B0.cell 3
  have a4 := B0.cell 4
  have a5 := B0.cell 5
  simp [uCells] at a0 a1 a2 a3 a4 a5
  simp [results, Tryz.results75, go_sem, h4, a0, a1, a2, a3, a4, a5, UriD.val]
set_option maxRecDepth 20000 in
set_option maxHeartbeats 4000000 in
theorem rplace_calls (s : ByteArray) (hs : s.size ≤ 100000) (w : World) :
    Calls Tryz.prog 75 #[.string s] w (UriEnd (rplaceF (L s)) w) := by
  have HP : Hid (rplaceF (L s) = if (placeF (L s) uri0).2 = true then (placeF (L s) uri0).1 else { (placeF (L s) uri0).1 with port := -1 }) := rfl
  have HPF : Hid (placeF (L s) uri0 = if lastF 58 (L s) = 0 then (⟨true, lowF (L s), 0, [], false, []⟩, true)
    else (⟨true, (lowF (L s)).take (lastF 58 (L s) - 1), (readDecF ((L s).drop (lastF 58 (L s)))).1, [], false, []⟩,
      decide ((readDecF ((L s).drop (lastF 58 (L s)))).2 = 0) && (decide ((L s).length - lastF 58 (L s) ≤ 5) && decide (0 < (readDecF ((L s).drop (lastF 58 (L s)))).1)))) := rfl
  generalize rplaceF (L s) = PF at *
  generalize placeF (L s) uri0 = PL at *
  have HSL := Lib.hid (size_L s)
  have HLE := Lib.hid (lastF_le 58 (L s))
  have hR := Blk.new w 94 #[.bool false, .string ⟨#[]⟩, .int .i64 0, .string ⟨#[]⟩, .bool false, .string ⟨#[]⟩]
  have hB : Below w.heap.size w (w.alloc (.cells #[.bool false, .string ⟨#[]⟩, .int .i64 0, .string ⟨#[]⟩, .bool false, .string ⟨#[]⟩] 94)) := (Below.refl _ _).alloc (Nat.le_refl _) _
  go_enter Tryz.func75, Tryz.ntmps75
  go_wp2_with fail
  refine (rlast_calls s 58 _ (by omega)).mono ?_
  rintro e w1 ⟨rfl, hw1⟩
  rw [hw1] at hR hB
  have HR := Lib.hid hR
  have HB := Lib.hid hB
  clear hR hB hw1
  generalize hXX : w.heap.size = X at *
  have HXX := Lib.hid hXX
  clear hXX
  by_cases h0 : lastF 58 (L s) = 0
  · have HP2 : Hid (PF = ⟨true, lowF (L s), 0, [], false, []⟩) := by rw [Hid, HP.out, HPF.out, if_pos h0]; rfl
    rw [h0]
    have hz : (((0 : Nat) : Int) - 1) = -1 := rfl
    rw [hz]
    clear h0 HP HPF hz
    go_wp2_with fail
    refine (rlower_calls s w1 (by omega)).mono ?_
    rintro e w4 ⟨rfl, hb4⟩
    have HR4 := Lib.hid (HR.out.below hb4 HR.out.lt)
    have HB4 := Lib.hid (HB.out.trans (hb4.mono (by have := HB.out.size; rw [HXX.out] at this; exact this)))
    clear hb4
    have r0 := HR4.out.cell 0
    have r1 := HR4.out.cell 1
    have r2 := HR4.out.cell 2
    have r3 := HR4.out.cell 3
    have r4 := HR4.out.cell 4
    have r5 := HR4.out.cell 5
    have y0 := HR4.out.frozen 0
    have y1 := HR4.out.frozen 1
    have y2 := HR4.out.frozen 2
    have y3 := HR4.out.frozen 3
    have y4 := HR4.out.frozen 4
    have y5 := HR4.out.frozen 5
    have hb := fill6_blk HR4.out ⟨true, lowF (L s), 0, [], false, []⟩
    have hl := fill6_below HB4.out (Nat.le_refl _) ⟨true, lowF (L s), 0, [], false, []⟩
    go_wp2_with fail
    clear r0 r1 r2 r3 r4 r5 y0 y1 y2 y3 y4 y5
    change bodyPost _ _ _ _ _ (fill6 w4 X ⟨true, lowF (L s), 0, [], false, []⟩)
    generalize fill6 w4 X ⟨true, lowF (L s), 0, [], false, []⟩ = W at *
    refine bodyPost_ret (rplace_results rfl hb) rfl ⟨?_, by rw [HXX.out]; exact hl⟩
    rw [HP2.out]
  · obtain ⟨i, hi⟩ : ∃ i, lastF 58 (L s) = i + 1 := ⟨lastF 58 (L s) - 1, by omega⟩
    have hil : i < s.size := by have h1 := HLE.out; have h2 := HSL.out; omega
    rw [hi] at HPF HLE ⊢
    have hz : (((i + 1 : Nat) : Int) - 1) = (i : Int) := by omega
    rw [hz]
    have HRD := Lib.hid (rread_calls (s.extract (i + 1) s.size) w1 (by rw [ByteArray.size_extract]; omega))
    have hex : L (s.extract (i + 1) s.size) = (L s).drop (i + 1) := by rw [L_extract, size_L s, List.take_length]
    rw [hex] at HRD
    have HNL := Lib.hid (readDec_le ((L s).drop (i + 1)))
    obtain ⟨n, bad, hnb⟩ : ∃ n bad, readDecF ((L s).drop (i + 1)) = (n, bad) := ⟨_, _, rfl⟩
    rw [hnb] at HRD HNL HPF
    simp only [Nat.add_sub_cancel] at HPF
    obtain ⟨F, hF⟩ : ∃ F, F = (decide (bad = 0) && (decide (s.size - (i + 1) ≤ 5) && decide (0 < n))) := ⟨_, rfl⟩
    have HP2 : Hid (PF = if F = true then ⟨true, (lowF (L s)).take i, (n : Int), [], false, []⟩ else ⟨true, (lowF (L s)).take i, -1, [], false, []⟩) := by
      have hne : ¬ (i + 1 = 0) := by omega
      rw [Hid, HP.out, HPF.out, if_neg hne, hF, HSL.out]
    have HF := Lib.hid hF
    have hlw : lowF (L (s.extract 0 i)) = (lowF (L s)).take i := by rw [L_extract, List.drop_zero, lowF, lowF, List.map_take]
    have HLW := Lib.hid (fun W => rlower_calls (s.extract 0 i) W (by rw [ByteArray.size_extract]; omega))
    rw [hlw] at HLW
    generalize (lowF (L s)).take i = H at *
    have hi0 : ¬ (i : Int) < 0 := by omega
    have hi1 : (i : Int) < (s.size : Int) := by omega
    have hi2 : (i : Int) + 1 ≤ (s.size : Int) := by omega
    have hi3 : (0 : Int) ≤ (i : Int) := by omega
    have hi4 : (i : Int) ≤ (s.size : Int) := by omega
    have hn1 : (n : Int) ≤ 1099511627776 := by have := HNL.out; simp only at this; omega
    have hn0 : (0 : Int) ≤ (n : Int) := by omega
    have hs1 : (s.size : Int) ≤ 1000000 := by omega
    clear h0 HP HPF hz hex hnb hi hF hlw
    go_wp2_with fail
    refine HRD.out.mono ?_
    rintro e w2 ⟨rfl, rfl⟩
    go_wp2_with fail
    refine (HLW.out _).mono ?_
    rintro e w4 ⟨rfl, hb4⟩
    have HR4 := Lib.hid (HR.out.below hb4 HR.out.lt)
    have HB4 := Lib.hid (HB.out.trans (hb4.mono (by have := HB.out.size; rw [HXX.out] at this; exact this)))
    clear hb4 HR HB
    have r0 := HR4.out.cell 0
    have r1 := HR4.out.cell 1
    have r2 := HR4.out.cell 2
    have r3 := HR4.out.cell 3
    have r4 := HR4.out.cell 4
    have r5 := HR4.out.cell 5
    have y0 := HR4.out.frozen 0
    have y1 := HR4.out.frozen 1
    have y2 := HR4.out.frozen 2
    have y3 := HR4.out.frozen 3
    have y4 := HR4.out.frozen 4
    have y5 := HR4.out.frozen 5
    go_upto_region 6 with (fail)
    clear r0 r1 r2 r3 r4 r5 y0 y1 y2 y3 y4 y5
    have hY := Blk.new w4 94 #[.bool true, .string (bs H), .int .i64 (n : Int), .string ⟨#[]⟩, .bool false, .string ⟨#[]⟩]
    have hR5 := HR4.out.alloc (.cells #[.bool true, .string (bs H), .int .i64 (n : Int), .string ⟨#[]⟩, .bool false, .string ⟨#[]⟩] 94)
    have hB5 := HB4.out.alloc (Nat.le_of_lt HR4.out.lt) (.cells #[.bool true, .string (bs H), .int .i64 (n : Int), .string ⟨#[]⟩, .bool false, .string ⟨#[]⟩] 94)
    have hXY := HR4.out.lt
    change Code.wp _ _ _ _ (w4.alloc (.cells #[.bool true, .string (bs H), .int .i64 (n : Int), .string ⟨#[]⟩, .bool false, .string ⟨#[]⟩] 94))
    generalize w4.alloc (.cells #[.bool true, .string (bs H), .int .i64 (n : Int), .string ⟨#[]⟩, .bool false, .string ⟨#[]⟩] 94) = w5 at *
    have HY5 := Lib.hid hY
    have HR5 := Lib.hid hR5
    have HB5 := Lib.hid hB5
    clear hY hR5 hB5 HR4 HB4
    generalize w4.heap.size = Y at *
    have HXY := Lib.hid hXY
    clear hXY HLW HRD
    by_cases hbd : bad = 0
    · have b1 : (bad != 0) = false := by rw [hbd]; rfl
      by_cases hn : 0 < n
      · have b3 : ((n : Int) == 0) = false := by rw [beq_eq_false_iff_ne]; omega
        by_cases h5 : s.size - (i + 1) ≤ 5
        · have b2 : ¬ (6 : Int) < (s.size : Int) - (i : Int) := by omega
          have HP3 : Hid (PF = ⟨true, H, (n : Int), [], false, []⟩) := by rw [Hid, HP2.out, if_pos (by rw [HF.out, decide_eq_true hbd, decide_eq_true h5, decide_eq_true hn]; rfl)]
          clear hbd hn h5
          have HR4 := HR5
          have r0 := HR4.out.cell 0
          have r1 := HR4.out.cell 1
          have r2 := HR4.out.cell 2
          have r3 := HR4.out.cell 3
          have r4 := HR4.out.cell 4
          have r5 := HR4.out.cell 5
          have y0 := HR4.out.frozen 0
          have y1 := HR4.out.frozen 1
          have y2 := HR4.out.frozen 2
          have y3 := HR4.out.frozen 3
          have y4 := HR4.out.frozen 4
          have y5 := HR4.out.frozen 5
          have x0 := HY5.out.cell 0
          have x1 := HY5.out.cell 1
          have x2 := HY5.out.cell 2
          have x3 := HY5.out.cell 3
          have x4 := HY5.out.cell 4
          have x5 := HY5.out.cell 5
          have hb := Lib.hid (fill6_blk HR5.out ⟨true, H, (n : Int), [], false, []⟩)
          have hl := Lib.hid (fill6_below HB5.out (Nat.le_refl _) ⟨true, H, (n : Int), [], false, []⟩)
          go_wp2_with fail
          clear r0 r1 r2 r3 r4 r5 y0 y1 y2 y3 y4 y5 x0 x1 x2 x3 x4 x5
          change bodyPost _ _ _ _ _ (fill6 w5 X ⟨true, H, (n : Int), [], false, []⟩)
          generalize fill6 w5 X ⟨true, H, (n : Int), [], false, []⟩ = W at *
          refine bodyPost_ret (rplace_results rfl hb.out) rfl ⟨?_, by rw [HXX.out]; exact hl.out⟩
          rw [HP3.out]
        · have b2 : (6 : Int) < (s.size : Int) - (i : Int) := by omega
          have HP3 : Hid (PF = ⟨true, H, -1, [], false, []⟩) := by rw [Hid, HP2.out, if_neg (by rw [HF.out, decide_eq_false h5]; simp)]
          clear hbd hn h5
          have z2 := HY5.out.cell 2
          have z22 := HY5.out.frozen 2
          go_upto_region 8 with (fail)
          clear z2 z22
          have hY := HY5.out.set_ 2 (.int .i64 (-1))
          have hR6 := HR5.out.far (p := ⟨Y, 2, none⟩) (by show X ≠ Y; have := HXY.out; omega) (.int .i64 (-1))
          have hB6 := HB5.out.setCell (p := ⟨Y, 2, none⟩) (Nat.le_of_lt HXY.out) (.int .i64 (-1))
          change Code.wp _ _ _ _ (w5.setCell ⟨Y, 2, none⟩ (.int .i64 (-1)))
          generalize w5.setCell ⟨Y, 2, none⟩ (.int .i64 (-1)) = w6 at *
          have HY6 := Lib.hid hY
          have HR4 := Lib.hid hR6
          have HB6 := Lib.hid hB6
          clear hY hR6 hB6 HY5 HR5 HB5
          have r0 := HR4.out.cell 0
          have r1 := HR4.out.cell 1
          have r2 := HR4.out.cell 2
          have r3 := HR4.out.cell 3
          have r4 := HR4.out.cell 4
          have r5 := HR4.out.cell 5
          have y0 := HR4.out.frozen 0
          have y1 := HR4.out.frozen 1
          have y2 := HR4.out.frozen 2
          have y3 := HR4.out.frozen 3
          have y4 := HR4.out.frozen 4
          have y5 := HR4.out.frozen 5
          have x0 := HY6.out.cell 0
          have x1 := HY6.out.cell 1
          have x2 := HY6.out.cell 2
          have x3 := HY6.out.cell 3
          have x4 := HY6.out.cell 4
          have x5 := HY6.out.cell 5
          have hb := Lib.hid (fill6_blk HR4.out ⟨true, H, -1, [], false, []⟩)
          have hl := Lib.hid (fill6_below HB6.out (Nat.le_refl _) ⟨true, H, -1, [], false, []⟩)
          go_wp2_with fail
          clear r0 r1 r2 r3 r4 r5 y0 y1 y2 y3 y4 y5 x0 x1 x2 x3 x4 x5
          change bodyPost _ _ _ _ _ (fill6 w6 X ⟨true, H, -1, [], false, []⟩)
          generalize fill6 w6 X ⟨true, H, -1, [], false, []⟩ = W at *
          refine bodyPost_ret (rplace_results rfl hb.out) rfl ⟨?_, by rw [HXX.out]; exact hl.out⟩
          rw [HP3.out]
      · obtain rfl : n = 0 := by omega
        have HP3 : Hid (PF = ⟨true, H, -1, [], false, []⟩) := by rw [Hid, HP2.out, if_neg (by rw [HF.out, decide_eq_false hn]; simp)]
        clear hbd hn
        have z2 := HY5.out.cell 2
        have z22 := HY5.out.frozen 2
        go_upto_region 8 with (fail)
        clear z2 z22
        have hY := HY5.out.set_ 2 (.int .i64 (-1))
        have hR6 := HR5.out.far (p := ⟨Y, 2, none⟩) (by show X ≠ Y; have := HXY.out; omega) (.int .i64 (-1))
        have hB6 := HB5.out.setCell (p := ⟨Y, 2, none⟩) (Nat.le_of_lt HXY.out) (.int .i64 (-1))
        change Code.wp _ _ _ _ (w5.setCell ⟨Y, 2, none⟩ (.int .i64 (-1)))
        generalize w5.setCell ⟨Y, 2, none⟩ (.int .i64 (-1)) = w6 at *
        have HY6 := Lib.hid hY
        have HR4 := Lib.hid hR6
        have HB6 := Lib.hid hB6
        clear hY hR6 hB6 HY5 HR5 HB5
        have r0 := HR4.out.cell 0
        have r1 := HR4.out.cell 1
        have r2 := HR4.out.cell 2
        have r3 := HR4.out.cell 3
        have r4 := HR4.out.cell 4
        have r5 := HR4.out.cell 5
        have y0 := HR4.out.frozen 0
        have y1 := HR4.out.frozen 1
        have y2 := HR4.out.frozen 2
        have y3 := HR4.out.frozen 3
        have y4 := HR4.out.frozen 4
        have y5 := HR4.out.frozen 5
        have x0 := HY6.out.cell 0
        have x1 := HY6.out.cell 1
        have x2 := HY6.out.cell 2
        have x3 := HY6.out.cell 3
        have x4 := HY6.out.cell 4
        have x5 := HY6.out.cell 5
        have hb := Lib.hid (fill6_blk HR4.out ⟨true, H, -1, [], false, []⟩)
        have hl := Lib.hid (fill6_below HB6.out (Nat.le_refl _) ⟨true, H, -1, [], false, []⟩)
        go_wp2_with fail
        clear r0 r1 r2 r3 r4 r5 y0 y1 y2 y3 y4 y5 x0 x1 x2 x3 x4 x5
        change bodyPost _ _ _ _ _ (fill6 w6 X ⟨true, H, -1, [], false, []⟩)
        generalize fill6 w6 X ⟨true, H, -1, [], false, []⟩ = W at *
        refine bodyPost_ret (rplace_results rfl hb.out) rfl ⟨?_, by rw [HXX.out]; exact hl.out⟩
        rw [HP3.out]
    · have b1 : (bad != 0) = true := by rw [bne_iff_ne]; exact hbd
      have HP3 : Hid (PF = ⟨true, H, -1, [], false, []⟩) := by rw [Hid, HP2.out, if_neg (by rw [HF.out, decide_eq_false hbd]; simp)]
      clear hbd
      have z2 := HY5.out.cell 2
      have z22 := HY5.out.frozen 2
      go_upto_region 8 with (fail)
      clear z2 z22
      have hY := HY5.out.set_ 2 (.int .i64 (-1))
      have hR6 := HR5.out.far (p := ⟨Y, 2, none⟩) (by show X ≠ Y; have := HXY.out; omega) (.int .i64 (-1))
      have hB6 := HB5.out.setCell (p := ⟨Y, 2, none⟩) (Nat.le_of_lt HXY.out) (.int .i64 (-1))
      change Code.wp _ _ _ _ (w5.setCell ⟨Y, 2, none⟩ (.int .i64 (-1)))
      generalize w5.setCell ⟨Y, 2, none⟩ (.int .i64 (-1)) = w6 at *
      have HY6 := Lib.hid hY
      have HR4 := Lib.hid hR6
      have HB6 := Lib.hid hB6
      clear hY hR6 hB6 HY5 HR5 HB5
      have r0 := HR4.out.cell 0
      have r1 := HR4.out.cell 1
      have r2 := HR4.out.cell 2
      have r3 := HR4.out.cell 3
      have r4 := HR4.out.cell 4
      have r5 := HR4.out.cell 5
      have y0 := HR4.out.frozen 0
      have y1 := HR4.out.frozen 1
      have y2 := HR4.out.frozen 2
      have y3 := HR4.out.frozen 3
      have y4 := HR4.out.frozen 4
      have y5 := HR4.out.frozen 5
      have x0 := HY6.out.cell 0
      have x1 := HY6.out.cell 1
      have x2 := HY6.out.cell 2
      have x3 := HY6.out.cell 3
      have x4 := HY6.out.cell 4
      have x5 := HY6.out.cell 5
      have hb := Lib.hid (fill6_blk HR4.out ⟨true, H, -1, [], false, []⟩)
      have hl := Lib.hid (fill6_below HB6.out (Nat.le_refl _) ⟨true, H, -1, [], false, []⟩)
      go_wp2_with fail
      clear r0 r1 r2 r3 r4 r5 y0 y1 y2 y3 y4 y5 x0 x1 x2 x3 x4 x5
      change bodyPost _ _ _ _ _ (fill6 w6 X ⟨true, H, -1, [], false, []⟩)
      generalize fill6 w6 X ⟨true, H, -1, [], false, []⟩ = W at *
      refine bodyPost_ret (rplace_results rfl hb.out) rfl ⟨?_, by rw [HXX.out]; exact hl.out⟩
      rw [HP3.out]
end Go.Proofs.YtijpfcjlochahaaGreatDoor
