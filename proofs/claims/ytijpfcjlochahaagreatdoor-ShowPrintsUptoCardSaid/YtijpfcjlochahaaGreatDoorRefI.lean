/- The walks of the reference's begins, Marks, Mark, Tag (the function), Right. The walks of the reference's Right and End. -/
import Derived.Test.YtijpfcjlochahaaGreatDoorRefG
import Derived.BigRegion
import Derived.Test.YtijpfcjlochahaaGreatDoorLexI
namespace Go.Proofs.YtijpfcjlochahaaGreatDoor
open Go Go.RowKit
set_option linter.unusedVariables false
set_option linter.unusedSimpArgs false

theorem begF_bytes (s t : ByteArray) : begF (L s) (L t) = (decide (t.size ≤ s.size) && ((s.extract 0 t.size).toList == t.toList)) := by
  unfold begF
  rw [toList_L, toList_L, L_extract, List.drop_zero, size_L s, size_L t]
set_option maxRecDepth 20000 in
set_option maxHeartbeats 1000000 in
theorem begins_calls (s t : ByteArray) (w : World) : Calls Tryz.prog 88 #[.string s, .string t] w fun e w' => e = .returned (.bool (begF (L s) (L t))) ∧ w = w' := by
  rw [begF_bytes]
  by_cases h : t.size ≤ s.size
  · have hd : decide ((t.size : Int) ≤ (s.size : Int)) = true := by simpa using h
    have hd2 : (t.size : Int) ≤ (s.size : Int) := by omega
    rw [decide_eq_true h, Bool.true_and]
    cases hq : ((s.extract 0 t.size).toList == t.toList) with
    | true =>
      go_enter Tryz.func88, Tryz.ntmps88
      go_wp2_with fail
      go_ret
      exact ⟨rfl, rfl⟩
    | false =>
      go_enter Tryz.func88, Tryz.ntmps88
      go_wp2_with fail
      go_ret
      exact ⟨rfl, rfl⟩
  · have hd : decide ((t.size : Int) ≤ (s.size : Int)) = false := by simpa using h
    have hd2 : ¬ (t.size : Int) ≤ (s.size : Int) := by omega
    rw [decide_eq_false h, Bool.false_and]
    go_enter Tryz.func88, Tryz.ntmps88
    go_wp2_with fail
    go_ret
    exact ⟨rfl, rfl⟩
set_option maxHeartbeats 400000 in
theorem rmarks_calls (b : Bool) (w : World) :
    Calls Tryz.prog 87 #[.bool b] w fun e w' => e = .returned (.slice (some ⟨w.heap.size, 0, none⟩) 3 3) ∧
      w.alloc (.cells #[.string (bs openB), .string (bs closB), .string (bs (lastMark b))] 9) = w' := by
  cases b
  · go_enter Tryz.func87, Tryz.ntmps87
    go_wp2
    go_ret
    exact ⟨rfl, rfl⟩
  · go_enter Tryz.func87, Tryz.ntmps87
    go_wp2
    go_ret
    exact ⟨rfl, rfl⟩
/-- The marks, by number. -/
def rmkNo (b : Bool) (j : Nat) : List UInt8 := if j = 0 then openB else if j = 1 then closB else lastMark b
theorem refMark_hit {b : Bool} {s : List UInt8} (hs : s ≠ []) {j : Nat} (hj : j < 3) (h0 : ∀ i, i < j → hits s (rmkNo b i) = false) (h : hits s (rmkNo b j) = true) : refMark b s = rmkNo b j := by
  unfold refMark
  rw [if_neg hs]
  have e0 : rmkNo b 0 = openB := rfl
  have e1 : rmkNo b 1 = closB := rfl
  have e2 : rmkNo b 2 = lastMark b := rfl
  match j, hj with
  | 0, _ => rw [e0] at h ⊢; rw [if_pos h]
  | 1, _ =>
    have g0 := h0 0 (by omega)
    rw [e0] at g0
    rw [e1] at h ⊢
    rw [g0, if_neg (by simp), if_pos h]
  | 2, _ =>
    have g0 := h0 0 (by omega)
    have g1 := h0 1 (by omega)
    rw [e0] at g0
    rw [e1] at g1
    rw [e2] at h ⊢
    rw [g0, if_neg (by simp), g1, if_neg (by simp), if_pos h]
theorem refMark_miss {b : Bool} {s : List UInt8} (h : s = [] ∨ ∀ i, i < 3 → hits s (rmkNo b i) = false) : refMark b s = [] := by
  unfold refMark
  rcases h with h | h
  · rw [if_pos h]
  · have g0 : hits s openB = false := h 0 (by omega)
    have g1 : hits s closB = false := h 1 (by omega)
    have g2 : hits s (lastMark b) = false := h 2 (by omega)
    rw [g0, g1, g2]
    simp
set_option maxRecDepth 20000 in
set_option maxHeartbeats 2000000 in
theorem rmark_calls (s : ByteArray) (b : Bool) (w : World) :
    Calls Tryz.prog 55 #[.string s, .bool b] w fun e w' => e = .returned (.string (bs (refMark b (L s)))) ∧ Below w.heap.size w w' := by
  go_enter Tryz.func55, Tryz.ntmps55
  go_wp2_with fail
  refine (rmarks_calls b w).mono ?_
  rintro e w1 ⟨rfl, hw1⟩
  have hB : Blk w1 w.heap.size 9 #[.string (bs openB), .string (bs closB), .string (bs (lastMark b))] := by rw [← hw1]; exact Blk.new _ _ _
  have HBE : Hid (Below w.heap.size w w1) := by rw [Hid, ← hw1]; exact (Below.refl _ _).alloc (Nat.le_refl _) _
  have HBL : Hid (∀ j, j < 3 → w1.cell? ⟨w.heap.size, j, none⟩ = some (.string (bs (rmkNo b j)))) := by
    intro j hj
    match j, hj with
    | 0, _ => exact hB.cell 0
    | 1, _ => exact hB.cell 1
    | 2, _ => exact hB.cell 2
  clear hB hw1
  generalize hgg : w.heap.size = g at *
  have HGG := Lib.hid hgg
  clear hgg
  go_wp2_with fail
  go_loopw [6, 10] (fun _ i wr => ∃ j : Nat, j ≤ 3 ∧ i = .int .i64 j ∧ wr = w1 ∧ Hid (L s = [] ∨ ∀ i, i < j → hits (L s) (rmkNo b i) = false))
     (fun _ i _ => 3 - (intOf i).toNat)
  case atStart => exact ⟨0, by omega, rfl, rfl, .inr fun i hi => absurd hi (by omega)⟩
  case round =>
    obtain ⟨j, hj, rfl, rfl, HM⟩ := hrel
    by_cases hlt : j < 3
    · have c0 := HBL.out j hlt
      have hji : (j : Int) < 3 := by omega
      have HNX : Hid (hits (L s) (rmkNo b j) = false → L s = [] ∨ ∀ i, i < j + 1 → hits (L s) (rmkNo b i) = false) := fun h => by
        rcases HM.out with h0 | h0
        · exact .inl h0
        · refine .inr fun i hi => ?_
          by_cases e : i = j
          · rw [e]; exact h
          · exact h0 i (by omega)
      have HFD : Hid (L s ≠ [] → hits (L s) (rmkNo b j) = true → refMark b (L s) = rmkNo b j) := fun hs h => by
        rcases HM.out with h0 | h0
        · exact absurd h0 hs
        · exact refMark_hit hs hlt h0 h
      have HBH := Lib.hid (beg_hits (L s) (rmkNo b j))
      generalize rmkNo b j = m at *
      cases hs : s.toList.isEmpty with
      | true =>
        have HSE : Hid (L s = []) := by rw [toList_L] at hs; exact List.isEmpty_iff.1 hs
        go_wp2_with fail
        go_roundw
        case rel => exact ⟨j + 1, by omega, by go_num, trivial, .inl HSE.out⟩
        case measure => simp [intOf]; omega
      | false =>
        have HSE : Hid (L s ≠ []) := by rw [toList_L] at hs; exact fun h => by rw [h] at hs; cases hs
        go_wp2_with fail
        refine (begins_calls s (bs m) wr).mono ?_
        rintro e w2 ⟨rfl, rfl⟩
        rw [L_bs]
        cases hb1 : begF (L s) m with
        | true =>
          have HR : Hid (refMark b (L s) = m) := HFD.out HSE.out (by rw [← HBH.out, hb1]; rfl)
          go_wp2_with fail
          go_ret
          exact ⟨by rw [HR.out]; rfl, by rw [HGG.out]; exact HBE.out⟩
        | false =>
          go_wp2_with fail
          refine (begins_calls (bs m) s wr).mono ?_
          rintro e w3 ⟨rfl, rfl⟩
          rw [L_bs]
          cases hb2 : begF m (L s) with
          | true =>
            have HR : Hid (refMark b (L s) = m) := HFD.out HSE.out (by rw [← HBH.out, hb1, hb2]; rfl)
            go_wp2_with fail
            go_ret
            exact ⟨by rw [HR.out]; rfl, by rw [HGG.out]; exact HBE.out⟩
          | false =>
            have HNN := Lib.hid (HNX.out (by rw [← HBH.out, hb1, hb2]; rfl))
            go_wp2_with fail
            go_roundw
            case rel => exact ⟨j + 1, by omega, by go_num, trivial, HNN.out⟩
            case measure => simp [intOf]; omega
    · have hj3 : j = 3 := by omega
      subst hj3
      have HR : Hid (refMark b (L s) = []) := refMark_miss HM.out
      go_wp2_with fail
      go_ret
      exact ⟨by rw [HR.out]; rfl, by rw [HGG.out]; exact HBE.out⟩
/-- What Tag (the function) leaves. -/
def TagFPost (s : ByteArray) (w : World) (F : Out Token) (e : Ending) (w' : World) : Prop :=
  Below w.heap.size w w' ∧ ∃ kd nm A n c a z sh, e = .returned (.tuple #[.agg #[.int .i64 kd, .string nm, .slice A n c], .agg #[.string s, .int .i64 a, .int .i64 z, .bool sh]]) ∧ rsIs s (Rs.of F) a z sh ∧
    ∀ t r k, F = .ok t r k → kd = t.kind ∧ L nm = t.text ∧ GR w' (fun g => w.heap.size ≤ g) (.row 2 (t.attrs.map Pair.gv)) [.slice A n c]
def set4 (W : World) (R : Nat) (x0 x1 x2 x3 : Value) : World := (((W.setCell ⟨R, 0, none⟩ x0).setCell ⟨R, 1, none⟩ x1).setCell ⟨R, 2, none⟩ x2).setCell ⟨R, 3, none⟩ x3
theorem set4_grown {a W : World} {R : Nat} {row : Option Nat} (h : a.grownBy W row) (hR : some R = row ∨ a.heap.size ≤ R) (x0 x1 x2 x3 : Value) : a.grownBy (set4 W R x0 x1 x2 x3) row :=
  grown_setCell (grown_setCell (grown_setCell (grown_setCell h hR _) hR _) hR _) hR _
theorem heap7 (W : World) (X Y : Nat) (x0 x1 x2 y0 y1 y2 y3 : Value) (g : Nat) (hlt : g < W.heap.size) (h1 : g ≠ X) (h2 : g ≠ Y) : (set4 (set3 W X x0 x1 x2) Y y0 y1 y2 y3).drew.heap[g]? = W.heap[g]? := by
  have a := set3_grown (grown_refl W (some X)) (.inl rfl) x0 x1 x2
  have b := grown_drewN (set4_grown (grown_refl (set3 W X x0 x1 x2) (some Y)) (.inl rfl) y0 y1 y2 y3) 1
  exact (b.block g (Nat.lt_of_lt_of_le hlt a.size) (fun e => h2 (Option.some.inj e))).trans (a.block g hlt (fun e => h1 (Option.some.inj e)))
theorem rtagm_calls (closing : Bool) (s : ByteArray) (b : Nat) (w : World) (h : RsIn w b s (.go 0)) (hs : s.size ≤ 10000000) (h5 : 5 ≤ s.size) (h6 : closing = true → 6 ≤ s.size) :
    Calls Tryz.prog 89 #[.pointer (some ⟨b, 0, none⟩), .bool closing] w (TagRPost b s w (refTagF closing (L s))) := by
  cases closing with
  | true => exact rtag_close s b w h hs (h6 rfl)
  | false => exact rtag_open s b w h hs h5
theorem beg_len {s t : List UInt8} (h : begF s t = true) : t.length ≤ s.length := by
  unfold begF at h
  rw [Bool.and_eq_true, decide_eq_true_eq] at h
  exact h.1
set_option maxRecDepth 20000 in
set_option maxHeartbeats 1000000 in
theorem rtagf_calls (s : ByteArray) (w : World) (hs : s.size ≤ 10000000) (h5 : 5 ≤ s.size) :
    Calls Tryz.prog 56 #[.string s] w (TagFPost s w (refTagF (begF (L s) closB) (L s))) := by
  have h6 : begF (L s) closB = true → 6 ≤ s.size := fun h => by have := beg_len h; rw [size_L]; exact this
  have HB0 := Blk.new w 80 #[.int .i64 0, .string ⟨#[]⟩, .slice none 0 0]
  have HB1 := Blk.new (w.alloc (.cells #[.int .i64 0, .string ⟨#[]⟩, .slice none 0 0] 80)) 107 #[.string ⟨#[]⟩, .int .i64 0, .int .i64 0, .bool false]
  have HB2 := Blk.new ((w.alloc (.cells #[.int .i64 0, .string ⟨#[]⟩, .slice none 0 0] 80)).alloc (.cells #[.string ⟨#[]⟩, .int .i64 0, .int .i64 0, .bool false] 107)) 107 (rCells s 0 0 false)
  rw [size_alloc] at HB1 HB2
  rw [size_alloc] at HB2
  replace HB0 := (HB0.alloc (.cells #[.string ⟨#[]⟩, .int .i64 0, .int .i64 0, .bool false] 107)).alloc (.cells (rCells s 0 0 false) 107)
  replace HB1 := HB1.alloc (.cells (rCells s 0 0 false) 107)
  have HBE := ((((Below.refl w.heap.size w).alloc (Nat.le_refl _) (.cells #[.int .i64 0, .string ⟨#[]⟩, .slice none 0 0] 80)).alloc (by simp) (.cells #[.string ⟨#[]⟩, .int .i64 0, .int .i64 0, .bool false] 107))).alloc (by rw [size_alloc, size_alloc]; omega) (.cells (rCells s 0 0 false) 107)
  have HRS : RsIn _ (w.heap.size + 1 + 1) s (.go 0) := ⟨_, _, _, HB2, Nat.zero_le _, rfl, rfl, rfl⟩
  replace HB0 := Lib.hid HB0
  replace HB1 := Lib.hid HB1
  replace HBE := Lib.hid HBE
  replace HRS := Lib.hid HRS
  have H6 := Lib.hid h6
  clear HB2 h6
  go_enter Tryz.func56, Tryz.ntmps56
  go_wp2_with fail
  refine (begins_calls s _ _).mono ?_
  rintro e w1 ⟨rfl, hw1⟩
  rw [← hw1]
  clear hw1
  rw [show L ⟨#[60, 47, 101, 115, 105, 58]⟩ = closB from rfl]
  generalize begF (L s) closB = closing at *
  go_wp2_with fail
  refine (rtagm_calls closing s _ _ HRS.out hs h5 H6.out).mono ?_
  rintro e w3 hp
  obtain ⟨hg3, h3, kd, nm, A, n, c, rfl, ht3⟩ := hp
  obtain ⟨a, z, sh, hbR, hi⟩ := h3
  have hT := Blk.new w3 80 #[.int .i64 kd, .string nm, .slice A n c]
  have hX := (HB0.out.grown hg3 (by simp; omega)).alloc (.cells #[.int .i64 kd, .string nm, .slice A n c] 80)
  have hY := (HB1.out.grown hg3 (by simp)).alloc (.cells #[.int .i64 kd, .string nm, .slice A n c] 80)
  have hR := hbR.alloc (.cells #[.int .i64 kd, .string nm, .slice A n c] 80)
  have HBE3 : Hid (Below w.heap.size w (w3.alloc (.cells #[.int .i64 kd, .string nm, .slice A n c] 80))) :=
    (HBE.out.trans (below_of_grown hg3 HBE.out.size (fun k hk => by injection hk with hk; omega))).alloc (by have := HBE.out.size; have := hg3.size; omega) _
  have HI := Lib.hid hi
  have HTG : Hid (∀ t r k, refTagF closing (L s) = .ok t r k → kd = t.kind ∧ L nm = t.text ∧ GR (w3.alloc (.cells #[.int .i64 kd, .string nm, .slice A n c] 80)) (fun g => w.heap.size ≤ g ∧ g ≠ w.heap.size ∧ g ≠ w.heap.size + 1) (.row 2 (t.attrs.map Pair.gv)) [.slice A n c]) := fun t r k h => by
    obtain ⟨e1, e2, e3⟩ := ht3 t r k h
    refine ⟨e1, e2, (e3.weaken fun g hg => ?_).below ((Below.refl _ _).alloc (Nat.le_refl _) _)⟩
    rw [size_alloc, size_alloc, size_alloc] at hg
    exact ⟨by omega, by omega, by omega⟩
  clear ht3 hi hg3 hbR HB0 HB1 HBE HRS H6
  have t0 := hT.cell 0
  have t1 := hT.cell 1
  have t2 := hT.cell 2
  obtain ⟨⟨c0, c1, c2, c3⟩, -, -, -⟩ := rblk hR
  have x0 := hX.cell 0
  have x1 := hX.cell 1
  have x2 := hX.cell 2
  have y0 := hY.cell 0
  have y1 := hY.cell 1
  have y2 := hY.cell 2
  have y3 := hY.cell 3
  have fx0 := hX.frozen 0
  have fx1 := hX.frozen 1
  have fx2 := hX.frozen 2
  have fy0 := hY.frozen 0
  have fy1 := hY.frozen 1
  have fy2 := hY.frozen 2
  have fy3 := hY.frozen 3
  have HX := Lib.hid hX
  have HY := Lib.hid hY
  clear hT hR hX hY
  go_upto_region 3 with (fail)
  generalize w3.heap.size = T at *
  generalize w3.alloc (.cells #[.int .i64 kd, .string nm, .slice A n c] 80) = w4 at *
  go_region
  have hb5 : Below w.heap.size w (((((((w4.setCell ⟨w.heap.size, 0, none⟩ (.int .i64 kd)).setCell ⟨w.heap.size, 1, none⟩ (.string nm)).setCell ⟨w.heap.size, 2, none⟩ (.slice A n c)).setCell ⟨w.heap.size + 1, 0, none⟩ (.string s)).setCell ⟨w.heap.size + 1, 1, none⟩ (.int .i64 a)).setCell ⟨w.heap.size + 1, 2, none⟩ (.int .i64 z)).setCell ⟨w.heap.size + 1, 3, none⟩ (.bool sh)).drew :=
    (((((((HBE3.out.setCell (p := ⟨w.heap.size, 0, none⟩) (Nat.le_refl _) _).setCell (p := ⟨w.heap.size, 1, none⟩) (Nat.le_refl _) _).setCell (p := ⟨w.heap.size, 2, none⟩) (Nat.le_refl _) _).setCell (p := ⟨w.heap.size + 1, 0, none⟩) (by show w.heap.size ≤ w.heap.size + 1; omega) _).setCell (p := ⟨w.heap.size + 1, 1, none⟩) (by show w.heap.size ≤ w.heap.size + 1; omega) _).setCell (p := ⟨w.heap.size + 1, 2, none⟩) (by show w.heap.size ≤ w.heap.size + 1; omega) _).setCell (p := ⟨w.heap.size + 1, 3, none⟩) (by show w.heap.size ≤ w.heap.size + 1; omega) _).drew
  have hX5 : Blk (((((((w4.setCell ⟨w.heap.size, 0, none⟩ (.int .i64 kd)).setCell ⟨w.heap.size, 1, none⟩ (.string nm)).setCell ⟨w.heap.size, 2, none⟩ (.slice A n c)).setCell ⟨w.heap.size + 1, 0, none⟩ (.string s)).setCell ⟨w.heap.size + 1, 1, none⟩ (.int .i64 a)).setCell ⟨w.heap.size + 1, 2, none⟩ (.int .i64 z)).setCell ⟨w.heap.size + 1, 3, none⟩ (.bool sh)).drew w.heap.size 80 #[.int .i64 kd, .string nm, .slice A n c] :=
    (((((((HX.out.set_ 0 (.int .i64 kd)).set_ 1 (.string nm)).set_ 2 (.slice A n c)).far (p := ⟨w.heap.size + 1, 0, none⟩) (by show w.heap.size ≠ w.heap.size + 1; omega) _).far (p := ⟨w.heap.size + 1, 1, none⟩) (by show w.heap.size ≠ w.heap.size + 1; omega) _).far (p := ⟨w.heap.size + 1, 2, none⟩) (by show w.heap.size ≠ w.heap.size + 1; omega) _).far (p := ⟨w.heap.size + 1, 3, none⟩) (by show w.heap.size ≠ w.heap.size + 1; omega) _).drewN 1
  have hY5 : Blk (((((((w4.setCell ⟨w.heap.size, 0, none⟩ (.int .i64 kd)).setCell ⟨w.heap.size, 1, none⟩ (.string nm)).setCell ⟨w.heap.size, 2, none⟩ (.slice A n c)).setCell ⟨w.heap.size + 1, 0, none⟩ (.string s)).setCell ⟨w.heap.size + 1, 1, none⟩ (.int .i64 a)).setCell ⟨w.heap.size + 1, 2, none⟩ (.int .i64 z)).setCell ⟨w.heap.size + 1, 3, none⟩ (.bool sh)).drew (w.heap.size + 1) 107 #[.string s, .int .i64 a, .int .i64 z, .bool sh] :=
    ((((((((HY.out.far (p := ⟨w.heap.size, 0, none⟩) (by show w.heap.size + 1 ≠ w.heap.size; omega) _).far (p := ⟨w.heap.size, 1, none⟩) (by show w.heap.size + 1 ≠ w.heap.size; omega) _).far (p := ⟨w.heap.size, 2, none⟩) (by show w.heap.size + 1 ≠ w.heap.size; omega) _).set_ 0 (.string s)).set_ 1 (.int .i64 a)).set_ 2 (.int .i64 z)).set_ 3 (.bool sh)).drewN 1)
  have hG5 : ∀ g, g < w4.heap.size → g ≠ w.heap.size → g ≠ w.heap.size + 1 → (((((((w4.setCell ⟨w.heap.size, 0, none⟩ (.int .i64 kd)).setCell ⟨w.heap.size, 1, none⟩ (.string nm)).setCell ⟨w.heap.size, 2, none⟩ (.slice A n c)).setCell ⟨w.heap.size + 1, 0, none⟩ (.string s)).setCell ⟨w.heap.size + 1, 1, none⟩ (.int .i64 a)).setCell ⟨w.heap.size + 1, 2, none⟩ (.int .i64 z)).setCell ⟨w.heap.size + 1, 3, none⟩ (.bool sh)).drew.heap[g]? = w4.heap[g]? := fun g h0 h1 h2 =>
    heap7 w4 _ _ _ _ _ _ _ _ _ g h0 h1 h2
  generalize (((((((w4.setCell ⟨w.heap.size, 0, none⟩ (.int .i64 kd)).setCell ⟨w.heap.size, 1, none⟩ (.string nm)).setCell ⟨w.heap.size, 2, none⟩ (.slice A n c)).setCell ⟨w.heap.size + 1, 0, none⟩ (.string s)).setCell ⟨w.heap.size + 1, 1, none⟩ (.int .i64 a)).setCell ⟨w.heap.size + 1, 2, none⟩ (.int .i64 z)).setCell ⟨w.heap.size + 1, 3, none⟩ (.bool sh)).drew = WF at *
  have q0 := hX5.cell 0
  have q1 := hX5.cell 1
  have q2 := hX5.cell 2
  have p0 := hY5.cell 0
  have p1 := hY5.cell 1
  have p2 := hY5.cell 2
  have p3 := hY5.cell 3
  have HB5 := Lib.hid hb5
  have HG5 := Lib.hid hG5
  clear hb5 hG5 hX5 hY5
  go_wp2_with fail
  refine bodyPost_ret (v := .tuple #[.agg #[.int .i64 kd, .string nm, .slice A n c], .agg #[.string s, .int .i64 a, .int .i64 z, .bool sh]]) (by simp [results, Tryz.results56, go_sem, q0, q1, q2, p0, p1, p2, p3]) rfl ⟨HB5.out, kd, nm, A, n, c, a, z, sh, rfl, HI.out, fun t r k h => ?_⟩
  obtain ⟨e1, e2, e3⟩ := HTG.out t r k h
  exact ⟨e1, e2, GR.mono (fun g hg => hg.1) (fun g hg hlt => HG5.out g hlt hg.2.1 hg.2.2) _ _ e3⟩
end Go.Proofs.YtijpfcjlochahaaGreatDoor
namespace Go.Proofs.YtijpfcjlochahaaGreatDoor
set_option linter.unusedVariables false
set_option linter.unusedSimpArgs false
open Go Go.RowKit

theorem refMark_marks (b : Bool) (s : List UInt8) : refMark b s = [] ∨ refMark b s = openB ∨ refMark b s = closB ∨ refMark b s = remB ∨ refMark b s = behB := by
  rw [refMark_eq]
  split
  · exact markF_marks b s
  · exact .inl rfl
theorem refMark_hits {b : Bool} {s : List UInt8} (h : refMark b s ≠ []) : hits s (refMark b s) = true := by
  unfold refMark at h ⊢
  by_cases hs : s = []
  · rw [if_pos hs] at h; exact absurd rfl h
  rw [if_neg hs] at h ⊢
  by_cases h1 : hits s openB = true
  · rw [if_pos h1]; exact h1
  rw [if_neg h1] at h ⊢
  by_cases h2 : hits s closB = true
  · rw [if_pos h2]; exact h2
  rw [if_neg h2] at h ⊢
  by_cases h3 : hits s (lastMark b) = true
  · rw [if_pos h3]; exact h3
  rw [if_neg h3] at h
  exact absurd rfl h
theorem beg_of_hits {s m : List UInt8} (h : hits s m = true) (hl : m.length ≤ s.length) : begF s m = true := by
  unfold hits at h
  unfold begF
  rw [List.take_of_length_le hl] at h
  rw [h, decide_eq_true hl]
  rfl
set_option maxRecDepth 20000 in
set_option maxHeartbeats 2000000 in
theorem rright_calls (rest : ByteArray) (b : Bool) (w : World) (hs : rest.size ≤ 10000000) :
    Calls Tryz.prog 54 #[.agg #[.string rest, .bool b]] w fun e w' => e = .returned (.bool (rightF ⟨L rest, b⟩)) ∧ Below w.heap.size w w' := by
  have hX := Blk.new w 48 #[.string rest, .bool b]
  have HB0 := Lib.hid ((Below.refl w.heap.size w).alloc (Nat.le_refl _) (.cells #[.string rest, .bool b] 48))
  have HX := Lib.hid hX
  have c0 := hX.cell 0
  have c1 := hX.cell 1
  have HR : Hid (rightF ⟨L rest, b⟩ = refRight ⟨L rest, b⟩) := right_ref _
  unfold refRight at HR
  simp only at HR
  generalize rightF ⟨L rest, b⟩ = RF at *
  clear hX
  cases hre : rest.toList.isEmpty with
  | true =>
    have HRE : Hid (RF = true) := by
      rw [toList_L] at hre
      rw [Hid, HR.out, if_pos (List.isEmpty_iff.1 hre)]
    clear HR
    go_enter Tryz.func54, Tryz.ntmps54
    go_wp2_with fail
    go_ret
    exact ⟨by rw [HRE.out]; rfl, HB0.out⟩
  | false =>
    have hre2 : ¬ L rest = [] := by rw [toList_L] at hre; exact fun h => by rw [h] at hre; cases hre
    rw [if_neg hre2] at HR
    have HMM := Lib.hid (refMark_marks b (L rest))
    have HMH := Lib.hid (refMark_hits (b := b) (s := L rest))
    have HMC := Lib.hid (rmark_calls rest b (w.alloc (.cells #[.string rest, .bool b] 48)))
    generalize refMark b (L rest) = m at *
    clear hre2
    go_enter Tryz.func54, Tryz.ntmps54
    go_wp2_with fail
    refine HMC.out.mono ?_
    rintro e w2 ⟨rfl, hb2⟩
    have hX2 := HX.out.below hb2 HX.out.lt
    have d0 := hX2.cell 0
    have d1 := hX2.cell 1
    have HB2 := Lib.hid (HB0.out.trans (hb2.mono HB0.out.size))
    have hsm : (bs m).size = m.length := size_bs m
    have htl : (bs m).toList = m := toList_bs m
    have hrl : (L rest).length = rest.size := (size_L rest).symm
    clear hb2 HMC HX HB0 c0 c1 hX2
    by_cases hm0 : m = []
    · have HRF : Hid (RF = false) := by rw [Hid, HR.out, if_pos (.inl hm0), hm0]; simp
      have hem : m.isEmpty = true := by rw [hm0]; rfl
      clear HR hm0
      go_wp2_with fail
      go_ret
      exact ⟨by rw [HRF.out]; rfl, HB2.out⟩
    · have hem : m.isEmpty = false := by simpa using hm0
      by_cases hlm : rest.size < m.length
      · have HRF : Hid (RF = true) := by rw [Hid, HR.out, if_pos (.inr (by rw [hrl]; exact hlm))]; simpa using hm0
        have hlm2 : (rest.size : Int) < (m.length : Int) := by omega
        have hlm3 : decide ((rest.size : Int) < (m.length : Int)) = true := by simpa using hlm
        clear HR hm0 hlm
        go_wp2_with fail
        go_ret
        exact ⟨by rw [HRF.out]; rfl, HB2.out⟩
      · have hlm2 : ¬ (rest.size : Int) < (m.length : Int) := by omega
        have hlm3 : decide ((rest.size : Int) < (m.length : Int)) = false := by simpa using hlm
        rw [if_neg (by rw [hrl]; exact fun h => h.elim hm0 hlm)] at HR
        have hbeg : begF (L rest) m = true := beg_of_hits (HMH.out hm0) (by rw [hrl]; omega)
        have HBG := Lib.hid hbeg
        have HLM := Lib.hid hlm
        clear hm0 hlm hbeg HMH
        by_cases hB : m = behB
        · have HRF : Hid (RF = false) := by rw [Hid, HR.out, if_pos (.inl hB)]
          have hb1 : (m == [45, 45, 62]) = true := by rw [hB]; rfl
          clear HR hB
          go_wp2_with fail
          go_ret
          exact ⟨by rw [HRF.out]; rfl, HB2.out⟩
        · have hb1 : (m == [45, 45, 62]) = false := beq_eq_false_iff_ne.2 hB
          by_cases hB2 : m = remB
          · have HRF : Hid (RF = false) := by rw [Hid, HR.out, if_pos (.inr hB2)]
            have hb2 : (m == [60, 33, 45, 45, 101, 115, 105]) = true := by rw [hB2]; rfl
            clear HR hB hB2
            go_wp2_with fail
            go_ret
            exact ⟨by rw [HRF.out]; rfl, HB2.out⟩
          · have hb2 : (m == [60, 33, 45, 45, 101, 115, 105]) = false := beq_eq_false_iff_ne.2 hB2
            rw [if_neg (fun h => h.elim hB hB2)] at HR
            have hmo : m = openB ∨ m = closB := by
              rcases HMM.out with h | h | h | h | h
              · rw [h] at hem; cases hem
              · exact .inl h
              · exact .inr h
              · exact absurd h hB2
              · exact absurd h hB
            have h5 : 5 ≤ rest.size := by
              have := HLM.out
              rcases hmo with h | h
              · rw [h] at this; have e : openB.length = 5 := rfl; omega
              · rw [h] at this; have e : closB.length = 6 := rfl; omega
            rw [tagF_ref hmo HBG.out] at HR
            have HTC := Lib.hid (rtagf_calls rest w2 hs h5)
            generalize refTagF (begF (L rest) closB) (L rest) = F at *
            clear hB hB2 hmo h5 HBG HLM HMM
            go_wp2_with fail
            refine HTC.out.mono ?_
            rintro e w3 hp
            obtain ⟨hb3, kd, nm, A, n, c, a, z, sh, rfl, hi, -⟩ := hp
            have HB3 := Lib.hid (HB2.out.trans (hb3.mono HB2.out.size))
            have HB4 := Lib.hid (((HB3.out.alloc HB3.out.size (.cells #[.int .i64 kd, .string nm, .slice A n c] 80)).alloc (by rw [size_alloc]; have := HB3.out.size; omega) (.cells #[.string rest, .int .i64 a, .int .i64 z, .bool sh] 107)))
            clear hb3 HTC d0 d1
            cases F with
            | short =>
              obtain ⟨rfl, rfl⟩ := hi
              have HRF : Hid (RF = true) := HR.out
              clear HR
              go_wp2_with fail
              go_ret
              exact ⟨by rw [HRF.out]; rfl, HB4.out⟩
            | ok t r k =>
              obtain ⟨-, rfl, rfl, rfl⟩ := hi
              have HRF : Hid (RF = false) := HR.out
              clear HR
              go_wp2_with fail
              go_ret
              exact ⟨by rw [HRF.out]; rfl, HB4.out⟩
            | bad y =>
              obtain ⟨rfl, -, rfl⟩ := hi
              have HRF : Hid (RF = false) := HR.out
              clear HR
              go_wp2_with fail
              go_ret
              exact ⟨by rw [HRF.out]; rfl, HB4.out⟩
theorem end_ref (x : LexSt) : endF x = if rightF x = true then (if begF x.rest openB || begF x.rest closB then ([], 40) else if x.rest = [] then ([], 0) else ([textTok x.rest], 0)) else ([], 1) := by
  have h : ∀ m s : List UInt8, m.isPrefixOf s = begF s m := fun m s => by
    unfold begF
    rw [Bool.eq_iff_iff, List.isPrefixOf_iff_prefix, Bool.and_eq_true, decide_eq_true_eq, beq_iff_eq, List.prefix_iff_eq_take]
    constructor
    · intro h
      have hl := congrArg List.length h
      rw [List.length_take] at hl
      exact ⟨by omega, h.symm⟩
    · intro h
      exact h.2.symm
  unfold endF
  rw [h, h]
set_option maxRecDepth 20000 in
set_option maxHeartbeats 2000000 in
theorem rend_calls (rest : ByteArray) (b : Bool) (w : World) (hs : rest.size ≤ 10000000) :
    Calls Tryz.prog 57 #[.agg #[.string rest, .bool b]] w fun e w' => (∃ v, e = .returned (.tuple #[v, .int .i64 (endF ⟨L rest, b⟩).2]) ∧ GR w' (fun g => w.heap.size ≤ g) (.row 3 ((endF ⟨L rest, b⟩).1.map Token.gv)) [v]) ∧ Below w.heap.size w w' := by
  have hX := Blk.new w 48 #[.string rest, .bool b]
  have HB0 := Lib.hid ((Below.refl w.heap.size w).alloc (Nat.le_refl _) (.cells #[.string rest, .bool b] 48))
  have HX := Lib.hid hX
  have c0 := hX.cell 0
  have c1 := hX.cell 1
  have HR : Hid (endF ⟨L rest, b⟩ = _) := end_ref _
  simp only at HR
  generalize endF ⟨L rest, b⟩ = E at *
  clear hX
  go_enter Tryz.func57, Tryz.ntmps57
  go_wp2_with fail
  refine (rright_calls rest b _ hs).mono ?_
  rintro e w2 ⟨rfl, hb2⟩
  have hX2 := HX.out.below hb2 HX.out.lt
  have d0 := hX2.cell 0
  have d1 := hX2.cell 1
  have HB2 := Lib.hid (HB0.out.trans (hb2.mono HB0.out.size))
  clear hb2 HX HB0 c0 c1 hX2
  cases hrt : rightF ⟨L rest, b⟩ with
  | false =>
    rw [hrt, if_neg (by simp)] at HR
    clear hrt
    go_wp2_with fail
    go_ret2
    exact ⟨⟨_, by rw [HR.out]; rfl, by rw [HR.out]; exact gr_nil⟩, HB2.out⟩
  | true =>
    rw [hrt, if_pos rfl] at HR
    clear hrt
    go_wp2_with fail
    refine (begins_calls rest _ w2).mono ?_
    rintro e w3 ⟨rfl, rfl⟩
    rw [show L ⟨#[60, 101, 115, 105, 58]⟩ = openB from rfl]
    cases h1 : begF (L rest) openB with
    | true =>
      rw [h1, Bool.true_or, if_pos rfl] at HR
      go_wp2_with fail
      go_ret2
      exact ⟨⟨_, by rw [HR.out]; rfl, by rw [HR.out]; exact gr_nil⟩, HB2.out⟩
    | false =>
      rw [h1, Bool.false_or] at HR
      clear h1
      go_wp2_with fail
      refine (begins_calls rest _ w2).mono ?_
      rintro e w3 ⟨rfl, rfl⟩
      rw [show L ⟨#[60, 47, 101, 115, 105, 58]⟩ = closB from rfl]
      cases h2 : begF (L rest) closB with
      | true =>
        rw [h2, if_pos rfl] at HR
        go_wp2_with fail
        go_ret2
        exact ⟨⟨_, by rw [HR.out]; rfl, by rw [HR.out]; exact gr_nil⟩, HB2.out⟩
      | false =>
        rw [h2, if_neg (by simp)] at HR
        clear h2
        cases hre : rest.toList.isEmpty with
        | true =>
          rw [if_pos (by rw [toList_L] at hre; exact List.isEmpty_iff.1 hre)] at HR
          go_wp2_with fail
          go_ret2
          exact ⟨⟨_, by rw [HR.out]; rfl, by rw [HR.out]; exact gr_nil⟩, HB2.out⟩
        | false =>
          rw [if_neg (by rw [toList_L] at hre; exact fun h => by rw [h] at hre; cases hre)] at HR
          go_wp2_with fail
          go_ret2
          refine ⟨⟨_, by rw [HR.out]; rfl, ?_⟩, HB2.out.alloc HB2.out.size _⟩
          rw [HR.out]
          refine gr_one_new (cs := [.int .i64 0, .string rest, .slice none 0 0]) (Blk.new w2 80 #[.int .i64 0, .string rest, .slice none 0 0]) (show w.heap.size ≤ w2.heap.size from HB2.out.size) ?_ rfl
          have h := cells_tok (w := w2.alloc (.cells #[.int .i64 0, .string rest, .slice none 0 0] 80)) (F := fun g => w.heap.size ≤ g) (k := 0) (t := L rest) (l := []) (va := .slice none 0 0) gr_nil
          rw [bs_L] at h
          exact h
end Go.Proofs.YtijpfcjlochahaaGreatDoor
