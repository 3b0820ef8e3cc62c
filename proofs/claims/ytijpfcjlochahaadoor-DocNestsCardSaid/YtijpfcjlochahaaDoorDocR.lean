/- The walk of DocNests. -/
import Derived.Test.YtijpfcjlochahaaDoorDocO
import Derived.Test.YtijpfcjlochahaaDoorDocQ
import Derived.Test.YtijpfcjlochahaaDoorDocN
namespace Go.Proofs.YtijpfcjlochahaaDoor
open Go Go.RowKit

theorem textSum_le {l : List Token} {N : Nat} (h : ∀ t ∈ l, t.text.length ≤ N) : textSum l ≤ N * l.length := by
  induction l with
  | nil => simp [textSum]
  | cons x l ih =>
    have h1 := ih (fun t ht => h t (by simp [ht]))
    have h2 := h x (by simp)
    have e : textSum (x :: l) = x.text.length + textSum l := by simp [textSum]
    rw [e, List.length_cons, Nat.mul_add]
    omega
theorem few_bounds (l : List Token) : (fewF l).length ≤ 420 ∧ textSum (fewF l) ≤ 16800 ∧ ∀ t ∈ fewF l, t.attrs.length ≤ 12 := by
  have h0 : (fewF l).length ≤ 420 := by unfold fewF; rw [List.length_map, List.length_take]; omega
  refine ⟨h0, ?_, ?_⟩
  · have h1 := textSum_le (l := fewF l) (N := 40) (fun t ht => by
      obtain ⟨x, -, rfl⟩ := List.mem_map.1 ht
      show (x.text.take 40).length ≤ 40
      rw [List.length_take]; omega)
    have h2 := Nat.mul_le_mul_left 40 h0
    omega
  · intro t ht
    obtain ⟨x, -, rfl⟩ := List.mem_map.1 ht
    show (x.attrs.take 12).length ≤ 12
    rw [List.length_take]; omega
set_option maxRecDepth 20000 in
set_option maxHeartbeats 4000000 in
theorem docNests_calls (s : ByteArray) (l : List Token) (m : Int) (w : World) {v : Value} (hv : GR w (fun _ => True) (.row 3 (l.map Token.gv)) [v]) (_hm : w.cell? ⟨0, 0, none⟩ = some (.int .i64 m)) :
    Calls Tryd.prog 5 #[.string s, v] w fun e w' => e = .returned (.bool true) ∧ Below w.heap.size w w' := by
  obtain ⟨A, c, rfl, -, -, -⟩ := toks_open hv
  have HFC := Lib.hid (fun W (h : Below w.heap.size w W) => few_calls l _ _ W (hv.below h))
  obtain ⟨s0, hs0⟩ : ∃ s0, s0 = s.extract 0 (min s.size 3000) := ⟨_, rfl⟩
  have hs1 : s0.size ≤ 3000 := by rw [hs0, ByteArray.size_extract]; omega
  have HS0 := Lib.hid hs0
  have HFB := Lib.hid (few_bounds l)
  clear hs0 hv _hm
  go_enter Tryd.func5, Tryd.ntmps5
  go_upto_region 2 with (fail)
  go_cut [0, 1] from 9 to 16 (fun sv tv wx => sv = .string s0 ∧ Hid (GR wx (fun g => True) (.row 3 ((fewF l).map Token.gv)) [tv]) ∧ Hid (Below w.heap.size w wx))
  case first =>
    obtain ⟨n, hn⟩ : ∃ n, n = min s.size 3000 := ⟨_, rfl⟩
    have hmi : min (s.size : Int) 3000 = (n : Int) := by omega
    have hn0 : (0 : Int) ≤ (n : Int) := by omega
    have hn1 : (n : Int) ≤ (s.size : Int) := by omega
    have hx : s.extract 0 n = s0 := by rw [hn]; exact HS0.out.symm
    clear hn
    refine wp_region_any (by kernel_rfl) ?_
    change wpAny _ _ _ _ _ _ _ (World.drew _)
    refine wpAny_take (i := 0) (v := ?_) rfl (by kernel_rfl) (by kernel_rfl) (by kernel_rfl) (fun _ _ _ h => h) (Or.inl ⟨by rfl, ?_⟩) ?_
    rotate_left
    · (intro w_; go_simp; try with_reducible rfl)
    refine wpAny_take (i := 1) (v := ?_) rfl (by kernel_rfl) (by kernel_rfl) (by kernel_rfl) (fun _ _ _ h => h) (Or.inl ⟨by rfl, ?_⟩) ?_
    rotate_left
    · (intro w_; go_simp; try with_reducible rfl)
    refine wpAny_take (i := 2) (v := ?_) rfl (by kernel_rfl) (by kernel_rfl) (by kernel_rfl) (fun _ _ _ h => h) (Or.inl ⟨by rfl, ?_⟩) ?_
    rotate_left
    · (intro w_; go_simp; try with_reducible rfl)
    refine wpAny_take (i := 3) (v := ?_) rfl (by kernel_rfl) (by kernel_rfl) (by kernel_rfl) (fun _ _ _ h => h) (Or.inl ⟨by rfl, ?_⟩) ?_
    rotate_left
    · (intro w_; go_simp; try with_reducible rfl)
    refine wpAny_take (i := 4) (v := ?_) rfl (by kernel_rfl) (by kernel_rfl) (by kernel_rfl) (fun _ _ _ h => h) (Or.inl ⟨by rfl, ?_⟩) ?_
    rotate_left
    · (intro w_; go_simp; try with_reducible rfl)
    refine wpAny_take (i := 5) (v := ?_) rfl (by kernel_rfl) (by kernel_rfl) (by kernel_rfl) (fun _ _ _ h => h) (Or.inl ⟨by rfl, ?_⟩) ?_
    rotate_left
    · (intro w_; go_simp; try with_reducible rfl)
    refine wpAny_ready (rs := [6]) (by kernel_rfl) (by simp) ?_
    refine AllReady.cons rfl (fun K_ hK_ => ?_) AllReady.nil
    go_simp
    refine (HFC.out w.drew (Below.refl _ _).drew).mono ?_
    rintro e w1 ⟨v1, rfl, h1, hb1⟩
    refine hK_ _ _ ?_
    clear hK_ K_
    refine wpAny_take (i := 7) (v := ?_) rfl (by kernel_rfl) (by kernel_rfl) (by kernel_rfl) (fun _ _ _ h => h) (Or.inl ⟨by rfl, ?_⟩) ?_
    rotate_left
    · (intro w_; go_simp; try with_reducible rfl)
    refine wpAny_take (i := 8) (v := ?_) rfl (by kernel_rfl) (by kernel_rfl) (by kernel_rfl) (fun _ _ _ h => h) (Or.inl ⟨by rfl, ?_⟩) ?_
    rotate_left
    · (intro w_; go_simp; try with_reducible rfl)
    refine wpAny_done (by kernel_rfl) ?_ _
    have H1 := Lib.hid (h1.weaken (F' := fun _ => True) (fun _ _ => trivial))
    have HB1 : Hid (Below w.heap.size w w1) := (Below.refl _ _).drew.trans hb1
    clear h1 hb1
    go_wp2_with fail
    go_meet
    case rel => exact ⟨rfl, H1.out, HB1.out⟩
  case rest =>
    obtain ⟨rfl, HG, HB⟩ := hcut
    obtain ⟨A1, c1, rfl, -, -, -⟩ := toks_open HG.out
    have HN1 := Lib.hid (readF_nests (L s0))
    have HN2 := Lib.hid (buildF_nests (fewF l))
    clear hs1 HFC
    have hs1 : s0.size ≤ 90000 := by rw [HS0.out, ByteArray.size_extract]; omega
    go_wp2_with fail
    refine (read_calls s0 wc hs1).mono ?_
    generalize readF (L s0) = R1 at *
    obtain ⟨x1, er1⟩ := R1
    rintro e w2 ⟨v2, rfl, h2, hb2⟩
    have HG2 := Lib.hid (HG.out.below hb2)
    have HB2 := Lib.hid (HB.out.trans (hb2.mono HB.out.size))
    obtain ⟨A2, c2, rfl, -, -, -⟩ := elems_open h2
    have H2 := Lib.hid h2
    clear h2 hb2 HG HB
    go_upto_region 3 with (fail)
    go_cut [36] from 17 to 37 (fun bv wx => bv = .bool false ∧ Hid (Below w2.heap.size w2 wx))
    case first =>
      by_cases h0 : er1 = 0
      · have b0 : (er1 == 0) = true := by rw [h0]; rfl
        have b1 : (er1 != 0) = false := by rw [h0]; rfl
        have HNN := Lib.hid (HN1.out.1 h0)
        clear h0
        go_wp2_with fail
        refine (nests_calls 16 0 x1 _ _ w2 (by omega) HNN.out H2.out).mono ?_
        rintro e w3 ⟨rfl, hb3⟩
        have HB3 := Lib.hid hb3
        clear hb3
        go_wp2_with fail
        go_meet
        case rel => exact ⟨rfl, HB3.out⟩
      · have b0 : (er1 == 0) = false := by rw [beq_eq_false_iff_ne]; exact h0
        have b1 : (er1 != 0) = true := by rw [bne_iff_ne]; exact h0
        have hx0 : x1.length = 0 := by rw [HN1.out.2 h0]; rfl
        clear h0
        go_wp2_with fail
        go_meet
        case rel => exact ⟨rfl, Below.refl _ _⟩
    case rest =>
      obtain ⟨rfl, HB3⟩ := hcut
      have HG3 := Lib.hid (HG2.out.below HB3.out)
      have HB3w := Lib.hid (HB2.out.trans (HB3.out.mono HB2.out.size))
      clear HG2 H2 HN1
      go_wp2_with fail
      refine (build_calls (fewF l) _ _ wc HG3.out (by have := HFB.out.1; omega) (by have := HFB.out.2.1; omega) (fun t ht => Nat.le_trans (HFB.out.2.2 t ht) (by omega))).mono ?_
      generalize buildF (fewF l) = R2 at *
      obtain ⟨x4, er4⟩ := R2
      rintro e w4 ⟨v4, rfl, h4, hb4⟩
      have HB4 := Lib.hid (HB3w.out.trans (hb4.mono HB3w.out.size))
      obtain ⟨A4, c4, rfl, -, -, -⟩ := elems_open h4
      have H4 := Lib.hid h4
      clear h4 hb4 HG3 HB3w
      go_wp2_with fail
      refine (alive15_calls w4).mono ?_
      rintro e w5 ⟨rfl, hb5⟩
      have HB5 := Lib.hid (HB4.out.trans (hb5.mono HB4.out.size))
      have H5 := Lib.hid (H4.out.below hb5)
      clear hb5 H4
      by_cases h0 : er4 = 0
      · have b0 : (er4 == 0) = true := by rw [h0]; rfl
        have b1 : (er4 != 0) = false := by rw [h0]; rfl
        have HNN := Lib.hid (HN2.out.1 h0)
        clear h0
        go_wp2_with fail
        refine (nests_calls 16 0 x4 _ _ w5 (by omega) HNN.out H5.out).mono ?_
        rintro e w6 ⟨rfl, hb6⟩
        have HB6 := Lib.hid (HB5.out.trans (hb6.mono HB5.out.size))
        clear hb6
        go_wp2_with fail
        go_ret
        exact ⟨rfl, HB6.out⟩
      · have b0 : (er4 == 0) = false := by rw [beq_eq_false_iff_ne]; exact h0
        have b1 : (er4 != 0) = true := by rw [bne_iff_ne]; exact h0
        have hx0 : x4.length = 0 := by rw [HN2.out.2 h0]; rfl
        clear h0
        go_wp2_with fail
        go_ret
        exact ⟨rfl, HB5.out⟩
end Go.Proofs.YtijpfcjlochahaaDoor
