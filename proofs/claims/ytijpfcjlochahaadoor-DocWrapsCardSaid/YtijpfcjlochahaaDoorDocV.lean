/- The walk of DocWraps. -/
import Derived.Test.YtijpfcjlochahaaDoorRefL
import Derived.Test.YtijpfcjlochahaaDoorDocO
import Derived.Test.YtijpfcjlochahaaDoorPDoc
import Derived.Test.YtijpfcjlochahaaDoorLike
import Derived.Test.YtijpfcjlochahaaDoorDocN
namespace Go.Proofs.YtijpfcjlochahaaDoor
open Go Go.RowKit

theorem wrap10_bs (s : ByteArray) : L ((⟨#[60, 101, 115, 105, 58, 118, 97, 114, 115, 62]⟩ : ByteArray) ++ s ++ ⟨#[60, 47, 101, 115, 105, 58, 118, 97, 114, 115, 62]⟩) = openS 10 ++ L s ++ closeS 10 := by
  rw [L_append, L_append]; rfl
theorem wrap11_bs (s : ByteArray) : L ((⟨#[60, 101, 115, 105, 58, 114, 101, 109, 111, 118, 101, 62]⟩ : ByteArray) ++ s ++ ⟨#[60, 47, 101, 115, 105, 58, 114, 101, 109, 111, 118, 101, 62]⟩) = openS 11 ++ L s ++ closeS 11 := by
  rw [L_append, L_append]; rfl
theorem read_few {s : List UInt8} (h : (readF s).2 = 0) : (allF s).2 = 0 ∧ (allF s).1.length ≤ 400 := by
  have h1 := readF_all h
  refine ⟨h1, ?_⟩
  unfold readF at h
  rw [if_neg (by simpa using h1)] at h
  unfold buildF at h
  simp only at h
  rw [joinedF_id (allF_plain s) (allF_joined s)] at h
  split at h
  · rename_i h2
    exact absurd h h2
  · rename_i h2
    have := buildLoop_few (allF s).1 0 [page0] (by omega) (by simpa using h2)
    omega
theorem wraps_law {s : List UInt8} (he : (readF s).2 = 0) (ho : oddF s = false) : ∃ c : Int, (c = 0 ∨ c = 4 ∨ c = 5) ∧ (readF (openS 10 ++ s ++ closeS 10)).2 = c ∧ (readF (openS 11 ++ s ++ closeS 11)).2 = c ∧
    (c = 0 → (readF (openS 10 ++ s ++ closeS 10)).1 = [.mk 10 [] [] [] false [] (readF s).1] ∧ (readF (openS 11 ++ s ++ closeS 11)).1 = [.mk 11 [] [] [] false [] []]) := by
  obtain ⟨c, hc, hk⟩ := readF_wraps (odd_false ho) he
  obtain ⟨h1, h2⟩ := hk 10 (.inl rfl)
  obtain ⟨h3, h4⟩ := hk 11 (.inr rfl)
  exact ⟨c, hc, h1, h3, fun h0 => ⟨h2 h0, h4 h0⟩⟩
set_option maxRecDepth 20000 in
set_option maxHeartbeats 4000000 in
theorem docWraps_calls (s : ByteArray) (m : Int) (w : World) (_hm : w.cell? ⟨0, 0, none⟩ = some (.int .i64 m)) :
    Calls Tryd.prog 6 #[.string s] w fun e w' => e = .returned (.bool true) ∧ Below w.heap.size w w' := by
  obtain ⟨s0, hs0⟩ : ∃ s0, s0 = s.extract 0 (min s.size 2000) := ⟨_, rfl⟩
  have hs1 : s0.size ≤ 2000 := by rw [hs0, ByteArray.size_extract]; omega
  have HS0 := Lib.hid hs0
  obtain ⟨n, hn⟩ : ∃ n, n = min s.size 2000 := ⟨_, rfl⟩
  have hmi : min (s.size : Int) 2000 = (n : Int) := by omega
  have hn0 : (0 : Int) ≤ (n : Int) := by omega
  have hn1 : (n : Int) ≤ (s.size : Int) := by omega
  have hx : s.extract 0 n = s0 := by rw [hn]; exact HS0.out.symm
  have hz1 : (⟨#[60, 101, 115, 105, 58, 118, 97, 114, 115, 62]⟩ : ByteArray).size = 10 := rfl
  have hz2 : (⟨#[60, 47, 101, 115, 105, 58, 118, 97, 114, 115, 62]⟩ : ByteArray).size = 11 := rfl
  have hz3 : (⟨#[60, 101, 115, 105, 58, 114, 101, 109, 111, 118, 101, 62]⟩ : ByteArray).size = 12 := rfl
  have hz4 : (⟨#[60, 47, 101, 115, 105, 58, 114, 101, 109, 111, 118, 101, 62]⟩ : ByteArray).size = 13 := rfl
  have hq1 : (⟨#[60, 101, 115, 105, 58, 118, 97, 114, 115, 62]⟩ : ByteArray).size + s0.size ≤ 3000 := by rw [hz1]; omega
  have hq2 : ((⟨#[60, 101, 115, 105, 58, 118, 97, 114, 115, 62]⟩ : ByteArray) ++ s0).size + (⟨#[60, 47, 101, 115, 105, 58, 118, 97, 114, 115, 62]⟩ : ByteArray).size ≤ 4000 := by rw [ByteArray.size_append, hz1, hz2]; omega
  have hq3 : (⟨#[60, 101, 115, 105, 58, 114, 101, 109, 111, 118, 101, 62]⟩ : ByteArray).size + s0.size ≤ 3000 := by rw [hz3]; omega
  have hq4 : ((⟨#[60, 101, 115, 105, 58, 114, 101, 109, 111, 118, 101, 62]⟩ : ByteArray) ++ s0).size + (⟨#[60, 47, 101, 115, 105, 58, 114, 101, 109, 111, 118, 101, 62]⟩ : ByteArray).size ≤ 4000 := by rw [ByteArray.size_append, hz3, hz4]; omega
  have HRA := Lib.hid (fun W => read_calls s0 W (by omega))
  have HRV := Lib.hid (fun W => read_calls ((⟨#[60, 101, 115, 105, 58, 118, 97, 114, 115, 62]⟩ : ByteArray) ++ s0 ++ ⟨#[60, 47, 101, 115, 105, 58, 118, 97, 114, 115, 62]⟩) W (by rw [ByteArray.size_append]; omega))
  have HRR := Lib.hid (fun W => read_calls ((⟨#[60, 101, 115, 105, 58, 114, 101, 109, 111, 118, 101, 62]⟩ : ByteArray) ++ s0 ++ ⟨#[60, 47, 101, 115, 105, 58, 114, 101, 109, 111, 118, 101, 62]⟩) W (by rw [ByteArray.size_append]; omega))
  rw [wrap10_bs] at HRV
  rw [wrap11_bs] at HRR
  have HRT := Lib.hid (fun W => rall_calls s0 W (by omega))
  have HRO := Lib.hid (fun W => rodd_calls s0 W (by omega))
  have HFW := Lib.hid (read_few (s := L s0))
  have HWL := Lib.hid (wraps_law (s := L s0))
  generalize readF (openS 10 ++ L s0 ++ closeS 10) = RV at *
  generalize readF (openS 11 ++ L s0 ++ closeS 11) = RR at *
  generalize readF (L s0) = RA at *
  generalize allF (L s0) = RT at *
  generalize oddF (L s0) = OD at *
  obtain ⟨x, ea⟩ := RA
  obtain ⟨y, ev⟩ := RV
  obtain ⟨z, er⟩ := RR
  obtain ⟨t, et⟩ := RT
  simp only at HFW HWL
  clear hs0 _hm hn hz1 hz2 hz3 hz4 HS0
  go_enter Tryd.func6, Tryd.ntmps6
  go_wp2_with fail
  refine (HRA.out _).mono ?_
  rintro e w2 ⟨v2, rfl, h2, hb2⟩
  have HB2 := Lib.hid hb2
  obtain ⟨A2, c2, rfl, -, -, -⟩ := elems_open h2
  have H2 := Lib.hid (h2.weaken (F' := fun _ => True) (fun _ _ => trivial))
  clear h2 hb2 HRA
  go_wp2_with fail
  refine (HRV.out _).mono ?_
  rintro e w3 ⟨v3, rfl, h3, hb3⟩
  have HB3 := Lib.hid (HB2.out.trans (hb3.mono HB2.out.size))
  obtain ⟨A3, c3, rfl, -, -, -⟩ := elems_open h3
  have H3 := Lib.hid (h3.weaken (F' := fun _ => True) (fun _ _ => trivial))
  replace H2 := Lib.hid (H2.out.below hb3)
  clear h3 hb3 HRV HB2
  go_wp2_with fail
  refine (HRR.out _).mono ?_
  rintro e w4 ⟨v4, rfl, h4, hb4⟩
  have HB4 := Lib.hid (HB3.out.trans (hb4.mono HB3.out.size))
  obtain ⟨A4, c4, rfl, -, -, -⟩ := elems_open h4
  have H4 := Lib.hid (h4.weaken (F' := fun _ => True) (fun _ _ => trivial))
  replace H2 := Lib.hid (H2.out.below hb4)
  replace H3 := Lib.hid (H3.out.below hb4)
  clear h4 hb4 HRR HB3
  go_wp2_with fail
  refine (HRT.out _).mono ?_
  rintro e w5 ⟨⟨v5, rfl, h5⟩, hb5⟩
  have HB5 := Lib.hid (HB4.out.trans (hb5.mono HB4.out.size))
  obtain ⟨A5, c5, rfl, -, -, -⟩ := toks_open h5
  replace H2 := Lib.hid (H2.out.below hb5)
  replace H3 := Lib.hid (H3.out.below hb5)
  replace H4 := Lib.hid (H4.out.below hb5)
  clear h5 hb5 HRT HB4 hq1 hq2 hq3 hq4
  by_cases hea : ea = 0
  · have hab : (ea != 0) = false := by rw [hea]; rfl
    obtain ⟨f1, f2⟩ := HFW.out hea
    have htb : (et != 0) = false := by rw [f1]; rfl
    have HF2 := Lib.hid f2
    have HW2 := Lib.hid (HWL.out hea)
    clear HFW HWL f1 f2 hea
    cases OD with
    | false =>
      obtain ⟨c, hc, h6, h7, h8⟩ := HW2.out rfl
      subst h6
      subst h7
      by_cases hv0 : er = 0
      · have hvb : (er != 0) = false := by rw [hv0]; rfl
        obtain ⟨h9, h10⟩ := h8 hv0
        subst h9 h10
        have htl : decide ((t.length : Int) ≤ 400) = true := by rw [decide_eq_true_eq]; have := HF2.out; omega
        have htl2 : (t.length : Int) ≤ 400 := by have := HF2.out; omega
        clear hc h8 HW2 hv0
        go_wp2_with fail
        refine (HRO.out _).mono ?_
        rintro e w6 ⟨rfl, hb6⟩
        have HB6 := Lib.hid (HB5.out.trans (hb6.mono HB5.out.size))
        replace H2 := Lib.hid (H2.out.below hb6)
        replace H3 := Lib.hid (H3.out.below hb6)
        replace H4 := Lib.hid (H4.out.below hb6)
        clear hb6 HB5
        go_wp2_with fail
        refine (alive15_calls _).mono ?_
        rintro e w7 ⟨rfl, hb7⟩
        have HB7 := Lib.hid (HB6.out.trans (hb7.mono HB6.out.size))
        replace H2 := Lib.hid (H2.out.below hb7)
        replace H3 := Lib.hid (H3.out.below hb7)
        replace H4 := Lib.hid (H4.out.below hb7)
        clear hb7 HB6
        obtain ⟨A3', c3', hv3, hlc3, hcm3, hop3⟩ := elems_open H3.out
        obtain ⟨bb, oo, hA3, -, hi3⟩ := hop3 (by simp)
        injection hv3 with q1 q2 q3
        subst q1
        subst q3
        subst hA3
        obtain ⟨Ak, ck, hE⟩ := hi3 0 (by simp)
        have e0 := hE.c0
        have e6 := hE.c6
        have HK := Lib.hid hE.kids
        simp only [Nat.zero_mul, Nat.add_zero, List.getElem_cons_zero, Elem.kind, Elem.kids] at e0 e6 HK
        clear hE hi3 hop3 q2 H3
        go_wp2_with fail
        refine (like_calls (sizeF x) x _ _ (fun _ => True) w7 (Nat.le_refl _) HK.out H2.out).mono ?_
        rintro e w8 ⟨rfl, hb8⟩
        have HB8 := Lib.hid (HB7.out.trans (hb8.mono HB7.out.size))
        have H4b := H4.out.below hb8
        have hX := Blk.new w8 46 (eCells (.mk 11 [] [] [] false [] []) (.slice none 0 0)).toArray
        have H9 := Lib.hid (gr_one_new (F := fun _ => True) (sz := 7) hX trivial (cells_elem (e := .mk 11 [] [] [] false [] []) gr_nil) rfl)
        have HB9 := Lib.hid (HB8.out.alloc HB8.out.size (.cells (eCells (.mk 11 [] [] [] false [] []) (.slice none 0 0)).toArray 46))
        have H49 := Lib.hid (H4b.below ((Below.refl _ _).alloc (Nat.le_refl _) (.cells (eCells (.mk 11 [] [] [] false [] []) (.slice none 0 0)).toArray 46)))
        clear hb8 HB7 H2 HK e0 e6 H4b H4 hX HB8
        go_wp2_with fail
        refine (like_calls (sizeF [.mk 11 [] [] [] false [] []]) [.mk 11 [] [] [] false [] []] _ _ (fun _ => True) _ (Nat.le_refl _) H49.out H9.out).mono ?_
        rintro e w10 ⟨rfl, hb10⟩
        have HB10 := Lib.hid (HB9.out.trans (hb10.mono HB9.out.size))
        clear hb10
        go_wp2_with fail
        go_ret
        exact ⟨rfl, HB10.out⟩
      · have hvb : (er != 0) = true := by rw [bne_iff_ne]; exact hv0
        have hve : (er == er) = true := by simp
        rcases hc with h | h | h
        · exact absurd h hv0
        · have hv4 : (er == 4) = true := by rw [h]; rfl
          have hv5 : (er == 5) = false := by rw [h]; rfl
          clear h hv0 h8 HW2
          go_wp2_with fail
          refine (alive15_calls _).mono ?_
          rintro e w6 ⟨rfl, hb6⟩
          have HB6 := Lib.hid (HB5.out.trans (hb6.mono HB5.out.size))
          clear hb6
          go_wp2_with fail
          go_ret
          exact ⟨rfl, HB6.out⟩
        · have hv5 : (er == 5) = true := by rw [h]; rfl
          clear h hv0 h8 HW2
          go_wp2_with fail
          refine (alive15_calls _).mono ?_
          rintro e w6 ⟨rfl, hb6⟩
          have HB6 := Lib.hid (HB5.out.trans (hb6.mono HB5.out.size))
          clear hb6
          go_wp2_with fail
          go_ret
          exact ⟨rfl, HB6.out⟩
    | true =>
      clear HW2 H2 H3 H4
      by_cases hv0 : ev = 0 ∧ er = 0
      · have hvb : (ev != 0) = false := by rw [hv0.1]; rfl
        have hrb : (er != 0) = false := by rw [hv0.2]; rfl
        clear hv0
        go_wp2_with fail
        refine (HRO.out _).mono ?_
        rintro e w6 ⟨rfl, hb6⟩
        have HB6 := Lib.hid (HB5.out.trans (hb6.mono HB5.out.size))
        clear hb6
        go_wp2_with fail
        refine (alive15_calls _).mono ?_
        rintro e w7 ⟨rfl, hb7⟩
        have HB7 := Lib.hid (HB6.out.trans (hb7.mono HB6.out.size))
        clear hb7
        go_wp2_with fail
        go_ret
        exact ⟨rfl, HB7.out⟩
      · have hcase : (ev != 0) = true ∨ (ev != 0) = false ∧ (er != 0) = true := by
          by_cases h : ev = 0
          · exact .inr ⟨by rw [h]; rfl, by rw [bne_iff_ne]; exact fun h2 => hv0 ⟨h, h2⟩⟩
          · exact .inl (by rw [bne_iff_ne]; exact h)
        clear hv0
        rcases hcase with hvb | ⟨hvb, hrb⟩
        all_goals
          cases hc1 : (ev == er)
          all_goals
            cases hc2 : (ev == 5)
            all_goals
              cases hc3 : (ev == 4)
              all_goals
                go_wp2_with fail
                refine (alive15_calls _).mono ?_
                rintro e w6 ⟨rfl, hb6⟩
                have HB6 := Lib.hid (HB5.out.trans (hb6.mono HB5.out.size))
                clear hb6
                go_wp2_with fail
                first
                  | (go_ret; exact ⟨rfl, HB6.out⟩)
                  | (refine (HRO.out _).mono ?_
                     rintro e w7 ⟨rfl, hb7⟩
                     have HB7 := Lib.hid (HB6.out.trans (hb7.mono HB6.out.size))
                     clear hb7
                     go_wp2_with fail
                     go_ret
                     exact ⟨rfl, HB7.out⟩)
  · have hab : (ea != 0) = true := by rw [bne_iff_ne]; exact hea
    clear hea
    go_wp2_with fail
    refine (alive15_calls _).mono ?_
    rintro e w6 ⟨rfl, hb6⟩
    have HB6 := Lib.hid (HB5.out.trans (hb6.mono HB5.out.size))
    clear hb6
    go_wp2_with fail
    go_ret
    exact ⟨rfl, HB6.out⟩
end Go.Proofs.YtijpfcjlochahaaDoor
