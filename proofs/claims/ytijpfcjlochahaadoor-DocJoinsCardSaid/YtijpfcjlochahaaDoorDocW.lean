/- The walk of DocJoins. -/
import Derived.Test.YtijpfcjlochahaaDoorRefL
import Derived.Test.YtijpfcjlochahaaDoorDocO
import Derived.Test.YtijpfcjlochahaaDoorPDoc
import Derived.Test.YtijpfcjlochahaaDoorLike
import Derived.Test.YtijpfcjlochahaaDoorDocN
namespace Go.Proofs.YtijpfcjlochahaaDoor
open Go Go.RowKit

theorem comment_bs : (⟨#[60, 101, 115, 105, 58, 99, 111, 109, 109, 101, 110, 116, 32, 116, 101, 120, 116, 61, 34, 34, 47, 62]⟩ : ByteArray) = bs commentS := rfl
theorem elemTy7 : ElemTy Tryd.prog 39 46 7 104 := by
  obtain ⟨i0, hi, hz0, hz1, hz2⟩ := info_parts (show (Tryd.prog.info? 46).map (fun i => (i.zero, i.size, i.bytes)) = some (some (.agg #[.int .i64 0, .string (bs []), .string (bs []), .string (bs []), .bool false, .string (bs []), .slice none 0 0]), 7, 104) by kernel_rfl)
  exact ⟨i0, _, Tryd.underlying39, hi, hz0, hz1, hz2, rfl, by omega⟩
set_option maxRecDepth 20000 in
set_option maxHeartbeats 4000000 in
theorem docJoins_calls (a b : ByteArray) (m : Int) (w : World) (_hm : w.cell? ⟨0, 0, none⟩ = some (.int .i64 m)) :
    Calls Tryd.prog 7 #[.string a, .string b] w fun e w' => e = .returned (.bool true) ∧ Below w.heap.size w w' := by
  obtain ⟨a0, ha0⟩ : ∃ a0, a0 = a.extract 0 (min a.size 1500) := ⟨_, rfl⟩
  obtain ⟨b0, hb0⟩ : ∃ b0, b0 = b.extract 0 (min b.size 1500) := ⟨_, rfl⟩
  have ha1 : a0.size ≤ 1500 := by rw [ha0, ByteArray.size_extract]; omega
  have hb1 : b0.size ≤ 1500 := by rw [hb0, ByteArray.size_extract]; omega
  have HA0 := Lib.hid ha0
  have HB0 := Lib.hid hb0
  clear ha0 hb0 _hm
  go_enter Tryd.func7, Tryd.ntmps7
  go_upto_region 2 with (fail)
  go_cut [0, 1] from 11 to 20 (fun sv tv wx => sv = .string a0 ∧ tv = .string b0 ∧ Hid (Below w.heap.size w wx))
  case first =>
    obtain ⟨n, hn⟩ : ∃ n, n = min a.size 1500 := ⟨_, rfl⟩
    obtain ⟨k, hk⟩ : ∃ k, k = min b.size 1500 := ⟨_, rfl⟩
    have hmi : min (a.size : Int) 1500 = (n : Int) := by omega
    have hmk : min (b.size : Int) 1500 = (k : Int) := by omega
    have hn0 : (0 : Int) ≤ (n : Int) := by omega
    have hn1 : (n : Int) ≤ (a.size : Int) := by omega
    have hk0 : (0 : Int) ≤ (k : Int) := by omega
    have hk1 : (k : Int) ≤ (b.size : Int) := by omega
    have hx : a.extract 0 n = a0 := by rw [hn]; exact HA0.out.symm
    have hy : b.extract 0 k = b0 := by rw [hk]; exact HB0.out.symm
    clear hn hk
    go_quiet (fail)
    go_wp2_with fail
    go_meet
    case rel => exact ⟨rfl, rfl, below_drewN (Below.refl _ _) _⟩
  case rest =>
    obtain ⟨rfl, rfl, HB⟩ := hcut
    have hsc : (⟨#[60, 101, 115, 105, 58, 99, 111, 109, 109, 101, 110, 116, 32, 116, 101, 120, 116, 61, 34, 34, 47, 62]⟩ : ByteArray).size = 22 := rfl
    have hs1 : a0.size + (⟨#[60, 101, 115, 105, 58, 99, 111, 109, 109, 101, 110, 116, 32, 116, 101, 120, 116, 61, 34, 34, 47, 62]⟩ : ByteArray).size ≤ 2000 := by rw [hsc]; omega
    have hs2 : (a0 ++ ⟨#[60, 101, 115, 105, 58, 99, 111, 109, 109, 101, 110, 116, 32, 116, 101, 120, 116, 61, 34, 34, 47, 62]⟩).size + b0.size ≤ 5000 := by rw [ByteArray.size_append, hsc]; omega
    have HL1 : Hid (L (a0 ++ ⟨#[60, 101, 115, 105, 58, 99, 111, 109, 109, 101, 110, 116, 32, 116, 101, 120, 116, 61, 34, 34, 47, 62]⟩) = L a0 ++ commentS) := by rw [Hid, L_append, comment_bs, L_bs]
    have HL2 : Hid (L (a0 ++ ⟨#[60, 101, 115, 105, 58, 99, 111, 109, 109, 101, 110, 116, 32, 116, 101, 120, 116, 61, 34, 34, 47, 62]⟩ ++ b0) = L a0 ++ commentS ++ L b0) := by rw [Hid, L_append, L_append, comment_bs, L_bs]
    have HJ : Hid ((readF (L a0 ++ commentS)).2 = 0 → (readF (L b0)).2 = 0 → oddF (L a0 ++ commentS) = false → (readF (L a0 ++ commentS ++ L b0)).2 = 4 ∨ readF (L a0 ++ commentS ++ L b0) = ((readF (L a0 ++ commentS)).1 ++ (readF (L b0)).1, 0)) := fun h1 h2 h3 =>
      readF_joins h1 h2 (by rw [odd_false h3])
    have HN1 := Lib.hid (readF_nests (L a0 ++ commentS)).2
    have HN2 := Lib.hid (readF_nests (L b0)).2
    have HZ1 := Lib.hid (readF_len (L a0 ++ commentS))
    have HZ2 := Lib.hid (readF_len (L b0))
    have HRC := Lib.hid (fun W => read_calls (a0 ++ ⟨#[60, 101, 115, 105, 58, 99, 111, 109, 109, 101, 110, 116, 32, 116, 101, 120, 116, 61, 34, 34, 47, 62]⟩) W (by rw [ByteArray.size_append, hsc]; omega))
    have HRB := Lib.hid (fun W => read_calls b0 W (by omega))
    have HRZ := Lib.hid (fun W => read_calls (a0 ++ ⟨#[60, 101, 115, 105, 58, 99, 111, 109, 109, 101, 110, 116, 32, 116, 101, 120, 116, 61, 34, 34, 47, 62]⟩ ++ b0) W (by rw [ByteArray.size_append]; omega))
    have HOC := Lib.hid (fun W => rodd_calls (a0 ++ ⟨#[60, 101, 115, 105, 58, 99, 111, 109, 109, 101, 110, 116, 32, 116, 101, 120, 116, 61, 34, 34, 47, 62]⟩) W (by rw [ByteArray.size_append, hsc]; omega))
    rw [HL1.out] at HRC HOC
    rw [HL2.out] at HRZ
    generalize readF (L a0 ++ commentS ++ L b0) = RZ at *
    generalize readF (L a0 ++ commentS) = RA at *
    generalize readF (L b0) = RB at *
    generalize oddF (L a0 ++ commentS) = OD at *
    obtain ⟨x, ea⟩ := RA
    obtain ⟨y, eb⟩ := RB
    obtain ⟨z, ez⟩ := RZ
    clear HL1 HL2 HA0 HB0
    go_wp2_with fail
    refine (HRC.out _).mono ?_
    rintro e w2 ⟨v2, rfl, h2, hb2⟩
    have HB2 := Lib.hid (HB.out.trans (hb2.mono HB.out.size))
    obtain ⟨A2, c2, rfl, -, -, -⟩ := elems_open h2
    have H2 := Lib.hid (h2.weaken (F' := fun g => w.heap.size ≤ g) (fun g hg => Nat.le_trans HB.out.size hg))
    clear h2 hb2
    go_wp2_with fail
    refine (HRB.out _).mono ?_
    rintro e w3 ⟨v3, rfl, h3, hb3⟩
    have HB3 := Lib.hid (HB2.out.trans (hb3.mono HB2.out.size))
    obtain ⟨A3, c3, rfl, -, -, -⟩ := elems_open h3
    have H3 := Lib.hid (h3.weaken (F' := fun g => w.heap.size ≤ g) (fun g hg => Nat.le_trans HB2.out.size hg))
    have H2 := Lib.hid (H2.out.below hb3)
    clear h3 hb3
    go_wp2_with fail
    refine (HRZ.out _).mono ?_
    rintro e w4 ⟨v4, rfl, h4, hb4⟩
    have HB4 := Lib.hid (HB3.out.trans (hb4.mono HB3.out.size))
    obtain ⟨A4, c4, rfl, -, -, -⟩ := elems_open h4
    have H4 := Lib.hid (h4.weaken (F' := fun _ => True) (fun _ _ => trivial))
    have H2 := Lib.hid (H2.out.below hb4)
    have H3 := Lib.hid (H3.out.below hb4)
    clear h4 hb4 HRC HRB HRZ HB HB2 HB3
    by_cases hea : ea = 0
    · have hab : (ea != 0) = false := by rw [hea]; rfl
      have hab2 : (ea == 0) = true := by rw [hea]; rfl
      by_cases heb : eb = 0
      · have hbb : (eb != 0) = false := by rw [heb]; rfl
        have hbb2 : (eb == 0) = true := by rw [heb]; rfl
        have HJ2 := Lib.hid (HJ.out hea heb)
        clear HJ HN1 HN2 hea heb
        go_wp2_with fail
        refine (HOC.out _).mono ?_
        rintro e w5 ⟨rfl, hb5⟩
        have HB5 := Lib.hid (HB4.out.trans (hb5.mono HB4.out.size))
        have H2 := Lib.hid (H2.out.below hb5)
        have H3 := Lib.hid (H3.out.below hb5)
        have H4 := Lib.hid (H4.out.below hb5)
        clear hb5 HB4 HOC
        cases OD with
        | true =>
          go_wp2_with fail
          refine (alive15_calls _).mono ?_
          rintro e w6 ⟨rfl, hb6⟩
          have HB6 := Lib.hid (HB5.out.trans (hb6.mono HB5.out.size))
          clear hb6
          go_wp2_with fail
          go_ret
          exact ⟨rfl, HB6.out⟩
        | false =>
          rcases HJ2.out rfl with h4 | h4
          · have hz1 : (ez != 0) = true := by rw [h4]; rfl
            have hz2 : (ez == 4) = true := by rw [h4]; rfl
            clear h4 HJ2
            go_wp2_with fail
            refine (alive15_calls _).mono ?_
            rintro e w6 ⟨rfl, hb6⟩
            have HB6 := Lib.hid (HB5.out.trans (hb6.mono HB5.out.size))
            clear hb6
            go_wp2_with fail
            go_ret
            exact ⟨rfl, HB6.out⟩
          · injection h4 with h5 h6
            subst h5 h6
            clear HJ2
            go_wp2_with fail
            refine (alive15_calls _).mono ?_
            rintro e w6 ⟨rfl, hb6⟩
            have HB6 := Lib.hid (HB5.out.trans (hb6.mono HB5.out.size))
            have H2 := Lib.hid (H2.out.below hb6)
            have H3 := Lib.hid (H3.out.below hb6)
            have H4 := Lib.hid (H4.out.below hb6)
            clear hb6 HB5
            have hxl : x.length ≤ 2000 := by have := HZ1.out; rw [List.length_append, ← size_L, show commentS.length = 22 from rfl] at this; omega
            have hyl : y.length ≤ 2000 := by have := HZ2.out; rw [← size_L] at this; omega
            have hb7 : Below w6.heap.size w6 (w6.alloc (.cells #[] 46)) := (Below.refl _ _).alloc (Nat.le_refl _) _
            have HB7 := Lib.hid (HB6.out.trans (hb7.mono HB6.out.size))
            have hown0 : OwnR (w6.alloc (.cells #[] 46)) w6.heap.size 46 7 (fun g => g < w6.heap.size) (.slice (some ⟨w6.heap.size, 0, none⟩) 0 0) [] :=
              ⟨[], World.ownsRow_lit w6 #[] 0 (Nat.le_refl _) (by simp [maxLen]) (by simp), GRl_nil.2 rfl⟩
            obtain ⟨news, hA⟩ := App.of_row (bytes := 104) hown0 (GR.lt_heap _ _ H2.out) hb7 (fun k hk _ => ⟨hk.2, fun e => by have := (hown0.lt k e.symm).1; have := hk.2; omega⟩) (by rw [List.length_nil, List.length_map]; omega) (by omega) (by rw [size_alloc]; omega)
            rw [List.length_nil, Nat.zero_add, List.length_map] at hA
            have HA := Lib.hid hA
            have HXL := Lib.hid hxl
            have HYL := Lib.hid hyl
            have HGB : Hid (∀ (w8 : World) (v : Value), (w6.alloc (.cells #[] 46)).grownBy w8 v.ownBlock → (∀ k, v.ownBlock = some k → w6.heap.size ≤ k) → Below w6.heap.size w6 w8) := fun w8 v hg hv => hb7.trans (below_of_grown hg hb7.size hv)
            have HOL0 : Hid (∀ k, (Value.slice (some ⟨w6.heap.size, 0, none⟩) 0 0).ownBlock = some k → w6.heap.size ≤ k) := fun k hk => (hown0.lt k hk).1
            have HAPP : Hid (∀ (w8 : World) (A' : Option Addr) (c' : Nat), OwnR w8 w6.heap.size 46 7 (fun g => g < w6.heap.size) (.slice A' x.length c') (x.map Elem.gv) → Below w6.heap.size w6 w8 →
                ∃ news2, App w8 w6.heap.size 46 7 104 (fun g => g < w6.heap.size) (.slice A' x.length c') (x.map Elem.gv) A3 y.length (y.map Elem.gv) news2 (x.length + y.length)) := fun w8 A' c' ho hb => by
              obtain ⟨n2, h⟩ := App.of_row (bytes := 104) ho (GR.lt_heap _ _ H3.out) hb (fun k hk _ => ⟨hk.2, fun e => by have := (ho.lt k e.symm).1; have := hk.2; omega⟩) (by rw [List.length_map, List.length_map]; have := HXL.out; have := HYL.out; omega) (by omega) hb.size
              rw [List.length_map, List.length_map] at h
              exact ⟨n2, h⟩
            clear hA hown0 hb7 hxl hyl hsc hs1 hs2
            go_wp2_with (at_builtin; first | (go_loud (refine HA.out.guarded (by rfl) _ _ _ (by rfl) elemTy7 (by rfl) (by rfl) ?_); intro A8 c8 w8 hown hgr hor; rw [List.nil_append] at hown; have HB8 := Lib.hid (HGB.out w8 _ hgr HOL0.out); obtain ⟨news2, hA2⟩ := HAPP.out w8 A8 c8 hown HB8.out; have HA2 := Lib.hid hA2; have HOL8 : Hid (∀ k, (Value.slice A8 x.length c8).ownBlock = some k → w6.heap.size ≤ k) := (fun k hk => (hown.lt k hk).1); clear hown hgr hor hA2) | (go_loud (refine HA2.out.guarded (by rfl) _ _ _ (by rfl) elemTy7 (by rfl) (by rfl) ?_); intro A9 c9 w9 hown hgr hor; rw [← List.map_append] at hown; have HO9 := Lib.hid hown; have HB9 := Lib.hid (HB8.out.trans (below_of_grown hgr HB8.out.size HOL8.out)); clear hown hgr hor))
            have h4 := H4.out
            rw [List.length_append] at h4
            refine (like_calls (sizeF (x ++ y)) (x ++ y) _ _ (fun _ => True) w9 (Nat.le_refl _) (h4.below HB9.out) (HO9.out.gr (fun _ _ => trivial) (fun _ _ => trivial))).mono ?_
            clear h4
            rintro e w10 ⟨rfl, hb10⟩
            have HB10 := Lib.hid (HB6.out.trans ((HB9.out.trans (hb10.mono HB9.out.size)).mono HB6.out.size))
            clear hb10
            go_wp2_with fail
            go_ret
            exact ⟨rfl, HB10.out⟩
      · have hbb : (eb != 0) = true := by rw [bne_iff_ne]; exact heb
        have hbb2 : (eb == 0) = false := by rw [beq_eq_false_iff_ne]; exact heb
        have hy0 : y.length = 0 := by rw [HN2.out heb]; rfl
        clear HJ HN1 HN2 hea heb
        go_wp2_with fail
        refine (alive15_calls _).mono ?_
        rintro e w6 ⟨rfl, hb6⟩
        have HB6 := Lib.hid (HB4.out.trans (hb6.mono HB4.out.size))
        clear hb6
        go_wp2_with fail
        go_ret
        exact ⟨rfl, HB6.out⟩
    · have hab : (ea != 0) = true := by rw [bne_iff_ne]; exact hea
      have hab2 : (ea == 0) = false := by rw [beq_eq_false_iff_ne]; exact hea
      have hx0 : x.length = 0 := by rw [HN1.out hea]; rfl
      clear HJ HN1 hea
      by_cases heb : eb = 0
      · have hbb2 : (eb == 0) = true := by rw [heb]; rfl
        clear heb HN2
        go_wp2_with fail
        refine (alive15_calls _).mono ?_
        rintro e w6 ⟨rfl, hb6⟩
        have HB6 := Lib.hid (HB4.out.trans (hb6.mono HB4.out.size))
        clear hb6
        go_wp2_with fail
        go_ret
        exact ⟨rfl, HB6.out⟩
      · have hbb2 : (eb == 0) = false := by rw [beq_eq_false_iff_ne]; exact heb
        have hy0 : y.length = 0 := by rw [HN2.out heb]; rfl
        clear heb HN2
        go_wp2_with fail
        refine (alive15_calls _).mono ?_
        rintro e w6 ⟨rfl, hb6⟩
        have HB6 := Lib.hid (HB4.out.trans (hb6.mono HB4.out.size))
        clear hb6
        go_wp2_with fail
        go_ret
        exact ⟨rfl, HB6.out⟩
end Go.Proofs.YtijpfcjlochahaaDoor
