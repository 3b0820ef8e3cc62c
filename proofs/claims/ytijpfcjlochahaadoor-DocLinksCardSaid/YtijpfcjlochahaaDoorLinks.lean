/- The walk of DocLinks. -/
import Derived.Test.YtijpfcjlochahaaDoorLnkS
import Derived.Test.YtijpfcjlochahaaDoorDocO
namespace Go.Proofs.YtijpfcjlochahaaDoor
open Go Go.RowKit

set_option maxRecDepth 20000 in
set_option maxHeartbeats 4000000 in
theorem docLinks_calls (l : List Elem) (m : Int) (w : World) {v : Value} (hv : GR w (fun _ => True) (.row 7 (l.map Elem.gv)) [v]) (_hm : w.cell? ⟨0, 0, none⟩ = some (.int .i64 m)) :
    Calls Tryd.prog 8 #[v] w fun e w' => e = .returned (.bool true) ∧ Below w.heap.size w w' := by
  obtain ⟨A, c, rfl, -, -, -⟩ := elems_open hv
  have HV := Lib.hid hv
  clear hv _hm
  go_enter Tryd.func8, Tryd.ntmps8
  go_wp2_with fail
  refine (rcount_calls l _ _ _ HV.out).mono ?_
  rintro e w1 ⟨rfl, hb1⟩
  have HB1 := Lib.hid hb1
  clear hb1
  go_wp2_with fail
  refine (count_calls l _ _ _ (HV.out.below HB1.out)).mono ?_
  rintro e w2 ⟨rfl, hb2⟩
  have HB2 := Lib.hid (HB1.out.trans (hb2.mono HB1.out.size))
  clear hb2 HB1
  go_wp2_with fail
  refine (alive15_calls _).mono ?_
  rintro e w3 ⟨rfl, hb3⟩
  have HB3 := Lib.hid (HB2.out.trans (hb3.mono HB2.out.size))
  clear hb3 HB2
  by_cases h3 : 300 < countF 1000 l
  · by_cases h10 : 1000 < countF 1000 l
    · have HLD : Hid (linksD l = []) := if_pos h10
      have hd1 : (300 : Int) < (countF 1000 l : Int) := by omega
      have hd2 : ¬ (countF 1000 l : Int) ≤ 1000 := by omega
      have hd3 : decide ((300 : Int) < (countF 1000 l : Int)) = true := by simpa using hd1
      have hd4 : decide ((countF 1000 l : Int) ≤ 1000) = false := by simpa using hd2
      clear h3 h10
      generalize countF 1000 l = R at *
      go_wp2_with fail
      refine (dlinks_calls l _ _ _ (HV.out.below HB3.out)).mono ?_
      rintro e w4 ⟨v4, rfl, ho4, hb4⟩
      rw [HLD.out] at ho4
      obtain ⟨A4, c4, hv4⟩ := OwnR.form ho4
      subst hv4
      have HB4 := Lib.hid (HB3.out.trans (hb4.mono HB3.out.size))
      clear ho4 hb4
      rw [List.length_map, List.length_nil]
      go_wp2_with fail
      go_ret
      exact ⟨rfl, HB4.out⟩
    · have hd1 : (300 : Int) < (countF 1000 l : Int) := by omega
      have hd2 : (countF 1000 l : Int) ≤ 1000 := by omega
      have hd3 : decide ((300 : Int) < (countF 1000 l : Int)) = true := by simpa using hd1
      have hd4 : decide ((countF 1000 l : Int) ≤ 1000) = true := by simpa using hd2
      clear h3 h10
      generalize countF 1000 l = R at *
      go_wp2_with fail
      go_ret
      exact ⟨rfl, HB3.out⟩
  · have HLD : Hid (linksD l = linksF l) := if_neg (by omega)
    have hs := (countF_size (lim := 1000) (l := l) (by omega)).1
    have HSZ : Hid (sizeF l ≤ 1000) := by rw [Hid, hs]; omega
    have hd1 : ¬ (300 : Int) < (countF 1000 l : Int) := by omega
    have hd3 : decide ((300 : Int) < (countF 1000 l : Int)) = false := by simpa using hd1
    clear h3 hs
    generalize countF 1000 l = R at *
    go_wp2_with fail
    refine (dlinks_calls l _ _ _ (HV.out.below HB3.out)).mono ?_
    rintro e w4 ⟨v4, rfl, ho4, hb4⟩
    rw [HLD.out] at ho4
    have HO4 := Lib.hid ho4
    have HB4 := Lib.hid (HB3.out.trans (hb4.mono HB3.out.size))
    clear ho4 hb4
    go_wp2_with fail
    refine (rlinks_calls (sizeF l) l _ _ _ (Nat.le_refl _) HSZ.out (HV.out.below HB4.out)).mono ?_
    rintro e w5 ⟨v5, rfl, ho5, hb5⟩
    have H4 := Lib.hid (OwnR.gr (F := fun _ => True) (OwnR.below HO4.out hb5) (fun _ h => h.elim) (fun _ _ => trivial))
    have H5 := Lib.hid (OwnR.gr (F := fun _ => True) ho5 (fun _ h => h.elim) (fun _ _ => trivial))
    have HB5 := Lib.hid (HB4.out.trans (hb5.mono HB4.out.size))
    clear ho5 hb5 HO4
    go_wp2_with fail
    refine (sameS_calls (linksF l) _ _ _ _ H4.out H5.out).mono ?_
    rintro e w6 ⟨rfl, hb6⟩
    have HB6 := Lib.hid (HB5.out.trans (hb6.mono HB5.out.size))
    clear hb6
    go_wp2_with fail
    go_ret
    exact ⟨rfl, HB6.out⟩
end Go.Proofs.YtijpfcjlochahaaDoor
