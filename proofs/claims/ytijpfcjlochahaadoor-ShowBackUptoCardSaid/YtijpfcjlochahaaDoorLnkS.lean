/- The walks of doc.Links, of Same at rows of texts. -/
import Derived.Test.YtijpfcjlochahaaDoorLnk
namespace Go.Proofs.YtijpfcjlochahaaDoor
open Go Go.RowKit

/-- What Links answers: a count past its limit, and none. -/
def linksD (l : List Elem) : List (List UInt8) := if 1000 < countF 1000 l then [] else linksF l
set_option maxRecDepth 20000 in
set_option maxHeartbeats 2000000 in
theorem dlinks_calls (l : List Elem) (v : Value) (F : Nat → Prop) (w : World) (hv : GR w F (.row 7 (l.map Elem.gv)) [v]) :
    Calls Tryd.prog 28 #[v] w fun e w' => ∃ v', e = .returned v' ∧ OwnS w' w.heap.size v' (linksD l) ∧ Below w.heap.size w w' := by
  obtain ⟨A, c, rfl, hlc, hcm, -⟩ := elems_open hv
  have HV := Lib.hid hv
  clear hv hlc hcm
  have HB1 : Hid (Below w.heap.size w (w.alloc (.cells #[.slice none 0 0] 50))) := (Below.refl _ _).alloc (Nat.le_refl _) _
  have HX1 := Lib.hid (Blk.new w 50 #[.slice none 0 0])
  go_enter Tryd.func28, Tryd.ntmps28
  go_wp2_with fail
  refine (count_calls l _ _ _ (HV.out.below HB1.out)).mono ?_
  rintro e w2 ⟨rfl, hb2⟩
  have HB2 := Lib.hid (HB1.out.trans (hb2.mono HB1.out.size))
  have HX2 := Lib.hid (HX1.out.below hb2 HX1.out.lt)
  clear hb2 HB1 HX1
  by_cases h : 1000 < countF 1000 l
  · have hd : decide ((1000 : Int) < (countF 1000 l : Int)) = true := by rw [decide_eq_true_iff]; omega
    have HLD : Hid (linksD l = []) := if_pos h
    have hi : (1000 : Int) < (countF 1000 l : Int) := by omega
    generalize countF 1000 l = R at *
    clear h
    go_wp2_with fail
    go_ret
    exact ⟨_, rfl, by rw [HLD.out]; exact OwnR.nil _ _ _ _ _, HB2.out⟩
  · have hd : decide ((1000 : Int) < (countF 1000 l : Int)) = false := by rw [decide_eq_false_iff_not]; omega
    have HLD : Hid (linksD l = linksF l) := if_neg h
    have hs := (countF_size (lim := 1000) (l := l) (by omega)).1
    have HSZ : Hid (sizeF l ≤ 1000) := by rw [Hid, hs]; omega
    have hi : ¬ (1000 : Int) < (countF 1000 l : Int) := by omega
    generalize countF 1000 l = R at *
    clear h hs
    have HWS : Hid (WS w w.heap.size w2 (.slice none 0 0) []) := ⟨HB2.out, OwnR.nil _ _ _ _ _, HX2.out, Nat.le_refl _, fun e => by cases e⟩
    go_wp2_with fail
    refine (walk_calls w w.heap.size F (sizeF l) l _ _ _ _ (Nat.le_refl _) HSZ.out (by have := HSZ.out; rw [List.length_nil]; omega) HV.out HWS.out).mono ?_
    rintro e w3 ⟨rfl, v3, h3⟩
    have HS3 := Lib.hid h3
    have x3 := h3.hX.cell 0
    obtain ⟨A3, c3, hv3⟩ := OwnR.form h3.ho
    subst hv3
    clear h3
    go_wp2_with fail
    go_ret
    exact ⟨_, rfl, by rw [HLD.out]; simpa using HS3.out.ho, HS3.out.hb⟩
theorem strs_open {w : World} {F : Nat → Prop} {l : List (List UInt8)} {v : Value} (h : GR w F (.row 1 (l.map .str)) [v]) :
    ∃ A c, v = .slice A l.length c ∧ l.length ≤ c ∧ c ≤ maxLen ∧ (l ≠ [] → ∃ b o, A = some ⟨b, o, none⟩ ∧ F b ∧ ∀ i (hi : i < l.length), w.cell? ⟨b, o + i, none⟩ = some (.string (bs l[i]))) := by
  obtain ⟨A, c, h1, h2, h3, h4⟩ := row_open h (by omega)
  simp only [List.length_map] at h1 h2 h4
  refine ⟨A, c, h1, h2, h3, fun hne => ?_⟩
  obtain ⟨b, o, hA, hF, hc⟩ := h4 (by simpa using hne)
  refine ⟨b, o, hA, hF, fun i hi => ?_⟩
  obtain ⟨cs, g1, _, g3⟩ := hc i hi
  rw [List.getElem_map, GR_str] at g1
  subst g1
  have := g3 0 _ rfl
  rw [Nat.mul_one, Nat.add_zero] at this
  exact this
set_option maxRecDepth 20000 in
set_option maxHeartbeats 2000000 in
theorem sameS_calls (l : List (List UInt8)) (va vb : Value) (F : Nat → Prop) (w : World) (ha : GR w F (.row 1 (l.map .str)) [va]) (hb : GR w F (.row 1 (l.map .str)) [vb]) :
    Calls Tryd.prog 29 #[va, vb] w fun e w' => e = .returned (.bool true) ∧ Below w.heap.size w w' := by
  obtain ⟨A, c, rfl, hlc, hcm, hop⟩ := strs_open (GR.lt_heap _ _ ha)
  obtain ⟨B, d, rfl, hld, hdm, hop2⟩ := strs_open (GR.lt_heap _ _ hb)
  have HOP := Lib.hid hop
  have HOP2 := Lib.hid hop2
  clear hop hop2 ha hb
  unfold maxLen at hcm hdm
  go_enter Tryd.func29, Tryd.ntmps29
  go_wp2_with fail
  go_loopw [5, 13] (fun _ i wr => ∃ k : Nat, k ≤ l.length ∧ i = .int .i64 k ∧ Hid (Below w.heap.size w wr))
    (fun _ i wr => l.length - (intOf i).toNat)
  case atStart => exact ⟨0, Nat.zero_le _, rfl, Below.refl _ _⟩
  case round =>
    obtain ⟨k, hk, rfl, HB⟩ := hrel
    by_cases hlt : k < l.length
    · obtain ⟨b, off, rfl, ⟨_, hbw⟩, hop⟩ := HOP.out (by rintro rfl; simp at hlt)
      obtain ⟨b2, off2, rfl, ⟨_, hbw2⟩, hop2⟩ := HOP2.out (by rintro rfl; simp at hlt)
      have e1 := (HB.out.cell (p := ⟨b, off + k, none⟩) hbw).trans (hop k hlt)
      have e2 := (HB.out.cell (p := ⟨b2, off2 + k, none⟩) hbw2).trans (hop2 k hlt)
      have hk1 : (0 : Int) ≤ (k : Int) := by omega
      have hk2 : (k : Int) < (l.length : Int) := by omega
      clear hop hop2 hbw hbw2
      generalize l[k] = s at *
      go_wp2_with fail
      go_quiet (fail)
      go_wp2_with fail
      exact ⟨⟨k + 1, hlt, by go_num, below_drewN HB.out _⟩, by simp [intOf]; omega⟩
    · go_wp2_with fail
      go_ret
      exact ⟨rfl, HB.out⟩
end Go.Proofs.YtijpfcjlochahaaDoor
