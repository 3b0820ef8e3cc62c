/- The walks of uri.Parse at texts of plain bytes, and of eval's address. -/
import Derived.Test.YtijpfcjlochahaaGreatDoorUriS
import Derived.Test.YtijpfcjlochahaaGreatDoorUriT
namespace Go.Proofs.YtijpfcjlochahaaGreatDoor
open Go Go.RowKit
set_option linter.unusedVariables false
set_option linter.unusedSimpArgs false

/-- Parse answers at a text as the plain function. -/
def ParseOk (s : List UInt8) : Prop := ∀ W, Glob W → Calls Tryz.prog 51 #[.string (bs s)] W fun e W' => e = .returned (.tuple #[(parseF s).1.val, .int .i64 (parseF s).2]) ∧ Below W.heap.size W W'
theorem indexAny_lt (chars : List UInt8) : ∀ l : List UInt8, Lib.indexAny l chars < l.length
  | [] => by simp [Lib.indexAny]
  | b :: l => by
    have ih := indexAny_lt chars l
    rw [Lib.indexAny, List.length_cons]
    split
    · omega
    · split <;> omega
theorem parseOk_ascii (s : List UInt8) (hl : s.length ≤ 100000) (ha : ∀ c ∈ s.drop 7, c.toNat < 128) : ParseOk s := by
  intro W hg
  have hge := Lib.indexAny_ge [47, 63] (s.drop 7)
  have hlt := indexAny_lt [47, 63] (s.drop 7)
  rw [List.length_drop] at hlt
  have h := parseZ_calls (bs s) (Lib.indexAny (s.drop 7) [47, 63]) W hg hge (by rw [size_bs]; omega) (fun W' => by
    have hx : (bs s).extract 7 (bs s).size = bs (s.drop 7) := drop_bs s 7
    rw [hx]
    have := Tryz.strings_IndexAny_laid (bs (s.drop 7)) ⟨#[47, 63]⟩ W' (by rw [size_bs, List.length_drop]; omega) (by show 2 < 4294967281; omega)
      (fun j b hj => ha b (by rw [bs_toL] at hj; exact List.mem_of_getElem? hj)) (fun j b hj => by
        have hm : b ∈ [47, 63] := List.mem_of_getElem? hj
        simp at hm
        rcases hm with rfl | rfl <;> decide)
    rw [bs_toL, show (⟨#[47, 63]⟩ : ByteArray).data.toList = [47, 63] from rfl] at this
    exact this)
  rw [L_bs] at h
  exact h
theorem finF5_small {s : List UInt8} {z : UriD × Bool} (hs : s.length ≤ 100000) (h : z.1.small) : (finF5 s z).1.small := by
  unfold finF5
  split
  · exact pathF_small hs h
  · exact uri0_small
theorem slashF_len (s : List UInt8) : (slashF s).length ≤ s.length + 1 := by
  unfold slashF
  split
  · simp
  · omega
theorem parseZ_small (s : List UInt8) (z : Int) : (parseZ s z).1.small := by
  unfold parseZ
  split
  · exact uri0_small
  · rename_i h
    split
    · refine finF5_small ?_ (placeF_small _ ?_)
      · refine Nat.le_trans (slashF_len _) ?_
        have : ∀ k, ((s.drop 7).drop k).length ≤ s.length := fun k => by rw [List.length_drop, List.length_drop]; exact Nat.le_trans (Nat.sub_le _ _) (Nat.sub_le _ _)
        exact Nat.le_trans (Nat.add_le_add_right (this _) 1) (by omega)
      · rw [List.length_take, List.length_drop]; omega
    · exact finF5_small (by omega) uri0_small
theorem parseF_small (s : List UInt8) : (parseF s).1.small := parseZ_small s _
theorem resolveF_small {b u : UriD} (hb : b.small) (hu : u.small) : (resolveF b u).1.small := by
  unfold resolveF
  split
  · rename_i h
    split
    · exact solve_small hb hu (Nat.le_trans (write_path b) (uriOk_parts h.1).2.2) (Nat.le_trans (write_path u) (uriOk_parts h.2.1).2.2)
    · exact uri0_small
  · exact uri0_small
set_option maxRecDepth 20000 in
set_option maxHeartbeats 4000000 in
theorem address_calls (base s : List UInt8) (h1 : ParseOk base) (h2 : ParseOk s) (w : World) (hg : Glob w) :
    Calls Tryz.prog 193 #[.string (bs base), .string (bs s)] w fun e w' => e = .returned (.tuple #[.string (bs (addressF base s).1), .int .i64 (addressF base s).2]) ∧ Below w.heap.size w w' := by
  have HA : Hid (addressF base s = if (parseF s).2 ≠ 0 then ([], (parseF s).2)
    else if (resolveF (parseF base).1 (parseF s).1).2 ≠ 0 then ([], (resolveF (parseF base).1 (parseF s).1).2)
    else printF (resolveF (parseF base).1 (parseF s).1).1) := rfl
  generalize addressF base s = AF at *
  have H1 := Lib.hid h1
  have H2 := Lib.hid h2
  have HG := Lib.hid hg
  have HSB := Lib.hid (parseF_small base)
  have HSU := Lib.hid (parseF_small s)
  unfold ParseOk at H1 H2
  generalize parseF base = PB at *
  generalize parseF s = PU at *
  obtain ⟨b, eb⟩ := PB
  obtain ⟨u, eu⟩ := PU
  clear h1 h2 hg
  simp only at HA HSB HSU
  have HRV := Lib.hid (resolveF_small HSB.out HSU.out)
  have HRC := Lib.hid (fun W hg => resolve_calls b u HSB.out HSU.out W hg)
  generalize resolveF b u = RV at *
  obtain ⟨v, ev⟩ := RV
  simp only at HA HRV
  have HPR := Lib.hid (fun W hg => print_calls5 v HRV.out W hg)
  go_enter Tryz.func193, Tryz.ntmps193
  go_wp2_with fail
  refine (H1.out w HG.out).mono ?_
  rintro e w1 ⟨rfl, hb1⟩
  have HB1 := Lib.hid hb1
  have hx1 := Blk.new w1 94 (uCells b)
  have hb2 : Below w1.heap.size w1 (w1.alloc (.cells (uCells b) 94)) := (Below.refl _ _).alloc (Nat.le_refl _) _
  simp only [UriD.val]
  go_upto_region 2 with (fail)
  change Code.wp _ _ _ _ (w1.alloc (.cells (uCells b) 94))
  generalize w1.alloc (.cells (uCells b) 94) = w2 at *
  have HX2 := Lib.hid hx1
  have HB2 := Lib.hid (HB1.out.trans (hb2.mono HB1.out.size))
  clear hx1 hb1 hb2 HB1
  generalize w1.heap.size = X at *
  go_wp2_with fail
  refine (H2.out w2 (HG.out.below HB2.out)).mono ?_
  rintro e w3 ⟨rfl, hb3⟩
  have HX3 := Lib.hid (HX2.out.below hb3 HX2.out.lt)
  have HB3 := Lib.hid (HB2.out.trans (hb3.mono HB2.out.size))
  have hy1 := Blk.new w3 94 (uCells u)
  have hb4 : Below w3.heap.size w3 (w3.alloc (.cells (uCells u) 94)) := (Below.refl _ _).alloc (Nat.le_refl _) _
  simp only [UriD.val]
  go_upto_region 3 with (fail)
  change Code.wp _ _ _ _ (w3.alloc (.cells (uCells u) 94))
  have hx4 := HX3.out.below hb4 HX3.out.lt
  have hlt := HX3.out.lt
  generalize w3.alloc (.cells (uCells u) 94) = w4 at *
  have HX4 := Lib.hid hx4
  have HY4 := Lib.hid hy1
  have HB4 := Lib.hid (HB3.out.trans (hb4.mono HB3.out.size))
  have hyw : w.heap.size ≤ w3.heap.size := HB3.out.size
  clear hx4 hy1 hb3 hb4 HX2 HB2 HX3 HB3
  generalize w3.heap.size = Y at *
  have HYW := Lib.hid hyw
  clear hyw hlt
  by_cases he : eu = 0
  · have be : (eu != 0) = false := by rw [he]; rfl
    have HA2 : Hid (AF = if ev ≠ 0 then ([], ev) else printF v) := by rw [Hid, HA.out, if_neg (by simpa using he)]
    clear he HA
    have x0 := HX4.out.cell 0
    have x1 := HX4.out.cell 1
    have x2 := HX4.out.cell 2
    have x3 := HX4.out.cell 3
    have x4 := HX4.out.cell 4
    have x5 := HX4.out.cell 5
    have y0 := HY4.out.cell 0
    have y1 := HY4.out.cell 1
    have y2 := HY4.out.cell 2
    have y3 := HY4.out.cell 3
    have y4 := HY4.out.cell 4
    have y5 := HY4.out.cell 5
    simp [uCells] at x0 x1 x2 x3 x4 x5 y0 y1 y2 y3 y4 y5
    go_wp2_with fail
    refine (HRC.out w4 (HG.out.below HB4.out)).mono ?_
    rintro e w5 ⟨rfl, hb5⟩
    have HY5 := Lib.hid (HY4.out.below hb5 HY4.out.lt)
    have HB5 := Lib.hid (HB4.out.trans (hb5.mono HB4.out.size))
    clear x0 x1 x2 x3 x4 x5 y0 y1 y2 y3 y4 y5 hb5 HY4 HB4 HX4
    have y0 := HY5.out.cell 0
    have y1 := HY5.out.cell 1
    have y2 := HY5.out.cell 2
    have y3 := HY5.out.cell 3
    have y4 := HY5.out.cell 4
    have y5 := HY5.out.cell 5
    simp [uCells] at y0 y1 y2 y3 y4 y5
    have f0 := HY5.out.frozen 0
    have f1 := HY5.out.frozen 1
    have f2 := HY5.out.frozen 2
    have f3 := HY5.out.frozen 3
    have f4 := HY5.out.frozen 4
    have f5 := HY5.out.frozen 5
    simp only [UriD.val]
    go_upto_region 6 with (fail)
    have HY6 := Lib.hid (fill6_blk HY5.out v)
    have HB6 := Lib.hid (fill6_below HB5.out HYW.out v)
    change Code.wp _ _ _ _ (fill6 w5 Y v)
    generalize fill6 w5 Y v = w6 at *
    clear y0 y1 y2 y3 y4 y5 f0 f1 f2 f3 f4 f5 HY5 HB5
    by_cases hev : ev = 0
    · have bv : (ev != 0) = false := by rw [hev]; rfl
      have HA3 : Hid (AF = printF v) := by rw [Hid, HA2.out, if_neg (by simpa using hev)]
      clear hev
      have y0 := HY6.out.cell 0
      have y1 := HY6.out.cell 1
      have y2 := HY6.out.cell 2
      have y3 := HY6.out.cell 3
      have y4 := HY6.out.cell 4
      have y5 := HY6.out.cell 5
      simp [uCells] at y0 y1 y2 y3 y4 y5
      go_wp2_with fail
      refine (HPR.out w6 (HG.out.below HB6.out)).mono ?_
      rintro e w7 ⟨rfl, hb7⟩
      have HB7 := Lib.hid (HB6.out.trans (hb7.mono HB6.out.size))
      clear hb7
      go_wp2_with fail
      go_ret2
      exact ⟨by rw [HA3.out]; rfl, HB7.out⟩
    · have bv : (ev != 0) = true := by rw [bne_iff_ne]; exact hev
      have HA3 : Hid (AF = ([], ev)) := by rw [Hid, HA2.out, if_pos hev]
      clear hev
      go_wp2_with fail
      go_ret2
      exact ⟨by rw [HA3.out]; rfl, HB6.out⟩
  · have be : (eu != 0) = true := by rw [bne_iff_ne]; exact he
    have HA2 : Hid (AF = ([], eu)) := by rw [Hid, HA.out, if_pos he]
    clear he
    go_wp2_with fail
    go_ret2
    exact ⟨by rw [HA2.out]; rfl, HB4.out⟩
end Go.Proofs.YtijpfcjlochahaaGreatDoor
