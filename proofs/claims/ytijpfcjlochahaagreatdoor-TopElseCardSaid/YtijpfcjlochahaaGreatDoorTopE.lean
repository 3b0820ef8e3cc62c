/- The walk of intarsiatop.TopElse. -/
import Derived.Test.YtijpfcjlochahaaGreatDoorTopN
import Derived.Test.YtijpfcjlochahaaGreatDoorTopS
import Derived.Test.YtijpfcjlochahaaGreatDoorRefO
import Derived.BigQuiet
set_option linter.unusedVariables false
set_option linter.unusedSimpArgs false
namespace Go.Proofs.YtijpfcjlochahaaGreatDoor
open Go Go.RowKit
set_option linter.unusedVariables false
set_option linter.unusedSimpArgs false

/-- Two replies of the call's own. -/
theorem own_two {w : World} {base : Nat} {e : TypeId} {G : Nat → Prop} {A : Option Addr} {c : Nat} {a b : Rep} (h : OwnR w base e 5 G (.slice A 2 c) [a.gv, b.gv]) :
    ∃ g, A = some ⟨g, 0, none⟩ ∧ 2 ≤ c ∧ c ≤ maxLen ∧ base ≤ g ∧ g < w.heap.size ∧ (w.cell? ⟨g, 0, none⟩ = some (.string (bs a.url)) ∧ w.cell? ⟨g, 1, none⟩ = some (.int .i64 a.code) ∧ w.cell? ⟨g, 2, none⟩ = some (.bool a.esi) ∧ w.cell? ⟨g, 3, none⟩ = some (.string (bs a.body)) ∧ w.cell? ⟨g, 4, none⟩ = some (.int .i64 a.bad)) ∧
      (w.cell? ⟨g, 5, none⟩ = some (.string (bs b.url)) ∧ w.cell? ⟨g, 6, none⟩ = some (.int .i64 b.code) ∧ w.cell? ⟨g, 7, none⟩ = some (.bool b.esi) ∧ w.cell? ⟨g, 8, none⟩ = some (.string (bs b.body)) ∧ w.cell? ⟨g, 9, none⟩ = some (.int .i64 b.bad)) ∧ ∀ j, w.frozen? ⟨g, j, none⟩ = false := by
  obtain ⟨g, h1, h2, h3, h4, h5, t0, t1, t2, t3, t4, hf⟩ := own_rep_at (l := [a, b]) (k := 0) (t := a) h rfl rfl
  obtain ⟨g', h1', -, -, -, -, s0, s1, s2, s3, s4, -⟩ := own_rep_at (l := [a, b]) (k := 1) (t := b) h rfl rfl
  obtain rfl : g = g' := by
    rw [h1] at h1'
    injection h1' with h1'
    injection h1'
  exact ⟨g, h1, h2, h3, h4, h5, ⟨t0, t1, t2, t3, t4⟩, ⟨s0, s1, s2, s3, s4⟩, hf⟩
/-- Their addresses are told, and none is to be put together. -/
def twoSet (W : World) (g : Nat) (u v : List UInt8) : World :=
  (((W.setCell ⟨g, 0, none⟩ (.string (bs u))).setCell ⟨g, 5, none⟩ (.string (bs v))).setCell ⟨g, 2, none⟩ (.bool false)).setCell ⟨g, 7, none⟩ (.bool false)
theorem own_twoSet {w : World} {base : Nat} {e : TypeId} {G : Nat → Prop} {g c : Nat} {a b : Rep} (h : OwnR w base e 5 G (.slice (some ⟨g, 0, none⟩) 2 c) [a.gv, b.gv]) (u v : List UInt8) :
    OwnR (twoSet w g u v) base e 5 G (.slice (some ⟨g, 0, none⟩) 2 c) [Rep.gv ⟨u, a.code, false, a.body, a.bad⟩, Rep.gv ⟨v, b.code, false, b.body, b.bad⟩] ∧ w.grownBy (twoSet w g u v) (some g) := by
  obtain ⟨xs, hr, hg⟩ := h
  obtain ⟨c1, x1, rfl, h3, h4, h5⟩ := GRl_cons.1 hg
  obtain ⟨c2, x2, rfl, h6, h7, h8⟩ := GRl_cons.1 h5
  obtain rfl := GRl_nil.1 h8
  obtain rfl := repl_cells h4
  obtain rfl := repl_cells h7
  obtain ⟨r0, g0⟩ := hr.stored 0 (.string (bs u))
  obtain ⟨r1, g1⟩ := r0.stored 5 (.string (bs v))
  obtain ⟨r2, g2⟩ := r1.stored 2 (.bool false)
  obtain ⟨r3, g3⟩ := r2.stored 7 (.bool false)
  have hgr : w.grownBy (twoSet w g u v) (some g) := grown_trans (grown_trans (grown_trans g0 g1) g2) g3
  refine ⟨⟨_, r3, ?_⟩, hgr⟩
  exact GRl_cons.2 ⟨_, _, rfl, rfl, cells_rep ⟨u, a.code, false, a.body, a.bad⟩, GRl_cons.2 ⟨_, [], rfl, rfl, cells_rep ⟨v, b.code, false, b.body, b.bad⟩, GRl_nil.2 rfl⟩⟩
def goodB (r : Rep) : Bool := decide (r.bad = 0) && decide (r.code = 200)
theorem goodB_bad {r : Rep} (hl : r.body.length ≤ 1500) : repBad r = if goodB r then 0 else if r.bad = 0 then 60 else r.bad := by
  unfold repBad goodB
  by_cases h1 : r.bad = 0
  · rw [if_neg (fun h => h h1)]
    by_cases h2 : r.code = 200
    · rw [if_neg (by rintro (h | h); exact h h2; omega)]
      simp [h1, h2]
    · rw [if_pos (Or.inl h2)]
      simp [h1, h2]
  · rw [if_pos h1]
    simp [h1]
set_option maxRecDepth 20000 in
set_option maxHeartbeats 4000000 in
theorem goodr_calls (r : Rep) (w : World) : Calls Tryz.prog 23 #[repV r] w fun e w' => e = .returned (.bool (goodB r)) ∧ Below w.heap.size w w' := by
  have hal : Below w.heap.size w (w.alloc (.cells (repCells r) 41)) := (Below.refl _ _).alloc (Nat.le_refl _) _
  have HX := Lib.hid (Blk.new w 41 (repCells r))
  have HB := Lib.hid hal
  have HGB : Hid (goodB r = (decide (r.bad = 0) && decide (r.code = 200))) := rfl
  generalize goodB r = GB at *
  clear hal
  simp only [repV] at *
  go_enter Tryz.func23, Tryz.ntmps23
  go_upto_region 1 with (fail)
  change Code.wp _ _ _ _ (w.alloc (.cells (repCells r) 41))
  generalize w.alloc (.cells (repCells r) 41) = w0 at *
  generalize hPP : w.heap.size = P at *
  have HPP := Lib.hid hPP
  clear hPP
  have HX : Hid (Blk w0 P 41 (repCells r)) := HX
  have x1 := HX.out.cell 1
  have x4 := HX.out.cell 4
  simp [repCells] at x1 x4
  by_cases h1 : r.bad = 0
  · have h1b : (r.bad == 0) = true := by simpa using h1
    by_cases h2 : r.code = 200
    · have h2b : (r.code == 200) = true := by simpa using h2
      have HG2 : Hid (GB = true) := by rw [Hid, HGB.out]; simp [h1, h2]
      go_wp2_with fail
      go_ret
      exact ⟨by rw [HG2.out]; rfl, by first | exact HB.out | (rw [HPP.out]; exact HB.out)⟩
    · have h2b : (r.code == 200) = false := by simpa using h2
      have HG2 : Hid (GB = false) := by rw [Hid, HGB.out]; simp [h1, h2]
      go_wp2_with fail
      go_ret
      exact ⟨by rw [HG2.out]; rfl, by first | exact HB.out | (rw [HPP.out]; exact HB.out)⟩
  · have h1b : (r.bad == 0) = false := by simpa using h1
    have HG2 : Hid (GB = false) := by rw [Hid, HGB.out]; simp [h1]
    go_wp2_with fail
    go_ret
    exact ⟨by rw [HG2.out]; rfl, by first | exact HB.out | (rw [HPP.out]; exact HB.out)⟩
theorem fix60 (x : Int) : ((if x = 0 then (60 : Int) else x) = 0) = False := by
  rw [eq_iff_iff, iff_false]
  split <;> omega
theorem gr_two_new {w : World} {g : Nat} {t : TypeId} (a b : Rep) (h : Blk w g t #[.string (bs a.url), .int .i64 a.code, .bool a.esi, .string (bs a.body), .int .i64 a.bad, .string (bs b.url), .int .i64 b.code, .bool b.esi, .string (bs b.body), .int .i64 b.bad]) :
    GR w (fun _ => True) (.row 5 ([a, b].map Rep.gv)) [.slice (some ⟨g, 0, none⟩) 2 2] :=
  GR_row.2 ⟨some ⟨g, 0, none⟩, 2, _, rfl, Nat.le_refl _, by simp [maxLen], rfl, cells_new h,
    GRl_cons.2 ⟨_, _, rfl, rfl, cells_rep a, GRl_cons.2 ⟨_, [], rfl, rfl, cells_rep b, GRl_nil.2 rfl⟩⟩⟩
set_option maxRecDepth 20000 in
set_option maxHeartbeats 8000000 in
theorem topElse_calls (v : EnvD) (b y : List UInt8) (q : Bool) (ra rb : Rep) (w : World) (hg : Glob w) :
    Calls Tryz.prog 5 #[pageV v b y q, repV ra, repV rb] w fun e w' => e = .returned (.bool true) ∧ Below w.heap.size w w' := by
  have HFW := Lib.hid (fun W => tfew_calls v b y q W)
  have hBl : (b.take 300).length ≤ 100000 := by rw [List.length_take]; omega
  generalize b.take 300 = B at *
  generalize y.take 2000 = YB at *
  generalize cutEnv v = V at *
  have H19 := Lib.hid (fun W => right19_calls V B YB true hBl W)
  have HRN := Lib.hid (fun (hb : ParseOk B) D (hf : D.full = false) (hr : RepsOk V D) body hok hbl rv F W hg hrv => trun_calls V D B YB body true rv F hb hf hr hok hbl W hg hrv)
  have HBL := Lib.hid hBl
  clear hBl
  have hsm : ∀ (x : Value) (W : World), GR W (fun _ => True) (.row 5 ([ra, rb].map Rep.gv)) [x] → Calls Tryz.prog 9 #[x] W fun e w' => ∃ A c, e = .returned (.slice A 2 c) ∧ Hid (OwnR w' W.heap.size 41 5 (fun g => True ∧ g < W.heap.size) (.slice A 2 c) [(cutRep ra).gv, (cutRep rb).gv]) ∧ Below W.heap.size W w' :=
    fun x W hx => some_calls [ra, rb] x (fun _ => True) W hx
  have hab : (cutRep ra).body.length ≤ 1500 := by show (ra.body.take 1500).length ≤ 1500; rw [List.length_take]; omega
  have hbb : (cutRep rb).body.length ≤ 1500 := by show (rb.body.take 1500).length ≤ 1500; rw [List.length_take]; omega
  generalize cutRep ra = a1 at *
  generalize cutRep rb = b1 at *
  have HSM := Lib.hid hsm
  have HAB := Lib.hid hab
  have HBB := Lib.hid hbb
  clear hsm hab hbb
  have hal0 : Below w.heap.size w (w.alloc (.cells (pgCells v b y q) 25)) := (Below.refl _ _).alloc (Nat.le_refl _) _
  have hal1 := hal0.alloc hal0.size (.cells (repCells ra) 41)
  have hal := hal1.alloc hal1.size (.cells (repCells rb) 41)
  have h1 := Blk.new w 25 (pgCells v b y q)
  have h2 := Blk.new (w.alloc (.cells (pgCells v b y q) 25)) 41 (repCells ra)
  have h3 := Blk.new ((w.alloc (.cells (pgCells v b y q) 25)).alloc (.cells (repCells ra) 41)) 41 (repCells rb)
  rw [size_alloc] at h2
  rw [size_alloc, size_alloc] at h3
  have HX := Lib.hid ((h1.alloc (.cells (repCells ra) 41)).alloc (.cells (repCells rb) 41))
  have HA := Lib.hid (h2.alloc (.cells (repCells rb) 41))
  have HC := Lib.hid h3
  have HB := Lib.hid hal
  have HG := Lib.hid (fun W (hb : Below w.heap.size w W) => hg.below hb)
  clear hal0 hal1 hal h1 h2 h3 hg
  simp only [pageV, repV] at *
  go_enter Tryz.func5, Tryz.ntmps5
  go_upto_region 1 with (fail)
  change Code.wp _ _ _ _ (((w.alloc (.cells (pgCells v b y q) 25)).alloc (.cells (repCells ra) 41)).alloc (.cells (repCells rb) 41))
  generalize ((w.alloc (.cells (pgCells v b y q) 25)).alloc (.cells (repCells ra) 41)).alloc (.cells (repCells rb) 41) = w0 at *
  generalize hPP : w.heap.size = P at *
  have HPP := Lib.hid hPP
  clear hPP
  have HX : Hid (Blk w0 P 25 (pgCells v b y q)) := HX
  have HA : Hid (Blk w0 (P + 1) 41 (repCells ra)) := HA
  have HC : Hid (Blk w0 (P + 2) 41 (repCells rb)) := HC
  have x0 := HX.out.cell 0
  have x1 := HX.out.cell 1
  have x2 := HX.out.cell 2
  have x3 := HX.out.cell 3
  have x4 := HX.out.cell 4
  have x5 := HX.out.cell 5
  have x6 := HX.out.cell 6
  have x7 := HX.out.cell 7
  have x8 := HX.out.cell 8
  simp [pgCells] at x0 x1 x2 x3 x4 x5 x6 x7 x8
  go_wp2_with fail
  refine (HFW.out w0).mono ?_
  rintro e w1 ⟨rfl, hb1⟩
  clear x0 x1 x2 x3 x4 x5 x6 x7 x8
  have hx := HX.out.below hb1 HX.out.lt
  have ha := HA.out.below hb1 HA.out.lt
  have hc := HC.out.below hb1 HC.out.lt
  have hbb := HB.out.trans (hb1.mono (by have := HB.out.size; rw [HPP.out] at this; exact this))
  clear HFW hb1
  clear HX HA HC HB
  have HX := Lib.hid hx
  have HA := Lib.hid ha
  have HC := Lib.hid hc
  have HB := Lib.hid hbb
  clear hx ha hc hbb
  have x0 := HX.out.cell 0
  have x1 := HX.out.cell 1
  have x2 := HX.out.cell 2
  have x3 := HX.out.cell 3
  have x4 := HX.out.cell 4
  have x5 := HX.out.cell 5
  have x6 := HX.out.cell 6
  have x7 := HX.out.cell 7
  have x8 := HX.out.cell 8
  simp [pgCells] at x0 x1 x2 x3 x4 x5 x6 x7 x8
  have f0 := HX.out.frozen 0
  have f1 := HX.out.frozen 1
  have f2 := HX.out.frozen 2
  have f3 := HX.out.frozen 3
  have f4 := HX.out.frozen 4
  have f5 := HX.out.frozen 5
  have f6 := HX.out.frozen 6
  have f7 := HX.out.frozen 7
  have f8 := HX.out.frozen 8
  go_upto_region 2 with (fail)
  have hx := fillP_blk HX.out V B YB q
  have ha := fillP_far HA.out (show P + 1 ≠ P by omega) V B YB q
  have hc := fillP_far HC.out (show P + 2 ≠ P by omega) V B YB q
  have hbb := fillP_below HB.out (Nat.le_refl P) V B YB q
  change Code.wp _ _ _ _ (fillP w1 P V B YB q)
  generalize fillP w1 P V B YB q = w2 at *
  clear x0 x1 x2 x3 x4 x5 x6 x7 x8 f0 f1 f2 f3 f4 f5 f6 f7 f8
  clear HX HA HC HB
  have HX := Lib.hid hx
  have HA := Lib.hid ha
  have HC := Lib.hid hc
  have HB := Lib.hid hbb
  clear hx ha hc hbb
  have x0 := HX.out.cell 0
  have x1 := HX.out.cell 1
  have x2 := HX.out.cell 2
  have x3 := HX.out.cell 3
  have x4 := HX.out.cell 4
  have x5 := HX.out.cell 5
  have x6 := HX.out.cell 6
  have x7 := HX.out.cell 7
  have x8 := HX.out.cell 8
  simp [pgCells] at x0 x1 x2 x3 x4 x5 x6 x7 x8
  have f0 := HX.out.frozen 0
  have f1 := HX.out.frozen 1
  have f2 := HX.out.frozen 2
  have f3 := HX.out.frozen 3
  have f4 := HX.out.frozen 4
  have f5 := HX.out.frozen 5
  have f6 := HX.out.frozen 6
  have f7 := HX.out.frozen 7
  have f8 := HX.out.frozen 8
  go_upto_region 3 with (fail)
  have hx : Blk (w2.setCell ⟨P, 8, none⟩ (.bool true)) P 25 (pgCells V B YB true) := HX.out.set_ 8 (.bool true)
  have ha := HA.out.far (p := ⟨P, 8, none⟩) (show P + 1 ≠ P by omega) (.bool true)
  have hc := HC.out.far (p := ⟨P, 8, none⟩) (show P + 2 ≠ P by omega) (.bool true)
  have hbb := HB.out.setCell (p := ⟨P, 8, none⟩) (Nat.le_refl P) (.bool true)
  change Code.wp _ _ _ _ (w2.setCell ⟨P, 8, none⟩ (.bool true))
  generalize w2.setCell ⟨P, 8, none⟩ (.bool true) = w3 at *
  clear x0 x1 x2 x3 x4 x5 x6 x7 x8 f0 f1 f2 f3 f4 f5 f6 f7 f8
  clear HX HA HC HB
  have HX := Lib.hid hx
  have HA := Lib.hid ha
  have HC := Lib.hid hc
  have HB := Lib.hid hbb
  clear hx ha hc hbb
  have x0 := HX.out.cell 0
  have x1 := HX.out.cell 1
  have x2 := HX.out.cell 2
  have x3 := HX.out.cell 3
  have x4 := HX.out.cell 4
  have x5 := HX.out.cell 5
  have x6 := HX.out.cell 6
  have x7 := HX.out.cell 7
  have x8 := HX.out.cell 8
  simp [pgCells] at x0 x1 x2 x3 x4 x5 x6 x7 x8
  go_wp2_with fail
  refine (H19.out w3).mono ?_
  rintro e w4 ⟨rr, rfl, hrb, hb4⟩
  clear x0 x1 x2 x3 x4 x5 x6 x7 x8
  have hx := HX.out.below hb4 HX.out.lt
  have ha := HA.out.below hb4 HA.out.lt
  have hc := HC.out.below hb4 HC.out.lt
  have hbb := HB.out.trans (hb4.mono (by have := HB.out.size; rw [HPP.out] at this; exact this))
  clear H19 hb4
  clear HX HA HC HB
  have HX := Lib.hid hx
  have HA := Lib.hid ha
  have HC := Lib.hid hc
  have HB := Lib.hid hbb
  clear hx ha hc hbb
  have HG4 := Lib.hid (HG.out w4 HB.out)
  cases rr with
  | false =>
    clear hrb
    go_wp2_with fail
    refine (talive_calls w4 HG4.out).mono ?_
    rintro e w5 ⟨rfl, hb5⟩
    have hbb := HB.out.trans (hb5.mono (by have := HB.out.size; rw [HPP.out] at this; exact this))
    have HB := Lib.hid hbb
    clear hbb hb5
    go_wp2_with fail
    go_ret
    exact ⟨rfl, by first | exact HB.out | (rw [HPP.out]; exact HB.out)⟩
  | true =>
    have HRB := Lib.hid (hrb rfl)
    clear hrb
    go_wp2_with fail
    refine (talive_calls w4 HG4.out).mono ?_
    rintro e w5 ⟨rfl, hb5⟩
    have hx := HX.out.below hb5 HX.out.lt
    have ha := HA.out.below hb5 HA.out.lt
    have hc := HC.out.below hb5 HC.out.lt
    have hbb := HB.out.trans (hb5.mono (by have := HB.out.size; rw [HPP.out] at this; exact this))
    clear HG4 hb5
    clear HX HA HC HB
    have HX := Lib.hid hx
    have HA := Lib.hid ha
    have HC := Lib.hid hc
    have HB := Lib.hid hbb
    clear hx ha hc hbb
    have a0 := HA.out.cell 0
    have a1_ := HA.out.cell 1
    have a2_ := HA.out.cell 2
    have a3_ := HA.out.cell 3
    have a4_ := HA.out.cell 4
    have c0 := HC.out.cell 0
    have c1_ := HC.out.cell 1
    have c2_ := HC.out.cell 2
    have c3_ := HC.out.cell 3
    have c4_ := HC.out.cell 4
    simp [repCells] at a0 a1_ a2_ a3_ a4_ c0 c1_ c2_ c3_ c4_
    have hal : Below w5.heap.size w5 (w5.alloc (.cells #[.string (bs ra.url), .int .i64 ra.code, .bool ra.esi, .string (bs ra.body), .int .i64 ra.bad, .string (bs rb.url), .int .i64 rb.code, .bool rb.esi, .string (bs rb.body), .int .i64 rb.bad] 41)) := (Below.refl _ _).alloc (Nat.le_refl _) _
    have hrv := gr_two_new ra rb (Blk.new w5 41 #[.string (bs ra.url), .int .i64 ra.code, .bool ra.esi, .string (bs ra.body), .int .i64 ra.bad, .string (bs rb.url), .int .i64 rb.code, .bool rb.esi, .string (bs rb.body), .int .i64 rb.bad])
    have HS2 := Lib.hid (HSM.out _ _ hrv)
    have HAL := Lib.hid hal
    clear hal hrv HSM
    go_wp2_with fail
    refine HS2.out.mono ?_
    rintro e w6 ⟨A, c, rfl, HO, hb6⟩
    have hb56 := HAL.out.trans (hb6.mono HAL.out.size)
    have hho : ∃ bse, P < bse ∧ OwnR w6 bse 41 5 (fun _ => True) (.slice A 2 c) [a1.gv, b1.gv] := by
      have hlt := HX.out.lt
      have hsz := HAL.out.size
      obtain ⟨xs, h1, h2⟩ := HO.out
      refine ⟨_, ?_, ⟨xs, h1, h2.weaken (fun k hk => ⟨trivial, hk.2⟩)⟩⟩
      omega
    obtain ⟨bse, hPb, ho⟩ := hho
    obtain ⟨g, rfl, hc2, hcm, hbg, hgl, ⟨t0, t1, t2, t3, t4⟩, ⟨s0, s1, s2, s3, s4⟩, hfz⟩ := own_two ho
    have HPG : Hid (P < g) := Nat.lt_of_lt_of_le hPb hbg
    have HO := Lib.hid ho
    have hx := HX.out.below hb56 HX.out.lt
    have hbb := HB.out.trans (hb56.mono (by have := HB.out.size; rw [HPP.out] at this; exact this))
    have z0 := hfz 0
    have z2 := hfz 2
    have z5 := hfz 5
    have z7 := hfz 7
    unfold maxLen at hcm
    clear HX HB HA HC HS2 HAL a0 a1_ a2_ a3_ a4_ c0 c1_ c2_ c3_ c4_ hb6 hb56 ho hfz hbg hgl
    have HX := Lib.hid hx
    have HB := Lib.hid hbb
    clear hx hbb
    go_upto_region 8 with (fail)
    change Code.wp _ _ _ _ (twoSet w6 g oneU twoU)
    have hown := (own_twoSet HO.out oneU twoU).1
    have hgr := (own_twoSet HO.out oneU twoU).2
    have hx := HX.out.grown hgr (by intro h; injection h with h; have := HPG.out; omega)
    have hbb := HB.out.trans (below_of_grown hgr (by have := HB.out.size; rw [HPP.out] at this; exact this) (fun k hk => by have hk : g = k := Option.some.inj hk; have := HPG.out; omega))
    generalize twoSet w6 g oneU twoU = w7 at *
    obtain ⟨a2, ha2⟩ : ∃ x : Rep, x = ⟨oneU, a1.code, false, a1.body, a1.bad⟩ := ⟨_, rfl⟩
    obtain ⟨b2, hb2⟩ : ∃ x : Rep, x = ⟨twoU, b1.code, false, b1.body, b1.bad⟩ := ⟨_, rfl⟩
    rw [← ha2, ← hb2] at hown
    have hua : a2.url = oneU := by rw [ha2]
    have hub : b2.url = twoU := by rw [hb2]
    have hea : a2.esi = false := by rw [ha2]
    have heb : b2.esi = false := by rw [hb2]
    have hla : a2.body.length ≤ 1500 := by rw [ha2]; exact HAB.out
    have hlb : b2.body.length ≤ 1500 := by rw [hb2]; exact HBB.out
    have hpo : ParseOk B := parseOk_ascii B HBL.out (parse_ascii HRB.out.1 HRB.out.2)
    have hre : RepsOk V (elseDep a2 b2) := fun r hr he => by
      have h : r = a2 ∨ r = b2 := by simpa [elseDep] using hr
      rcases h with h | h
      · rw [h, hea] at he; cases he
      · rw [h, heb] at he; cases he
    have hrun : ∀ bb, Hid (∀ u, Glob u → GR u (fun _ => True) (.row 5 ((elseDep a2 b2).replies.map Rep.gv)) [.slice (some ⟨g, 0, none⟩) 2 c] → _) := fun bb => Lib.hid (fun u hgu hru => HRN.out hpo (elseDep a2 b2) rfl hre (elseP bb) (fun _ => else_ok bb) (by cases bb <;> decide) (.slice (some ⟨g, 0, none⟩) 2 c) (fun _ => True) u hgu hru)
    have HR1 := hrun false
    have HR2 := hrun true
    rw [else_run HRB.out.1 HRB.out.2 hua hub hea heb hla hlb false] at HR1
    rw [else_run HRB.out.1 HRB.out.2 hua hub hea heb hla hlb true] at HR2
    clear hrun hpo hre HRN HRB HBL
    have HF1 : Hid (elseF a2 b2 false = if repBad a2 = 0 then doneR ([40] ++ a2.body ++ [41]) else if repBad b2 = 0 then doneR ([40] ++ b2.body ++ [41]) else ⟨[40], 2, repBad b2, []⟩) := rfl
    have HF2 : Hid (elseF a2 b2 true = if repBad a2 = 0 then doneR ([40] ++ a2.body ++ [41]) else if repBad b2 = 0 then doneR ([40] ++ b2.body ++ [41]) else doneR [40, 41]) := rfl
    rw [goodB_bad hla, goodB_bad hlb] at HF1 HF2
    have HGA := Lib.hid (fun W => goodr_calls a2 W)
    have HGB := Lib.hid (fun W => goodr_calls b2 W)
    have HLA := Lib.hid hla
    have HLB := Lib.hid hlb
    have HGR := Lib.hid (fun u (h : OwnR u bse 41 5 (fun _ => True) (.slice (some ⟨g, 0, none⟩) 2 c) [a2.gv, b2.gv]) => h.gr (F := fun _ => True) (fun _ _ => trivial) (fun _ _ => trivial))
    simp only [Res.val] at HR1 HR2
    generalize elseF a2 b2 false = r1 at *
    generalize elseF a2 b2 true = r2 at *
    clear ha2 hb2 hua hub hea heb hla hlb HX HB HO t0 t1 t2 t3 t4 s0 s1 s2 s3 s4 z0 z2 z5 z7 hgr HAB HBB
    have HX := Lib.hid hx
    have HB := Lib.hid hbb
    have HO := Lib.hid hown
    clear hx hbb hown
    have x0 := HX.out.cell 0
    have x1 := HX.out.cell 1
    have x2 := HX.out.cell 2
    have x3 := HX.out.cell 3
    have x4 := HX.out.cell 4
    have x5 := HX.out.cell 5
    have x6 := HX.out.cell 6
    have x7 := HX.out.cell 7
    have x8 := HX.out.cell 8
    simp [pgCells] at x0 x1 x2 x3 x4 x5 x6 x7 x8
    go_wp2_with fail
    refine (HR1.out w7 (HG.out w7 HB.out) (HGR.out w7 HO.out)).mono ?_
    rintro e w8 ⟨rfl, hb8⟩
    clear x0 x1 x2 x3 x4 x5 x6 x7 x8
    have hx := HX.out.below hb8 HX.out.lt
    have ho := HO.out.below hb8
    have hbb := HB.out.trans (hb8.mono (by have := HB.out.size; rw [HPP.out] at this; exact this))
    clear HX HB HO HR1 hb8
    have HX := Lib.hid hx
    have HB := Lib.hid hbb
    have HO := Lib.hid ho
    clear hx hbb ho
    go_upto_region 10 with (fail)
    have hal : Below w8.heap.size w8 (w8.alloc (.cells (rCells r1) 31)) := (Below.refl _ _).alloc (Nat.le_refl _) _
    have hx := HX.out.below hal HX.out.lt
    have ho := HO.out.below hal
    have hbb := HB.out.trans (hal.mono (by have := HB.out.size; rw [HPP.out] at this; exact this))
    have HD1 := Lib.hid (Blk.new w8 31 (rCells r1))
    change Code.wp _ _ _ _ (w8.alloc (.cells (rCells r1) 31))
    generalize w8.alloc (.cells (rCells r1) 31) = w9 at *
    generalize w8.heap.size = D1 at *
    clear hal HX HB HO
    have HX := Lib.hid hx
    have HB := Lib.hid hbb
    have HO := Lib.hid ho
    clear hx hbb ho
    have x0 := HX.out.cell 0
    have x1 := HX.out.cell 1
    have x2 := HX.out.cell 2
    have x3 := HX.out.cell 3
    have x4 := HX.out.cell 4
    have x5 := HX.out.cell 5
    have x6 := HX.out.cell 6
    have x7 := HX.out.cell 7
    have x8 := HX.out.cell 8
    simp [pgCells] at x0 x1 x2 x3 x4 x5 x6 x7 x8
    go_wp2_with fail
    refine (HR2.out w9 (HG.out w9 HB.out) (HGR.out w9 HO.out)).mono ?_
    rintro e w10 ⟨rfl, hb10⟩
    clear x0 x1 x2 x3 x4 x5 x6 x7 x8
    have hd1 := HD1.out.below hb10 HD1.out.lt
    have ho := HO.out.below hb10
    have hbb := HB.out.trans (hb10.mono (by have := HB.out.size; rw [HPP.out] at this; exact this))
    clear HX HB HO HR2 HD1 hb10 HG HGR
    have HD1 := Lib.hid hd1
    have HB := Lib.hid hbb
    have HO := Lib.hid ho
    clear hd1 hbb ho
    go_upto_region 11 with (fail)
    have hal : Below w10.heap.size w10 (w10.alloc (.cells (rCells r2) 31)) := (Below.refl _ _).alloc (Nat.le_refl _) _
    have hd1 := HD1.out.below hal HD1.out.lt
    have ho := HO.out.below hal
    have hbb := HB.out.trans (hal.mono (by have := HB.out.size; rw [HPP.out] at this; exact this))
    have HD2 := Lib.hid (Blk.new w10 31 (rCells r2))
    change Code.wp _ _ _ _ (w10.alloc (.cells (rCells r2) 31))
    generalize w10.alloc (.cells (rCells r2) 31) = w11 at *
    generalize w10.heap.size = D2 at *
    clear hal HD1 HB HO
    have HD1 := Lib.hid hd1
    have HB := Lib.hid hbb
    have HO := Lib.hid ho
    clear hd1 hbb ho
    generalize goodB a2 = ga at *
    generalize goodB b2 = gb at *
    obtain ⟨g', hg', -, -, -, -, ⟨t0, t1, t2, t3, t4⟩, ⟨s0, s1, s2, s3, s4⟩, -⟩ := own_two HO.out
    obtain rfl : g = g' := by
      injection hg' with hg'
      injection hg'
    clear hg'
    go_wp2_with fail
    refine (HGA.out w11).mono ?_
    rintro e w12 ⟨rfl, hb12⟩
    have hd1 := HD1.out.below hb12 HD1.out.lt
    have hd2 := HD2.out.below hb12 HD2.out.lt
    have ho := HO.out.below hb12
    have hbb := HB.out.trans (hb12.mono (by have := HB.out.size; rw [HPP.out] at this; exact this))
    clear HD1 HD2 HB HO HGA hb12 t0 t1 t2 t3 t4 s0 s1 s2 s3 s4
    have HD1 := Lib.hid hd1
    have HD2 := Lib.hid hd2
    have HB := Lib.hid hbb
    have HO := Lib.hid ho
    clear hd1 hd2 hbb ho
    obtain ⟨g', hg', -, -, -, -, ⟨t0, t1, t2, t3, t4⟩, ⟨s0, s1, s2, s3, s4⟩, -⟩ := own_two HO.out
    obtain rfl : g = g' := by
      injection hg' with hg'
      injection hg'
    clear hg'
    cases ga with
    | true =>
      obtain ⟨XX, hXX⟩ : ∃ x, x = a2 := ⟨_, rfl⟩
      have HLX := HLA
      rw [← hXX] at HLX HF1 HF2 t3
      clear hXX
      obtain ⟨E1, hE1⟩ : ∃ E1, E1 = [40] ++ XX.body := ⟨_, rfl⟩
      obtain ⟨E2, hE2⟩ : ∃ E2, E2 = E1 ++ [41] := ⟨_, rfl⟩
      have hcat1 : (⟨#[40]⟩ : ByteArray) ++ bs XX.body = bs E1 := by rw [hE1]; exact bs_append [40] XX.body
      have hcat2 : bs E1 ++ (⟨#[41]⟩ : ByteArray) = bs E2 := by rw [hE2]; exact bs_append E1 [41]
      have hsz0 : 1 + (bs XX.body).size ≤ 100000 := by rw [size_bs]; have := HLX.out; omega
      have hsz1 : (bs E1).size + 1 ≤ 100000 := by rw [size_bs, hE1, List.length_append]; have := HLX.out; simp; omega
      have HQ1 : Hid (r1 = doneR E2) := by rw [Hid, HF1.out, hE2, hE1]; simp [fix60]
      have HQ2 : Hid (r2 = doneR E2) := by rw [Hid, HF2.out, hE2, hE1]; simp [fix60]
      rw [HQ1.out] at HD1
      rw [HQ2.out] at HD2
      clear hE1 hE2 HQ1 HQ2 HF1 HF2
      have hq0 : ∀ W : World, (binOp .eql 31 (.agg #[.string (bs E2), .int .i64 0, .int .i64 0, .string (bs [])]) (.agg #[.string (bs E2), .int .i64 0, .int .i64 0, .string ⟨#[]⟩])).run Tryz.prog W = .ok (.bool true) W := fun W => res_same (bs E2) ⟨#[]⟩ 0 0 W
      have hq1 : ∀ W : World, (binOp .eql 31 (.agg #[.string (bs E2), .int .i64 0, .int .i64 0, .string (bs [])]) (.agg #[.string (bs E2), .int .i64 0, .int .i64 0, .string (bs [])])).run Tryz.prog W = .ok (.bool true) W := fun W => res_same (bs E2) ⟨#[]⟩ 0 0 W
      have n0 := HD1.out.cell 0
      have n1 := HD1.out.cell 1
      have n2 := HD1.out.cell 2
      have n3 := HD1.out.cell 3
      have m0 := HD2.out.cell 0
      have m1 := HD2.out.cell 1
      have m2 := HD2.out.cell 2
      have m3 := HD2.out.cell 3
      simp [rCells, doneR] at n0 n1 n2 n3 m0 m1 m2 m3
      go_wp2_with fail
      go_quiet (fail)
      go_wp2_with fail
      go_ret
      exact ⟨rfl, by first | exact below_drewN HB.out _ | (rw [HPP.out]; exact below_drewN HB.out _)⟩
    | false =>
      go_wp2_with fail
      refine (HGB.out w12).mono ?_
      rintro e w13 ⟨rfl, hb13⟩
      have hd1 := HD1.out.below hb13 HD1.out.lt
      have hd2 := HD2.out.below hb13 HD2.out.lt
      have ho := HO.out.below hb13
      have hbb := HB.out.trans (hb13.mono (by have := HB.out.size; rw [HPP.out] at this; exact this))
      clear HD1 HD2 HB HO HGB hb13 t0 t1 t2 t3 t4 s0 s1 s2 s3 s4
      have HD1 := Lib.hid hd1
      have HD2 := Lib.hid hd2
      have HB := Lib.hid hbb
      have HO := Lib.hid ho
      clear hd1 hd2 hbb ho
      obtain ⟨g', hg', -, -, -, -, ⟨t0, t1, t2, t3, t4⟩, ⟨s0, s1, s2, s3, s4⟩, -⟩ := own_two HO.out
      obtain rfl : g = g' := by
        injection hg' with hg'
        injection hg'
      clear hg'
      cases gb with
      | true =>
        obtain ⟨XX, hXX⟩ : ∃ x, x = b2 := ⟨_, rfl⟩
        have HLX := HLB
        rw [← hXX] at HLX HF1 HF2 s3
        clear hXX
        obtain ⟨E1, hE1⟩ : ∃ E1, E1 = [40] ++ XX.body := ⟨_, rfl⟩
        obtain ⟨E2, hE2⟩ : ∃ E2, E2 = E1 ++ [41] := ⟨_, rfl⟩
        have hcat1 : (⟨#[40]⟩ : ByteArray) ++ bs XX.body = bs E1 := by rw [hE1]; exact bs_append [40] XX.body
        have hcat2 : bs E1 ++ (⟨#[41]⟩ : ByteArray) = bs E2 := by rw [hE2]; exact bs_append E1 [41]
        have hsz0 : 1 + (bs XX.body).size ≤ 100000 := by rw [size_bs]; have := HLX.out; omega
        have hsz1 : (bs E1).size + 1 ≤ 100000 := by rw [size_bs, hE1, List.length_append]; have := HLX.out; simp; omega
        have HQ1 : Hid (r1 = doneR E2) := by rw [Hid, HF1.out, hE2, hE1]; simp [fix60]
        have HQ2 : Hid (r2 = doneR E2) := by rw [Hid, HF2.out, hE2, hE1]; simp [fix60]
        rw [HQ1.out] at HD1
        rw [HQ2.out] at HD2
        clear hE1 hE2 HQ1 HQ2 HF1 HF2
        have hq0 : ∀ W : World, (binOp .eql 31 (.agg #[.string (bs E2), .int .i64 0, .int .i64 0, .string (bs [])]) (.agg #[.string (bs E2), .int .i64 0, .int .i64 0, .string ⟨#[]⟩])).run Tryz.prog W = .ok (.bool true) W := fun W => res_same (bs E2) ⟨#[]⟩ 0 0 W
        have hq1 : ∀ W : World, (binOp .eql 31 (.agg #[.string (bs E2), .int .i64 0, .int .i64 0, .string (bs [])]) (.agg #[.string (bs E2), .int .i64 0, .int .i64 0, .string (bs [])])).run Tryz.prog W = .ok (.bool true) W := fun W => res_same (bs E2) ⟨#[]⟩ 0 0 W
        have n0 := HD1.out.cell 0
        have n1 := HD1.out.cell 1
        have n2 := HD1.out.cell 2
        have n3 := HD1.out.cell 3
        have m0 := HD2.out.cell 0
        have m1 := HD2.out.cell 1
        have m2 := HD2.out.cell 2
        have m3 := HD2.out.cell 3
        simp [rCells, doneR] at n0 n1 n2 n3 m0 m1 m2 m3
        go_wp2_with fail
        go_quiet (fail)
        go_wp2_with fail
        go_ret
        exact ⟨rfl, by first | exact below_drewN HB.out _ | (rw [HPP.out]; exact below_drewN HB.out _)⟩
      | false =>
        obtain ⟨ee, hee⟩ : ∃ ee : Int, ee = if b2.bad = 0 then 60 else b2.bad := ⟨_, rfl⟩
        have HQ1 : Hid (r1 = ⟨[40], 2, ee, []⟩) := by
          rw [Hid, HF1.out, hee]
          simp [fix60]
        have HQ2 : Hid (r2 = doneR [40, 41]) := by
          rw [Hid, HF2.out]
          simp [fix60]
        rw [HQ1.out] at HD1
        rw [HQ2.out] at HD2
        clear HQ1 HQ2 HF1 HF2
        have hq0 : ∀ W : World, (binOp .eql 31 (.agg #[.string (bs [40]), .int .i64 2, .int .i64 ee, .string (bs [])]) (.agg #[.string ⟨#[40]⟩, .int .i64 2, .int .i64 ee, .string ⟨#[]⟩])).run Tryz.prog W = .ok (.bool true) W := fun W => res_same ⟨#[40]⟩ ⟨#[]⟩ 2 ee W
        have hq1 : ∀ W : World, (binOp .eql 31 (.agg #[.string (bs [40, 41]), .int .i64 0, .int .i64 0, .string (bs [])]) (.agg #[.string ⟨#[40, 41]⟩, .int .i64 0, .int .i64 0, .string ⟨#[]⟩])).run Tryz.prog W = .ok (.bool true) W := fun W => res_same ⟨#[40, 41]⟩ ⟨#[]⟩ 0 0 W
        have n0 := HD1.out.cell 0
        have n1 := HD1.out.cell 1
        have n2 := HD1.out.cell 2
        have n3 := HD1.out.cell 3
        have m0 := HD2.out.cell 0
        have m1 := HD2.out.cell 1
        have m2 := HD2.out.cell 2
        have m3 := HD2.out.cell 3
        simp [rCells, doneR] at n0 n1 n2 n3 m0 m1 m2 m3
        by_cases hz : b2.bad = 0
        · have hzb : (b2.bad == 0) = true := by simpa using hz
          rw [if_pos hz] at hee
          subst hee
          go_wp2_with fail
          go_ret
          exact ⟨rfl, by first | exact HB.out | (rw [HPP.out]; exact HB.out)⟩
        · have hzb : (b2.bad == 0) = false := by simpa using hz
          rw [if_neg hz] at hee
          subst hee
          go_wp2_with fail
          go_ret
          exact ⟨rfl, by first | exact HB.out | (rw [HPP.out]; exact HB.out)⟩
end Go.Proofs.YtijpfcjlochahaaGreatDoor
