/- The walks of intarsiatop's few and its cut. The walk of intarsiatop's run. -/
import Derived.Test.YtijpfcjlochahaaGreatDoorBase
import Derived.Test.YtijpfcjlochahaaGreatDoorAsk
import Derived.Test.YtijpfcjlochahaaGreatDoorEvD
import Derived.IntWalk
import Derived.BigQuiet
import Derived.BigRegion
import Derived.Test.YtijpfcjlochahaaGreatDoorTopL
import Derived.Laws.StructEq
set_option linter.unusedVariables false
set_option linter.unusedSimpArgs false
namespace Go.Proofs.YtijpfcjlochahaaGreatDoor
open Go Go.RowKit
set_option linter.unusedVariables false
set_option linter.unusedSimpArgs false

theorem take_cut (s : List UInt8) (n tn : Nat) (h : tn = min s.length n) : (bs s).extract 0 tn = bs (s.take n) := by
  rw [extract_bs, List.drop_zero]
  congr 1
  rcases Nat.le_total s.length n with h1 | h1
  · rw [h, Nat.min_eq_left h1, List.take_length, List.take_of_length_le h1]
  · rw [h, Nat.min_eq_right h1]
theorem fewcut_calls (s : List UInt8) (w : World) : Calls Tryz.prog 30 #[.string (bs s)] w fun e w' => e = .returned (.string (bs (s.take 300))) ∧ w = w' := by
  have hsz : ((bs s).size : Int) = (s.length : Int) := by rw [size_bs]
  by_cases h : (300 : Int) < (s.length : Int)
  · have hx := take_cut s 300 300 (by omega)
    have hm : min (s.length : Int) 300 = 300 := by omega
    go_enter Tryz.func30, Tryz.ntmps30
    go_wp2_with fail
    go_ret
    exact ⟨rfl, rfl⟩
  · have hx := take_cut s 300 s.length (by omega)
    have hm : min (s.length : Int) 300 = (s.length : Int) := by omega
    go_enter Tryz.func30, Tryz.ntmps30
    go_wp2_with fail
    go_ret
    exact ⟨rfl, rfl⟩
def cutEnv (v : EnvD) : EnvD := ⟨v.e0.take 300, v.e1.take 300, v.e2.take 300, v.e3.take 300, v.e4.take 300, v.e5.take 300⟩
def envCells (v : EnvD) : Array Value := #[.string (bs v.e0), .string (bs v.e1), .string (bs v.e2), .string (bs v.e3), .string (bs v.e4), .string (bs v.e5)]
/-- Variables are stored in a page. -/
def fillE (W : World) (R : Nat) (v : EnvD) : World :=
  (((((W.setCell ⟨R, 0, none⟩ (.string (bs v.e0))).setCell ⟨R, 1, none⟩ (.string (bs v.e1))).setCell ⟨R, 2, none⟩ (.string (bs v.e2))).setCell ⟨R, 3, none⟩ (.string (bs v.e3))).setCell ⟨R, 4, none⟩ (.string (bs v.e4))).setCell ⟨R, 5, none⟩ (.string (bs v.e5))
def fillP (W : World) (R : Nat) (v : EnvD) (base body : List UInt8) (esi : Bool) : World :=
  (((fillE W R v).setCell ⟨R, 6, none⟩ (.string (bs base))).setCell ⟨R, 7, none⟩ (.string (bs body))).setCell ⟨R, 8, none⟩ (.bool esi)
theorem fillE_blk {W : World} {R : Nat} {t : TypeId} {u : EnvD} {base body : List UInt8} {esi : Bool} (h : Blk W R t (pgCells u base body esi)) (v : EnvD) : Blk (fillE W R v) R t (pgCells v base body esi) :=
  (((((h.set_ 0 (.string (bs v.e0))).set_ 1 (.string (bs v.e1))).set_ 2 (.string (bs v.e2))).set_ 3 (.string (bs v.e3))).set_ 4 (.string (bs v.e4))).set_ 5 (.string (bs v.e5))
theorem fillE_below {B R : Nat} {a w : World} (h : Below B a w) (hR : B ≤ R) (v : EnvD) : Below B a (fillE w R v) :=
  (((((h.setCell (p := ⟨R, 0, none⟩) hR _).setCell (p := ⟨R, 1, none⟩) hR _).setCell (p := ⟨R, 2, none⟩) hR _).setCell (p := ⟨R, 3, none⟩) hR _).setCell (p := ⟨R, 4, none⟩) hR _).setCell (p := ⟨R, 5, none⟩) hR _
theorem fillE_far {W : World} {R g : Nat} {t : TypeId} {cs : Array Value} (h : Blk W g t cs) (hne : g ≠ R) (v : EnvD) : Blk (fillE W R v) g t cs :=
  (((((h.far (p := ⟨R, 0, none⟩) hne _).far (p := ⟨R, 1, none⟩) hne _).far (p := ⟨R, 2, none⟩) hne _).far (p := ⟨R, 3, none⟩) hne _).far (p := ⟨R, 4, none⟩) hne _).far (p := ⟨R, 5, none⟩) hne _
theorem fillP_blk {W : World} {R : Nat} {t : TypeId} {u : EnvD} {b1 s1 : List UInt8} {e1 : Bool} (h : Blk W R t (pgCells u b1 s1 e1)) (v : EnvD) (base body : List UInt8) (esi : Bool) : Blk (fillP W R v base body esi) R t (pgCells v base body esi) :=
  (((fillE_blk h v).set_ 6 (.string (bs base))).set_ 7 (.string (bs body))).set_ 8 (.bool esi)
theorem fillP_below {B R : Nat} {a w : World} (h : Below B a w) (hR : B ≤ R) (v : EnvD) (base body : List UInt8) (esi : Bool) : Below B a (fillP w R v base body esi) :=
  (((fillE_below h hR v).setCell (p := ⟨R, 6, none⟩) hR _).setCell (p := ⟨R, 7, none⟩) hR _).setCell (p := ⟨R, 8, none⟩) hR _
theorem fillP_far {W : World} {R g : Nat} {t : TypeId} {cs : Array Value} (h : Blk W g t cs) (hne : g ≠ R) (v : EnvD) (base body : List UInt8) (esi : Bool) : Blk (fillP W R v base body esi) g t cs :=
  (((fillE_far h hne v).far (p := ⟨R, 6, none⟩) hne _).far (p := ⟨R, 7, none⟩) hne _).far (p := ⟨R, 8, none⟩) hne _
theorem tfew_results {w : World} {X : Nat} {tmps : Array Value} {v : EnvD} {base body : List UInt8} {esi : Bool} (h4 : tmps[2]?.getD undef = .pointer (some ⟨X, 0, none⟩)) (B0 : Blk w X 25 (pgCells v base body esi)) :
    (results Tryz.f8 tmps).run Tryz.prog w = .ok (pageV v base body esi) w := by
  have a0 := B0.cell 0
  have a1 := B0.cell 1
  have a2 := B0.cell 2
  have a3 := B0.cell 3
  have a4 := B0.cell 4
  have a5 := B0.cell 5
  have a6 := B0.cell 6
  have a7 := B0.cell 7
  have a8 := B0.cell 8
  simp [pgCells] at a0 a1 a2 a3 a4 a5 a6 a7 a8
  simp [results, Tryz.results8, go_sem, h4, a0, a1, a2, a3, a4, a5, a6, a7, a8, pageV]
set_option maxRecDepth 20000 in
set_option maxHeartbeats 4000000 in
theorem tfew_calls (v : EnvD) (base body : List UInt8) (esi : Bool) (w : World) :
    Calls Tryz.prog 8 #[pageV v base body esi] w fun e w' => e = .returned (pageV (cutEnv v) (base.take 300) (body.take 2000) esi) ∧ Below w.heap.size w w' := by
  have hal0 : Below w.heap.size w (w.alloc (.cells (pgCells v base body esi) 25)) := (Below.refl _ _).alloc (Nat.le_refl _) _
  have hal := hal0.alloc hal0.size (.cells (pgCells ⟨[], [], [], [], [], []⟩ [] [] false) 25)
  have h1 := Blk.new w 25 (pgCells v base body esi)
  have h2 := Blk.new (w.alloc (.cells (pgCells v base body esi) 25)) 25 (pgCells ⟨[], [], [], [], [], []⟩ [] [] false)
  rw [size_alloc] at h2
  have HX := Lib.hid (h1.alloc (.cells (pgCells ⟨[], [], [], [], [], []⟩ [] [] false) 25))
  have HR := Lib.hid h2
  have HB := Lib.hid hal
  clear hal0 hal h1 h2
  simp only [pageV] at *
  go_enter Tryz.func8, Tryz.ntmps8
  go_upto_region 1 with (fail)
  change Code.wp _ _ _ _ ((w.alloc (.cells (pgCells v base body esi) 25)).alloc (.cells (pgCells ⟨[], [], [], [], [], []⟩ [] [] false) 25))
  generalize (w.alloc (.cells (pgCells v base body esi) 25)).alloc (.cells (pgCells ⟨[], [], [], [], [], []⟩ [] [] false) 25) = w0 at *
  generalize hPP : w.heap.size = P at *
  have HPP := Lib.hid hPP
  clear hPP
  have HR : Hid (Blk w0 (P + 1) 25 (pgCells ⟨[], [], [], [], [], []⟩ [] [] false)) := HR
  have x0 := HX.out.cell 0
  have x1 := HX.out.cell 1
  have x2 := HX.out.cell 2
  have x3 := HX.out.cell 3
  have x4 := HX.out.cell 4
  have x5 := HX.out.cell 5
  simp [pgCells] at x0 x1 x2 x3 x4 x5
  go_upto_region 3 with (fail)
  have hal : Below w0.heap.size w0 (w0.alloc (.cells (envCells v) 23)) := (Below.refl _ _).alloc (Nat.le_refl _) _
  have hb1 := HB.out.trans (hal.mono (by have := HB.out.size; rw [HPP.out] at this; exact this))
  have hx1 := HX.out.below hal HX.out.lt
  have hr1 := HR.out.below hal HR.out.lt
  have he1 := Blk.new w0 23 (envCells v)
  have hPE : P + 1 < w0.heap.size := HR.out.lt
  change Code.wp _ _ _ _ (w0.alloc (.cells (envCells v) 23))
  generalize w0.alloc (.cells (envCells v) 23) = w1 at *
  generalize w0.heap.size = E at *
  clear hal HX HR HB x0 x1 x2 x3 x4 x5
  have HX := Lib.hid hx1
  have HR := Lib.hid hr1
  have HB := Lib.hid hb1
  have HE := Lib.hid he1
  have HPE := Lib.hid hPE
  clear hx1 hr1 hb1 he1 hPE
  have hE : w1.drew.cell? ⟨E, 0, none⟩ = some (.string (bs v.e0)) ∧ w1.drew.cell? ⟨E, 1, none⟩ = some (.string (bs v.e1)) ∧ w1.drew.cell? ⟨E, 2, none⟩ = some (.string (bs v.e2)) ∧ w1.drew.cell? ⟨E, 3, none⟩ = some (.string (bs v.e3)) ∧ w1.drew.cell? ⟨E, 4, none⟩ = some (.string (bs v.e4)) ∧ w1.drew.cell? ⟨E, 5, none⟩ = some (.string (bs v.e5)) := ⟨HE.out.cell 0, HE.out.cell 1, HE.out.cell 2, HE.out.cell 3, HE.out.cell 4, HE.out.cell 5⟩
  have HE6 := Lib.hid hE
  clear hE
  have f0 := HX.out.frozen 0
  have f1 := HX.out.frozen 1
  have f2 := HX.out.frozen 2
  have f3 := HX.out.frozen 3
  have f4 := HX.out.frozen 4
  have f5 := HX.out.frozen 5
  have y0 : w1.drew.cell? ⟨P, 0, none⟩ = _ := HX.out.cell 0
  have y1 : w1.drew.cell? ⟨P, 1, none⟩ = _ := HX.out.cell 1
  have y2 : w1.drew.cell? ⟨P, 2, none⟩ = _ := HX.out.cell 2
  have y3 : w1.drew.cell? ⟨P, 3, none⟩ = _ := HX.out.cell 3
  have y4 : w1.drew.cell? ⟨P, 4, none⟩ = _ := HX.out.cell 4
  have y5 : w1.drew.cell? ⟨P, 5, none⟩ = _ := HX.out.cell 5
  simp [pgCells] at y0 y1 y2 y3 y4 y5
  refine wp_region_held (S := (fun w' => w'.cell? ⟨E, 0, none⟩ = some (.string (bs v.e0)) ∧ w'.cell? ⟨E, 1, none⟩ = some (.string (bs v.e1)) ∧ w'.cell? ⟨E, 2, none⟩ = some (.string (bs v.e2)) ∧ w'.cell? ⟨E, 3, none⟩ = some (.string (bs v.e3)) ∧ w'.cell? ⟨E, 4, none⟩ = some (.string (bs v.e4)) ∧ w'.cell? ⟨E, 5, none⟩ = some (.string (bs v.e5)))) (by kernel_rfl) ?_
  change wpAnyH _ _ _ _ _ _ _ _ (World.drew _)
  refine wpAnyH_take (i := 0) (v := ?_) rfl (by kernel_rfl) (by kernel_rfl) (by kernel_rfl) (fun _ _ _ h => h) (Or.inl ⟨by rfl, ?_⟩) HE6.out ?_
  rotate_left
  · (intro w_ hS_; obtain ⟨s0, s1, s2, s3, s4, s5⟩ := hS_; go_simp; try with_reducible rfl)
  refine wpAnyH_take (i := 1) (v := ?_) rfl (by kernel_rfl) (by kernel_rfl) (by kernel_rfl) (fun _ _ _ h => h) (Or.inl ⟨by rfl, ?_⟩) HE6.out ?_
  rotate_left
  · (intro w_ hS_; obtain ⟨s0, s1, s2, s3, s4, s5⟩ := hS_; go_simp; try with_reducible rfl)
  refine wpAnyH_take (i := 2) (v := ?_) rfl (by kernel_rfl) (by kernel_rfl) (by kernel_rfl) (fun _ _ _ h => h) (Or.inl ⟨by rfl, ?_⟩) HE6.out ?_
  rotate_left
  · (intro w_ hS_; obtain ⟨s0, s1, s2, s3, s4, s5⟩ := hS_; go_simp; try with_reducible rfl)
  refine wpAnyH_take (i := 4) (v := ?_) rfl (by kernel_rfl) (by kernel_rfl) (by kernel_rfl) (fun _ _ _ h => h) (Or.inl ⟨by rfl, ?_⟩) HE6.out ?_
  rotate_left
  · (intro w_ hS_; obtain ⟨s0, s1, s2, s3, s4, s5⟩ := hS_; go_simp; try with_reducible rfl)
  refine wpAnyH_take (i := 5) (v := ?_) rfl (by kernel_rfl) (by kernel_rfl) (by kernel_rfl) (fun _ _ _ h => h) (Or.inl ⟨by rfl, ?_⟩) HE6.out ?_
  rotate_left
  · (intro w_ hS_; obtain ⟨s0, s1, s2, s3, s4, s5⟩ := hS_; go_simp; try with_reducible rfl)
  refine wpAnyH_take (i := 6) (v := ?_) rfl (by kernel_rfl) (by kernel_rfl) (by kernel_rfl) (fun _ _ _ h => h) (Or.inl ⟨by rfl, ?_⟩) HE6.out ?_
  rotate_left
  · (intro w_ hS_; obtain ⟨s0, s1, s2, s3, s4, s5⟩ := hS_; go_simp; try with_reducible rfl)
  refine wpAnyH_take (i := 8) (v := ?_) rfl (by kernel_rfl) (by kernel_rfl) (by kernel_rfl) (fun _ _ _ h => h) (Or.inl ⟨by rfl, ?_⟩) HE6.out ?_
  rotate_left
  · (intro w_ hS_; obtain ⟨s0, s1, s2, s3, s4, s5⟩ := hS_; go_simp; try with_reducible rfl)
  refine wpAnyH_take (i := 9) (v := ?_) rfl (by kernel_rfl) (by kernel_rfl) (by kernel_rfl) (fun _ _ _ h => h) (Or.inl ⟨by rfl, ?_⟩) HE6.out ?_
  rotate_left
  · (intro w_ hS_; obtain ⟨s0, s1, s2, s3, s4, s5⟩ := hS_; go_simp; try with_reducible rfl)
  refine wpAnyH_take (i := 10) (v := ?_) rfl (by kernel_rfl) (by kernel_rfl) (by kernel_rfl) (fun _ _ _ h => h) (Or.inl ⟨by rfl, ?_⟩) HE6.out ?_
  rotate_left
  · (intro w_ hS_; obtain ⟨s0, s1, s2, s3, s4, s5⟩ := hS_; go_simp; try with_reducible rfl)
  refine wpAnyH_take (i := 12) (v := ?_) rfl (by kernel_rfl) (by kernel_rfl) (by kernel_rfl) (fun _ _ _ h => h) (Or.inl ⟨by rfl, ?_⟩) HE6.out ?_
  rotate_left
  · (intro w_ hS_; obtain ⟨s0, s1, s2, s3, s4, s5⟩ := hS_; go_simp; try with_reducible rfl)
  refine wpAnyH_take (i := 13) (v := ?_) rfl (by kernel_rfl) (by kernel_rfl) (by kernel_rfl) (fun _ _ _ h => h) (Or.inl ⟨by rfl, ?_⟩) HE6.out ?_
  rotate_left
  · (intro w_ hS_; obtain ⟨s0, s1, s2, s3, s4, s5⟩ := hS_; go_simp; try with_reducible rfl)
  refine wpAnyH_take (i := 14) (v := ?_) rfl (by kernel_rfl) (by kernel_rfl) (by kernel_rfl) (fun _ _ _ h => h) (Or.inl ⟨by rfl, ?_⟩) HE6.out ?_
  rotate_left
  · (intro w_ hS_; obtain ⟨s0, s1, s2, s3, s4, s5⟩ := hS_; go_simp; try with_reducible rfl)
  refine wpAnyH_take (i := 16) (v := ?_) rfl (by kernel_rfl) (by kernel_rfl) (by kernel_rfl) (fun _ _ _ h => h) (Or.inl ⟨by rfl, ?_⟩) HE6.out ?_
  rotate_left
  · (intro w_ hS_; obtain ⟨s0, s1, s2, s3, s4, s5⟩ := hS_; go_simp; try with_reducible rfl)
  refine wpAnyH_take (i := 17) (v := ?_) rfl (by kernel_rfl) (by kernel_rfl) (by kernel_rfl) (fun _ _ _ h => h) (Or.inl ⟨by rfl, ?_⟩) HE6.out ?_
  rotate_left
  · (intro w_ hS_; obtain ⟨s0, s1, s2, s3, s4, s5⟩ := hS_; go_simp; try with_reducible rfl)
  refine wpAnyH_take (i := 18) (v := ?_) rfl (by kernel_rfl) (by kernel_rfl) (by kernel_rfl) (fun _ _ _ h => h) (Or.inl ⟨by rfl, ?_⟩) HE6.out ?_
  rotate_left
  · (intro w_ hS_; obtain ⟨s0, s1, s2, s3, s4, s5⟩ := hS_; go_simp; try with_reducible rfl)
  refine wpAnyH_take (i := 20) (v := ?_) rfl (by kernel_rfl) (by kernel_rfl) (by kernel_rfl) (fun _ _ _ h => h) (Or.inl ⟨by rfl, ?_⟩) HE6.out ?_
  rotate_left
  · (intro w_ hS_; obtain ⟨s0, s1, s2, s3, s4, s5⟩ := hS_; go_simp; try with_reducible rfl)
  refine wpAnyH_take (i := 21) (v := ?_) rfl (by kernel_rfl) (by kernel_rfl) (by kernel_rfl) (fun _ _ _ h => h) (Or.inl ⟨by rfl, ?_⟩) HE6.out ?_
  rotate_left
  · (intro w_ hS_; obtain ⟨s0, s1, s2, s3, s4, s5⟩ := hS_; go_simp; try with_reducible rfl)
  refine wpAnyH_take (i := 22) (v := ?_) rfl (by kernel_rfl) (by kernel_rfl) (by kernel_rfl) (fun _ _ _ h => h) (Or.inl ⟨by rfl, ?_⟩) HE6.out ?_
  rotate_left
  · (intro w_ hS_; obtain ⟨s0, s1, s2, s3, s4, s5⟩ := hS_; go_simp; try with_reducible rfl)
  refine wpAnyH_ask (i := 3) (v := _) rfl (by kernel_rfl) (by kernel_rfl) (by kernel_rfl) (fun _ _ _ h => h) ⟨by kernel_rfl, _, _, ?_, fun w_ hS_ => fewcut_calls v.e0 w_⟩ HE6.out ?_
  · (intro w_; go_simp; try with_reducible rfl)
  refine wpAnyH_ask (i := 7) (v := _) rfl (by kernel_rfl) (by kernel_rfl) (by kernel_rfl) (fun _ _ _ h => h) ⟨by kernel_rfl, _, _, ?_, fun w_ hS_ => fewcut_calls v.e1 w_⟩ HE6.out ?_
  · (intro w_; go_simp; try with_reducible rfl)
  refine wpAnyH_ask (i := 11) (v := _) rfl (by kernel_rfl) (by kernel_rfl) (by kernel_rfl) (fun _ _ _ h => h) ⟨by kernel_rfl, _, _, ?_, fun w_ hS_ => fewcut_calls v.e2 w_⟩ HE6.out ?_
  · (intro w_; go_simp; try with_reducible rfl)
  refine wpAnyH_ask (i := 15) (v := _) rfl (by kernel_rfl) (by kernel_rfl) (by kernel_rfl) (fun _ _ _ h => h) ⟨by kernel_rfl, _, _, ?_, fun w_ hS_ => fewcut_calls v.e3 w_⟩ HE6.out ?_
  · (intro w_; go_simp; try with_reducible rfl)
  refine wpAnyH_ask (i := 19) (v := _) rfl (by kernel_rfl) (by kernel_rfl) (by kernel_rfl) (fun _ _ _ h => h) ⟨by kernel_rfl, _, _, ?_, fun w_ hS_ => fewcut_calls v.e4 w_⟩ HE6.out ?_
  · (intro w_; go_simp; try with_reducible rfl)
  refine wpAnyH_ask (i := 23) (v := _) rfl (by kernel_rfl) (by kernel_rfl) (by kernel_rfl) (fun _ _ _ h => h) ⟨by kernel_rfl, _, _, ?_, fun w_ hS_ => fewcut_calls v.e5 w_⟩ HE6.out ?_
  · (intro w_; go_simp; try with_reducible rfl)
  refine wpAnyH_take (i := 24) (v := ?_) rfl (by kernel_rfl) (by kernel_rfl) (by kernel_rfl) (fun _ _ _ h => h) (Or.inl ⟨by rfl, ?_⟩) HE6.out ?_
  rotate_left
  · (intro w_ hS_; obtain ⟨s0, s1, s2, s3, s4, s5⟩ := hS_; go_simp; try with_reducible rfl)
  refine wpAnyH_take (i := 25) (v := ?_) rfl (by kernel_rfl) (by kernel_rfl) (by kernel_rfl) (fun _ _ _ h => h) (Or.inl ⟨by rfl, ?_⟩) HE6.out ?_
  rotate_left
  · (intro w_ hS_; obtain ⟨s0, s1, s2, s3, s4, s5⟩ := hS_; go_simp; try with_reducible rfl)
  refine wpAnyH_ready (rs := [26]) (by kernel_rfl) (by simp) ?_
  refine AllReadyH.cons rfl (fun K_ hK_ => ?_) AllReadyH.nil
  go_simp
  change K_ _ (fillE w1 P ⟨v.e0.take 300, v.e1.take 300, v.e2.take 300, v.e3.take 300, v.e4.take 300, v.e5.take 300⟩).drew
  have hx2 := fillE_blk HX.out ⟨v.e0.take 300, v.e1.take 300, v.e2.take 300, v.e3.take 300, v.e4.take 300, v.e5.take 300⟩
  have hr2 := fillE_far HR.out (show P + 1 ≠ P by omega) ⟨v.e0.take 300, v.e1.take 300, v.e2.take 300, v.e3.take 300, v.e4.take 300, v.e5.take 300⟩
  have hb2 := fillE_below HB.out (show P ≤ P from Nat.le_refl _) ⟨v.e0.take 300, v.e1.take 300, v.e2.take 300, v.e3.take 300, v.e4.take 300, v.e5.take 300⟩
  have he2 := fillE_far HE.out (show E ≠ P by have := HPE.out; omega) ⟨v.e0.take 300, v.e1.take 300, v.e2.take 300, v.e3.take 300, v.e4.take 300, v.e5.take 300⟩
  generalize fillE w1 P ⟨v.e0.take 300, v.e1.take 300, v.e2.take 300, v.e3.take 300, v.e4.take 300, v.e5.take 300⟩ = w2 at *
  have hE : w2.cell? ⟨E, 0, none⟩ = some (.string (bs v.e0)) ∧ w2.cell? ⟨E, 1, none⟩ = some (.string (bs v.e1)) ∧ w2.cell? ⟨E, 2, none⟩ = some (.string (bs v.e2)) ∧ w2.cell? ⟨E, 3, none⟩ = some (.string (bs v.e3)) ∧ w2.cell? ⟨E, 4, none⟩ = some (.string (bs v.e4)) ∧ w2.cell? ⟨E, 5, none⟩ = some (.string (bs v.e5)) := ⟨he2.cell 0, he2.cell 1, he2.cell 2, he2.cell 3, he2.cell 4, he2.cell 5⟩
  refine hK_.out _ _ hE fun _ => ?_
  clear hK_ K_ hE he2
  refine wpAnyH_done (by kernel_rfl) ?_ _
  clear HX HR HB HE HPE HE6 f0 f1 f2 f3 f4 f5 y0 y1 y2 y3 y4 y5
  have HX := Lib.hid hx2
  have HR := Lib.hid hr2
  have HB := Lib.hid hb2
  clear hx2 hr2 hb2
  go_wp2_with fail
  have c6 := HX.out.cell 6
  have c7 := HX.out.cell 7
  have f6 := HX.out.frozen 6
  have f7 := HX.out.frozen 7
  simp [pgCells] at c6 c7
  obtain ⟨tn, htn⟩ : ∃ tn, tn = min body.length 2000 := ⟨_, rfl⟩
  have hsz : ((bs body).size : Int) = (body.length : Int) := by rw [size_bs]
  have hmt : min (body.length : Int) 2000 = (tn : Int) := by omega
  have hmt2 : (if (2000 : Int) < (body.length : Int) then 2000 else (body.length : Int)) = (tn : Int) := by split <;> omega
  have ht0 : (0 : Int) ≤ (tn : Int) := by omega
  have ht1 : (tn : Int) ≤ (body.length : Int) := by omega
  have hx := take_cut body 2000 tn htn
  clear htn
  refine wp_region_held (S := (fun _ => True)) (by kernel_rfl) ?_
  change wpAnyH _ _ _ _ _ _ _ _ (World.drew _)
  refine wpAnyH_take (i := 0) (v := ?_) rfl (by kernel_rfl) (by kernel_rfl) (by kernel_rfl) (fun _ _ _ h => h) (Or.inl ⟨by rfl, ?_⟩) trivial ?_
  rotate_left
  · (intro w_ hS_; obtain _s := hS_; go_simp; try with_reducible rfl)
  refine wpAnyH_take (i := 1) (v := ?_) rfl (by kernel_rfl) (by kernel_rfl) (by kernel_rfl) (fun _ _ _ h => h) (Or.inl ⟨by rfl, ?_⟩) trivial ?_
  rotate_left
  · (intro w_ hS_; obtain _s := hS_; go_simp; try with_reducible rfl)
  refine wpAnyH_take (i := 4) (v := ?_) rfl (by kernel_rfl) (by kernel_rfl) (by kernel_rfl) (fun _ _ _ h => h) (Or.inl ⟨by rfl, ?_⟩) trivial ?_
  rotate_left
  · (intro w_ hS_; obtain _s := hS_; go_simp; try with_reducible rfl)
  refine wpAnyH_take (i := 6) (v := ?_) rfl (by kernel_rfl) (by kernel_rfl) (by kernel_rfl) (fun _ _ _ h => h) (Or.inl ⟨by rfl, ?_⟩) trivial ?_
  rotate_left
  · (intro w_ hS_; obtain _s := hS_; go_simp; try with_reducible rfl)
  refine wpAnyH_ready (rs := [2, 5, 7]) (by kernel_rfl) (by simp) ?_
  refine AllReadyH.cons rfl (fun K_ hK_ => ?_) (AllReadyH.cons rfl (fun K_ hK_ => ?_) (AllReadyH.cons rfl (fun K_ hK_ => ?_) AllReadyH.nil))
  · go_simp
    refine hK_.out _ _ trivial fun _ => ?_
    clear hK_ K_
    refine wpAnyH_ask (i := 3) (v := _) rfl (by kernel_rfl) (by kernel_rfl) (by kernel_rfl) (fun _ _ _ h => h) ⟨by kernel_rfl, _, _, ?_, fun w_ hS_ => fewcut_calls base w_⟩ trivial ?_
    · (intro w_; go_simp; try with_reducible rfl)
    refine wpAnyH_ready (rs := [5, 7]) (by kernel_rfl) (by simp) ?_
    refine AllReadyH.cons rfl (fun K_ hK_ => ?_) (AllReadyH.cons rfl (fun K_ hK_ => ?_) AllReadyH.nil)
    · go_simp
      refine hK_.out _ _ trivial fun _ => ?_
      clear hK_ K_
      refine wpAnyH_ready (rs := [7]) (by kernel_rfl) (by simp) ?_
      refine AllReadyH.cons rfl (fun K_ hK_ => ?_) AllReadyH.nil
      go_simp
      refine hK_.out _ _ trivial fun _ => ?_
      clear hK_ K_
      refine wpAnyH_take (i := 8) (v := ?_) rfl (by kernel_rfl) (by kernel_rfl) (by kernel_rfl) (fun _ _ _ h => h) (Or.inl ⟨by rfl, ?_⟩) trivial ?_
      rotate_left
      · (intro w_ hS_; obtain _s := hS_; go_simp; try with_reducible rfl)
      refine wpAnyH_take (i := 9) (v := ?_) rfl (by kernel_rfl) (by kernel_rfl) (by kernel_rfl) (fun _ _ _ h => h) (Or.inl ⟨by rfl, ?_⟩) trivial ?_
      rotate_left
      · (intro w_ hS_; obtain _s := hS_; go_simp; try with_reducible rfl)
      refine wpAnyH_take (i := 10) (v := ?_) rfl (by kernel_rfl) (by kernel_rfl) (by kernel_rfl) (fun _ _ _ h => h) (Or.inl ⟨by rfl, ?_⟩) trivial ?_
      rotate_left
      · (intro w_ hS_; obtain _s := hS_; go_simp; try with_reducible rfl)
      refine wpAnyH_take (i := 11) (v := ?_) rfl (by kernel_rfl) (by kernel_rfl) (by kernel_rfl) (fun _ _ _ h => h) (Or.inl ⟨by rfl, ?_⟩) trivial ?_
      rotate_left
      · (intro w_ hS_; obtain _s := hS_; go_simp; try with_reducible rfl)
      refine wpAnyH_ready (rs := [12]) (by kernel_rfl) (by simp) ?_
      refine AllReadyH.cons rfl (fun K_ hK_ => ?_) AllReadyH.nil
      go_simp
      refine hK_.out _ _ trivial fun _ => ?_
      clear hK_ K_
      refine wpAnyH_take (i := 13) (v := ?_) rfl (by kernel_rfl) (by kernel_rfl) (by kernel_rfl) (fun _ _ _ h => h) (Or.inl ⟨by rfl, ?_⟩) trivial ?_
      rotate_left
      · (intro w_ hS_; obtain _s := hS_; go_simp; try with_reducible rfl)
      refine wpAnyH_ready (rs := [14]) (by kernel_rfl) (by simp) ?_
      refine AllReadyH.cons rfl (fun K_ hK_ => ?_) AllReadyH.nil
      go_simp
      refine hK_.out _ _ trivial fun _ => ?_
      clear hK_ K_
      refine wpAnyH_done (by kernel_rfl) ?_ _
      have hx3 := (HX.out.set_ 6 (.string (bs (base.take 300)))).set_ 7 (.string (bs (body.take 2000)))
      have hr3 := (HR.out.far (p := ⟨P, 6, none⟩) (show P + 1 ≠ P by omega) (.string (bs (base.take 300)))).far (p := ⟨P, 7, none⟩) (show P + 1 ≠ P by omega) (.string (bs (body.take 2000)))
      have hb3 := (HB.out.setCell (p := ⟨P, 6, none⟩) (Nat.le_refl P) (.string (bs (base.take 300)))).setCell (p := ⟨P, 7, none⟩) (Nat.le_refl P) (.string (bs (body.take 2000)))
      change Exit.then _ _ Exit.normal _ (((w2.setCell ⟨P, 6, none⟩ (.string (bs (base.take 300)))).setCell ⟨P, 7, none⟩ (.string (bs (body.take 2000)))).drew.drew)
      generalize (w2.setCell ⟨P, 6, none⟩ (.string (bs (base.take 300)))).setCell ⟨P, 7, none⟩ (.string (bs (body.take 2000))) = w3 at *
      have hb4 := hb3.drew.drew
      have hr4 : Blk w3.drew.drew (P + 1) 25 _ := hr3
      have hx4 : Blk w3.drew.drew P 25 _ := hx3
      generalize w3.drew.drew = w4 at *
      have hx4 : Blk w4 P 25 (pgCells ⟨v.e0.take 300, v.e1.take 300, v.e2.take 300, v.e3.take 300, v.e4.take 300, v.e5.take 300⟩ (base.take 300) (body.take 2000) esi) := hx4
      clear c6 c7 f6 f7 HX HR HB hx3 hr3 hb3 hx hsz hmt hmt2 ht0 ht1
      have x0 := hx4.cell 0
      have x1 := hx4.cell 1
      have x2 := hx4.cell 2
      have x3 := hx4.cell 3
      have x4 := hx4.cell 4
      have x5 := hx4.cell 5
      have x6 := hx4.cell 6
      have x7 := hx4.cell 7
      have x8 := hx4.cell 8
      have r0 := hr4.cell 0
      have r1 := hr4.cell 1
      have r2 := hr4.cell 2
      have r3 := hr4.cell 3
      have r4 := hr4.cell 4
      have r5 := hr4.cell 5
      have r6 := hr4.cell 6
      have r7 := hr4.cell 7
      have r8 := hr4.cell 8
      simp [pgCells] at x0 x1 x2 x3 x4 x5 x6 x7 x8 r0 r1 r2 r3 r4 r5 r6 r7 r8
      have g0 := hr4.frozen 0
      have g1 := hr4.frozen 1
      have g2 := hr4.frozen 2
      have g3 := hr4.frozen 3
      have g4 := hr4.frozen 4
      have g5 := hr4.frozen 5
      have g6 := hr4.frozen 6
      have g7 := hr4.frozen 7
      have g8 := hr4.frozen 8
      have HR := Lib.hid hr4
      have HB := Lib.hid hb4
      clear hx4 hr4 hb4
      go_wp2_with fail
      have q1 := fillP_blk HR.out ⟨v.e0.take 300, v.e1.take 300, v.e2.take 300, v.e3.take 300, v.e4.take 300, v.e5.take 300⟩ (base.take 300) (body.take 2000) esi
      have q2 := fillP_below HB.out (show P ≤ P + 1 by omega) ⟨v.e0.take 300, v.e1.take 300, v.e2.take 300, v.e3.take 300, v.e4.take 300, v.e5.take 300⟩ (base.take 300) (body.take 2000) esi
      change bodyPost _ _ _ _ _ (fillP w4 (P + 1) ⟨v.e0.take 300, v.e1.take 300, v.e2.take 300, v.e3.take 300, v.e4.take 300, v.e5.take 300⟩ (base.take 300) (body.take 2000) esi)
      refine bodyPost_ret (tfew_results rfl q1) rfl ⟨rfl, by rw [HPP.out]; exact q2⟩
    · go_simp
      refine hK_.out _ _ trivial fun _ => ?_
      clear hK_ K_
      refine wpAnyH_take (i := 8) (v := ?_) rfl (by kernel_rfl) (by kernel_rfl) (by kernel_rfl) (fun _ _ _ h => h) (Or.inl ⟨by rfl, ?_⟩) trivial ?_
      rotate_left
      · (intro w_ hS_; obtain _s := hS_; go_simp; try with_reducible rfl)
      refine wpAnyH_take (i := 9) (v := ?_) rfl (by kernel_rfl) (by kernel_rfl) (by kernel_rfl) (fun _ _ _ h => h) (Or.inl ⟨by rfl, ?_⟩) trivial ?_
      rotate_left
      · (intro w_ hS_; obtain _s := hS_; go_simp; try with_reducible rfl)
      refine wpAnyH_ready (rs := [5]) (by kernel_rfl) (by simp) ?_
      refine AllReadyH.cons rfl (fun K_ hK_ => ?_) AllReadyH.nil
      go_simp
      refine hK_.out _ _ trivial fun _ => ?_
      clear hK_ K_
      refine wpAnyH_take (i := 10) (v := ?_) rfl (by kernel_rfl) (by kernel_rfl) (by kernel_rfl) (fun _ _ _ h => h) (Or.inl ⟨by rfl, ?_⟩) trivial ?_
      rotate_left
      · (intro w_ hS_; obtain _s := hS_; go_simp; try with_reducible rfl)
      refine wpAnyH_take (i := 11) (v := ?_) rfl (by kernel_rfl) (by kernel_rfl) (by kernel_rfl) (fun _ _ _ h => h) (Or.inl ⟨by rfl, ?_⟩) trivial ?_
      rotate_left
      · (intro w_ hS_; obtain _s := hS_; go_simp; try with_reducible rfl)
      refine wpAnyH_ready (rs := [12]) (by kernel_rfl) (by simp) ?_
      refine AllReadyH.cons rfl (fun K_ hK_ => ?_) AllReadyH.nil
      go_simp
      refine hK_.out _ _ trivial fun _ => ?_
      clear hK_ K_
      refine wpAnyH_take (i := 13) (v := ?_) rfl (by kernel_rfl) (by kernel_rfl) (by kernel_rfl) (fun _ _ _ h => h) (Or.inl ⟨by rfl, ?_⟩) trivial ?_
      rotate_left
      · (intro w_ hS_; obtain _s := hS_; go_simp; try with_reducible rfl)
      refine wpAnyH_ready (rs := [14]) (by kernel_rfl) (by simp) ?_
      refine AllReadyH.cons rfl (fun K_ hK_ => ?_) AllReadyH.nil
      go_simp
      refine hK_.out _ _ trivial fun _ => ?_
      clear hK_ K_
      refine wpAnyH_done (by kernel_rfl) ?_ _
      have hx3 := (HX.out.set_ 6 (.string (bs (base.take 300)))).set_ 7 (.string (bs (body.take 2000)))
      have hr3 := (HR.out.far (p := ⟨P, 6, none⟩) (show P + 1 ≠ P by omega) (.string (bs (base.take 300)))).far (p := ⟨P, 7, none⟩) (show P + 1 ≠ P by omega) (.string (bs (body.take 2000)))
      have hb3 := (HB.out.setCell (p := ⟨P, 6, none⟩) (Nat.le_refl P) (.string (bs (base.take 300)))).setCell (p := ⟨P, 7, none⟩) (Nat.le_refl P) (.string (bs (body.take 2000)))
      change Exit.then _ _ Exit.normal _ (((w2.setCell ⟨P, 6, none⟩ (.string (bs (base.take 300)))).setCell ⟨P, 7, none⟩ (.string (bs (body.take 2000)))).drew.drew)
      generalize (w2.setCell ⟨P, 6, none⟩ (.string (bs (base.take 300)))).setCell ⟨P, 7, none⟩ (.string (bs (body.take 2000))) = w3 at *
      have hb4 := hb3.drew.drew
      have hr4 : Blk w3.drew.drew (P + 1) 25 _ := hr3
      have hx4 : Blk w3.drew.drew P 25 _ := hx3
      generalize w3.drew.drew = w4 at *
      have hx4 : Blk w4 P 25 (pgCells ⟨v.e0.take 300, v.e1.take 300, v.e2.take 300, v.e3.take 300, v.e4.take 300, v.e5.take 300⟩ (base.take 300) (body.take 2000) esi) := hx4
      clear c6 c7 f6 f7 HX HR HB hx3 hr3 hb3 hx hsz hmt hmt2 ht0 ht1
      have x0 := hx4.cell 0
      have x1 := hx4.cell 1
      have x2 := hx4.cell 2
      have x3 := hx4.cell 3
      have x4 := hx4.cell 4
      have x5 := hx4.cell 5
      have x6 := hx4.cell 6
      have x7 := hx4.cell 7
      have x8 := hx4.cell 8
      have r0 := hr4.cell 0
      have r1 := hr4.cell 1
      have r2 := hr4.cell 2
      have r3 := hr4.cell 3
      have r4 := hr4.cell 4
      have r5 := hr4.cell 5
      have r6 := hr4.cell 6
      have r7 := hr4.cell 7
      have r8 := hr4.cell 8
      simp [pgCells] at x0 x1 x2 x3 x4 x5 x6 x7 x8 r0 r1 r2 r3 r4 r5 r6 r7 r8
      have g0 := hr4.frozen 0
      have g1 := hr4.frozen 1
      have g2 := hr4.frozen 2
      have g3 := hr4.frozen 3
      have g4 := hr4.frozen 4
      have g5 := hr4.frozen 5
      have g6 := hr4.frozen 6
      have g7 := hr4.frozen 7
      have g8 := hr4.frozen 8
      have HR := Lib.hid hr4
      have HB := Lib.hid hb4
      clear hx4 hr4 hb4
      go_wp2_with fail
      have q1 := fillP_blk HR.out ⟨v.e0.take 300, v.e1.take 300, v.e2.take 300, v.e3.take 300, v.e4.take 300, v.e5.take 300⟩ (base.take 300) (body.take 2000) esi
      have q2 := fillP_below HB.out (show P ≤ P + 1 by omega) ⟨v.e0.take 300, v.e1.take 300, v.e2.take 300, v.e3.take 300, v.e4.take 300, v.e5.take 300⟩ (base.take 300) (body.take 2000) esi
      change bodyPost _ _ _ _ _ (fillP w4 (P + 1) ⟨v.e0.take 300, v.e1.take 300, v.e2.take 300, v.e3.take 300, v.e4.take 300, v.e5.take 300⟩ (base.take 300) (body.take 2000) esi)
      refine bodyPost_ret (tfew_results rfl q1) rfl ⟨rfl, by rw [HPP.out]; exact q2⟩
  · go_simp
    refine hK_.out _ _ trivial fun _ => ?_
    clear hK_ K_
    refine wpAnyH_ready (rs := [2, 7]) (by kernel_rfl) (by simp) ?_
    refine AllReadyH.cons rfl (fun K_ hK_ => ?_) (AllReadyH.cons rfl (fun K_ hK_ => ?_) AllReadyH.nil)
    · go_simp
      refine hK_.out _ _ trivial fun _ => ?_
      clear hK_ K_
      refine wpAnyH_ask (i := 3) (v := _) rfl (by kernel_rfl) (by kernel_rfl) (by kernel_rfl) (fun _ _ _ h => h) ⟨by kernel_rfl, _, _, ?_, fun w_ hS_ => fewcut_calls base w_⟩ trivial ?_
      · (intro w_; go_simp; try with_reducible rfl)
      refine wpAnyH_ready (rs := [7]) (by kernel_rfl) (by simp) ?_
      refine AllReadyH.cons rfl (fun K_ hK_ => ?_) AllReadyH.nil
      go_simp
      refine hK_.out _ _ trivial fun _ => ?_
      clear hK_ K_
      refine wpAnyH_take (i := 8) (v := ?_) rfl (by kernel_rfl) (by kernel_rfl) (by kernel_rfl) (fun _ _ _ h => h) (Or.inl ⟨by rfl, ?_⟩) trivial ?_
      rotate_left
      · (intro w_ hS_; obtain _s := hS_; go_simp; try with_reducible rfl)
      refine wpAnyH_take (i := 9) (v := ?_) rfl (by kernel_rfl) (by kernel_rfl) (by kernel_rfl) (fun _ _ _ h => h) (Or.inl ⟨by rfl, ?_⟩) trivial ?_
      rotate_left
      · (intro w_ hS_; obtain _s := hS_; go_simp; try with_reducible rfl)
      refine wpAnyH_take (i := 10) (v := ?_) rfl (by kernel_rfl) (by kernel_rfl) (by kernel_rfl) (fun _ _ _ h => h) (Or.inl ⟨by rfl, ?_⟩) trivial ?_
      rotate_left
      · (intro w_ hS_; obtain _s := hS_; go_simp; try with_reducible rfl)
      refine wpAnyH_take (i := 11) (v := ?_) rfl (by kernel_rfl) (by kernel_rfl) (by kernel_rfl) (fun _ _ _ h => h) (Or.inl ⟨by rfl, ?_⟩) trivial ?_
      rotate_left
      · (intro w_ hS_; obtain _s := hS_; go_simp; try with_reducible rfl)
      refine wpAnyH_ready (rs := [12]) (by kernel_rfl) (by simp) ?_
      refine AllReadyH.cons rfl (fun K_ hK_ => ?_) AllReadyH.nil
      go_simp
      refine hK_.out _ _ trivial fun _ => ?_
      clear hK_ K_
      refine wpAnyH_take (i := 13) (v := ?_) rfl (by kernel_rfl) (by kernel_rfl) (by kernel_rfl) (fun _ _ _ h => h) (Or.inl ⟨by rfl, ?_⟩) trivial ?_
      rotate_left
      · (intro w_ hS_; obtain _s := hS_; go_simp; try with_reducible rfl)
      refine wpAnyH_ready (rs := [14]) (by kernel_rfl) (by simp) ?_
      refine AllReadyH.cons rfl (fun K_ hK_ => ?_) AllReadyH.nil
      go_simp
      refine hK_.out _ _ trivial fun _ => ?_
      clear hK_ K_
      refine wpAnyH_done (by kernel_rfl) ?_ _
      have hx3 := (HX.out.set_ 6 (.string (bs (base.take 300)))).set_ 7 (.string (bs (body.take 2000)))
      have hr3 := (HR.out.far (p := ⟨P, 6, none⟩) (show P + 1 ≠ P by omega) (.string (bs (base.take 300)))).far (p := ⟨P, 7, none⟩) (show P + 1 ≠ P by omega) (.string (bs (body.take 2000)))
      have hb3 := (HB.out.setCell (p := ⟨P, 6, none⟩) (Nat.le_refl P) (.string (bs (base.take 300)))).setCell (p := ⟨P, 7, none⟩) (Nat.le_refl P) (.string (bs (body.take 2000)))
      change Exit.then _ _ Exit.normal _ (((w2.setCell ⟨P, 6, none⟩ (.string (bs (base.take 300)))).setCell ⟨P, 7, none⟩ (.string (bs (body.take 2000)))).drew.drew)
      generalize (w2.setCell ⟨P, 6, none⟩ (.string (bs (base.take 300)))).setCell ⟨P, 7, none⟩ (.string (bs (body.take 2000))) = w3 at *
      have hb4 := hb3.drew.drew
      have hr4 : Blk w3.drew.drew (P + 1) 25 _ := hr3
      have hx4 : Blk w3.drew.drew P 25 _ := hx3
      generalize w3.drew.drew = w4 at *
      have hx4 : Blk w4 P 25 (pgCells ⟨v.e0.take 300, v.e1.take 300, v.e2.take 300, v.e3.take 300, v.e4.take 300, v.e5.take 300⟩ (base.take 300) (body.take 2000) esi) := hx4
      clear c6 c7 f6 f7 HX HR HB hx3 hr3 hb3 hx hsz hmt hmt2 ht0 ht1
      have x0 := hx4.cell 0
      have x1 := hx4.cell 1
      have x2 := hx4.cell 2
      have x3 := hx4.cell 3
      have x4 := hx4.cell 4
      have x5 := hx4.cell 5
      have x6 := hx4.cell 6
      have x7 := hx4.cell 7
      have x8 := hx4.cell 8
      have r0 := hr4.cell 0
      have r1 := hr4.cell 1
      have r2 := hr4.cell 2
      have r3 := hr4.cell 3
      have r4 := hr4.cell 4
      have r5 := hr4.cell 5
      have r6 := hr4.cell 6
      have r7 := hr4.cell 7
      have r8 := hr4.cell 8
      simp [pgCells] at x0 x1 x2 x3 x4 x5 x6 x7 x8 r0 r1 r2 r3 r4 r5 r6 r7 r8
      have g0 := hr4.frozen 0
      have g1 := hr4.frozen 1
      have g2 := hr4.frozen 2
      have g3 := hr4.frozen 3
      have g4 := hr4.frozen 4
      have g5 := hr4.frozen 5
      have g6 := hr4.frozen 6
      have g7 := hr4.frozen 7
      have g8 := hr4.frozen 8
      have HR := Lib.hid hr4
      have HB := Lib.hid hb4
      clear hx4 hr4 hb4
      go_wp2_with fail
      have q1 := fillP_blk HR.out ⟨v.e0.take 300, v.e1.take 300, v.e2.take 300, v.e3.take 300, v.e4.take 300, v.e5.take 300⟩ (base.take 300) (body.take 2000) esi
      have q2 := fillP_below HB.out (show P ≤ P + 1 by omega) ⟨v.e0.take 300, v.e1.take 300, v.e2.take 300, v.e3.take 300, v.e4.take 300, v.e5.take 300⟩ (base.take 300) (body.take 2000) esi
      change bodyPost _ _ _ _ _ (fillP w4 (P + 1) ⟨v.e0.take 300, v.e1.take 300, v.e2.take 300, v.e3.take 300, v.e4.take 300, v.e5.take 300⟩ (base.take 300) (body.take 2000) esi)
      refine bodyPost_ret (tfew_results rfl q1) rfl ⟨rfl, by rw [HPP.out]; exact q2⟩
    · go_simp
      refine hK_.out _ _ trivial fun _ => ?_
      clear hK_ K_
      refine wpAnyH_take (i := 8) (v := ?_) rfl (by kernel_rfl) (by kernel_rfl) (by kernel_rfl) (fun _ _ _ h => h) (Or.inl ⟨by rfl, ?_⟩) trivial ?_
      rotate_left
      · (intro w_ hS_; obtain _s := hS_; go_simp; try with_reducible rfl)
      refine wpAnyH_take (i := 9) (v := ?_) rfl (by kernel_rfl) (by kernel_rfl) (by kernel_rfl) (fun _ _ _ h => h) (Or.inl ⟨by rfl, ?_⟩) trivial ?_
      rotate_left
      · (intro w_ hS_; obtain _s := hS_; go_simp; try with_reducible rfl)
      refine wpAnyH_take (i := 10) (v := ?_) rfl (by kernel_rfl) (by kernel_rfl) (by kernel_rfl) (fun _ _ _ h => h) (Or.inl ⟨by rfl, ?_⟩) trivial ?_
      rotate_left
      · (intro w_ hS_; obtain _s := hS_; go_simp; try with_reducible rfl)
      refine wpAnyH_ready (rs := [2]) (by kernel_rfl) (by simp) ?_
      refine AllReadyH.cons rfl (fun K_ hK_ => ?_) AllReadyH.nil
      go_simp
      refine hK_.out _ _ trivial fun _ => ?_
      clear hK_ K_
      refine wpAnyH_ask (i := 3) (v := _) rfl (by kernel_rfl) (by kernel_rfl) (by kernel_rfl) (fun _ _ _ h => h) ⟨by kernel_rfl, _, _, ?_, fun w_ hS_ => fewcut_calls base w_⟩ trivial ?_
      · (intro w_; go_simp; try with_reducible rfl)
      refine wpAnyH_take (i := 11) (v := ?_) rfl (by kernel_rfl) (by kernel_rfl) (by kernel_rfl) (fun _ _ _ h => h) (Or.inl ⟨by rfl, ?_⟩) trivial ?_
      rotate_left
      · (intro w_ hS_; obtain _s := hS_; go_simp; try with_reducible rfl)
      refine wpAnyH_ready (rs := [12]) (by kernel_rfl) (by simp) ?_
      refine AllReadyH.cons rfl (fun K_ hK_ => ?_) AllReadyH.nil
      go_simp
      refine hK_.out _ _ trivial fun _ => ?_
      clear hK_ K_
      refine wpAnyH_take (i := 13) (v := ?_) rfl (by kernel_rfl) (by kernel_rfl) (by kernel_rfl) (fun _ _ _ h => h) (Or.inl ⟨by rfl, ?_⟩) trivial ?_
      rotate_left
      · (intro w_ hS_; obtain _s := hS_; go_simp; try with_reducible rfl)
      refine wpAnyH_ready (rs := [14]) (by kernel_rfl) (by simp) ?_
      refine AllReadyH.cons rfl (fun K_ hK_ => ?_) AllReadyH.nil
      go_simp
      refine hK_.out _ _ trivial fun _ => ?_
      clear hK_ K_
      refine wpAnyH_done (by kernel_rfl) ?_ _
      have hx3 := (HX.out.set_ 6 (.string (bs (base.take 300)))).set_ 7 (.string (bs (body.take 2000)))
      have hr3 := (HR.out.far (p := ⟨P, 6, none⟩) (show P + 1 ≠ P by omega) (.string (bs (base.take 300)))).far (p := ⟨P, 7, none⟩) (show P + 1 ≠ P by omega) (.string (bs (body.take 2000)))
      have hb3 := (HB.out.setCell (p := ⟨P, 6, none⟩) (Nat.le_refl P) (.string (bs (base.take 300)))).setCell (p := ⟨P, 7, none⟩) (Nat.le_refl P) (.string (bs (body.take 2000)))
      change Exit.then _ _ Exit.normal _ (((w2.setCell ⟨P, 6, none⟩ (.string (bs (base.take 300)))).setCell ⟨P, 7, none⟩ (.string (bs (body.take 2000)))).drew.drew)
      generalize (w2.setCell ⟨P, 6, none⟩ (.string (bs (base.take 300)))).setCell ⟨P, 7, none⟩ (.string (bs (body.take 2000))) = w3 at *
      have hb4 := hb3.drew.drew
      have hr4 : Blk w3.drew.drew (P + 1) 25 _ := hr3
      have hx4 : Blk w3.drew.drew P 25 _ := hx3
      generalize w3.drew.drew = w4 at *
      have hx4 : Blk w4 P 25 (pgCells ⟨v.e0.take 300, v.e1.take 300, v.e2.take 300, v.e3.take 300, v.e4.take 300, v.e5.take 300⟩ (base.take 300) (body.take 2000) esi) := hx4
      clear c6 c7 f6 f7 HX HR HB hx3 hr3 hb3 hx hsz hmt hmt2 ht0 ht1
      have x0 := hx4.cell 0
      have x1 := hx4.cell 1
      have x2 := hx4.cell 2
      have x3 := hx4.cell 3
      have x4 := hx4.cell 4
      have x5 := hx4.cell 5
      have x6 := hx4.cell 6
      have x7 := hx4.cell 7
      have x8 := hx4.cell 8
      have r0 := hr4.cell 0
      have r1 := hr4.cell 1
      have r2 := hr4.cell 2
      have r3 := hr4.cell 3
      have r4 := hr4.cell 4
      have r5 := hr4.cell 5
      have r6 := hr4.cell 6
      have r7 := hr4.cell 7
      have r8 := hr4.cell 8
      simp [pgCells] at x0 x1 x2 x3 x4 x5 x6 x7 x8 r0 r1 r2 r3 r4 r5 r6 r7 r8
      have g0 := hr4.frozen 0
      have g1 := hr4.frozen 1
      have g2 := hr4.frozen 2
      have g3 := hr4.frozen 3
      have g4 := hr4.frozen 4
      have g5 := hr4.frozen 5
      have g6 := hr4.frozen 6
      have g7 := hr4.frozen 7
      have g8 := hr4.frozen 8
      have HR := Lib.hid hr4
      have HB := Lib.hid hb4
      clear hx4 hr4 hb4
      go_wp2_with fail
      have q1 := fillP_blk HR.out ⟨v.e0.take 300, v.e1.take 300, v.e2.take 300, v.e3.take 300, v.e4.take 300, v.e5.take 300⟩ (base.take 300) (body.take 2000) esi
      have q2 := fillP_below HB.out (show P ≤ P + 1 by omega) ⟨v.e0.take 300, v.e1.take 300, v.e2.take 300, v.e3.take 300, v.e4.take 300, v.e5.take 300⟩ (base.take 300) (body.take 2000) esi
      change bodyPost _ _ _ _ _ (fillP w4 (P + 1) ⟨v.e0.take 300, v.e1.take 300, v.e2.take 300, v.e3.take 300, v.e4.take 300, v.e5.take 300⟩ (base.take 300) (body.take 2000) esi)
      refine bodyPost_ret (tfew_results rfl q1) rfl ⟨rfl, by rw [HPP.out]; exact q2⟩
  · go_simp
    refine hK_.out _ _ trivial fun _ => ?_
    clear hK_ K_
    refine wpAnyH_take (i := 8) (v := ?_) rfl (by kernel_rfl) (by kernel_rfl) (by kernel_rfl) (fun _ _ _ h => h) (Or.inl ⟨by rfl, ?_⟩) trivial ?_
    rotate_left
    · (intro w_ hS_; obtain _s := hS_; go_simp; try with_reducible rfl)
    refine wpAnyH_take (i := 9) (v := ?_) rfl (by kernel_rfl) (by kernel_rfl) (by kernel_rfl) (fun _ _ _ h => h) (Or.inl ⟨by rfl, ?_⟩) trivial ?_
    rotate_left
    · (intro w_ hS_; obtain _s := hS_; go_simp; try with_reducible rfl)
    refine wpAnyH_ready (rs := [2, 5]) (by kernel_rfl) (by simp) ?_
    refine AllReadyH.cons rfl (fun K_ hK_ => ?_) (AllReadyH.cons rfl (fun K_ hK_ => ?_) AllReadyH.nil)
    · go_simp
      refine hK_.out _ _ trivial fun _ => ?_
      clear hK_ K_
      refine wpAnyH_ask (i := 3) (v := _) rfl (by kernel_rfl) (by kernel_rfl) (by kernel_rfl) (fun _ _ _ h => h) ⟨by kernel_rfl, _, _, ?_, fun w_ hS_ => fewcut_calls base w_⟩ trivial ?_
      · (intro w_; go_simp; try with_reducible rfl)
      refine wpAnyH_ready (rs := [5]) (by kernel_rfl) (by simp) ?_
      refine AllReadyH.cons rfl (fun K_ hK_ => ?_) AllReadyH.nil
      go_simp
      refine hK_.out _ _ trivial fun _ => ?_
      clear hK_ K_
      refine wpAnyH_take (i := 10) (v := ?_) rfl (by kernel_rfl) (by kernel_rfl) (by kernel_rfl) (fun _ _ _ h => h) (Or.inl ⟨by rfl, ?_⟩) trivial ?_
      rotate_left
      · (intro w_ hS_; obtain _s := hS_; go_simp; try with_reducible rfl)
      refine wpAnyH_take (i := 11) (v := ?_) rfl (by kernel_rfl) (by kernel_rfl) (by kernel_rfl) (fun _ _ _ h => h) (Or.inl ⟨by rfl, ?_⟩) trivial ?_
      rotate_left
      · (intro w_ hS_; obtain _s := hS_; go_simp; try with_reducible rfl)
      refine wpAnyH_ready (rs := [12]) (by kernel_rfl) (by simp) ?_
      refine AllReadyH.cons rfl (fun K_ hK_ => ?_) AllReadyH.nil
      go_simp
      refine hK_.out _ _ trivial fun _ => ?_
      clear hK_ K_
      refine wpAnyH_take (i := 13) (v := ?_) rfl (by kernel_rfl) (by kernel_rfl) (by kernel_rfl) (fun _ _ _ h => h) (Or.inl ⟨by rfl, ?_⟩) trivial ?_
      rotate_left
      · (intro w_ hS_; obtain _s := hS_; go_simp; try with_reducible rfl)
      refine wpAnyH_ready (rs := [14]) (by kernel_rfl) (by simp) ?_
      refine AllReadyH.cons rfl (fun K_ hK_ => ?_) AllReadyH.nil
      go_simp
      refine hK_.out _ _ trivial fun _ => ?_
      clear hK_ K_
      refine wpAnyH_done (by kernel_rfl) ?_ _
      have hx3 := (HX.out.set_ 6 (.string (bs (base.take 300)))).set_ 7 (.string (bs (body.take 2000)))
      have hr3 := (HR.out.far (p := ⟨P, 6, none⟩) (show P + 1 ≠ P by omega) (.string (bs (base.take 300)))).far (p := ⟨P, 7, none⟩) (show P + 1 ≠ P by omega) (.string (bs (body.take 2000)))
      have hb3 := (HB.out.setCell (p := ⟨P, 6, none⟩) (Nat.le_refl P) (.string (bs (base.take 300)))).setCell (p := ⟨P, 7, none⟩) (Nat.le_refl P) (.string (bs (body.take 2000)))
      change Exit.then _ _ Exit.normal _ (((w2.setCell ⟨P, 6, none⟩ (.string (bs (base.take 300)))).setCell ⟨P, 7, none⟩ (.string (bs (body.take 2000)))).drew.drew)
      generalize (w2.setCell ⟨P, 6, none⟩ (.string (bs (base.take 300)))).setCell ⟨P, 7, none⟩ (.string (bs (body.take 2000))) = w3 at *
      have hb4 := hb3.drew.drew
      have hr4 : Blk w3.drew.drew (P + 1) 25 _ := hr3
      have hx4 : Blk w3.drew.drew P 25 _ := hx3
      generalize w3.drew.drew = w4 at *
      have hx4 : Blk w4 P 25 (pgCells ⟨v.e0.take 300, v.e1.take 300, v.e2.take 300, v.e3.take 300, v.e4.take 300, v.e5.take 300⟩ (base.take 300) (body.take 2000) esi) := hx4
      clear c6 c7 f6 f7 HX HR HB hx3 hr3 hb3 hx hsz hmt hmt2 ht0 ht1
      have x0 := hx4.cell 0
      have x1 := hx4.cell 1
      have x2 := hx4.cell 2
      have x3 := hx4.cell 3
      have x4 := hx4.cell 4
      have x5 := hx4.cell 5
      have x6 := hx4.cell 6
      have x7 := hx4.cell 7
      have x8 := hx4.cell 8
      have r0 := hr4.cell 0
      have r1 := hr4.cell 1
      have r2 := hr4.cell 2
      have r3 := hr4.cell 3
      have r4 := hr4.cell 4
      have r5 := hr4.cell 5
      have r6 := hr4.cell 6
      have r7 := hr4.cell 7
      have r8 := hr4.cell 8
      simp [pgCells] at x0 x1 x2 x3 x4 x5 x6 x7 x8 r0 r1 r2 r3 r4 r5 r6 r7 r8
      have g0 := hr4.frozen 0
      have g1 := hr4.frozen 1
      have g2 := hr4.frozen 2
      have g3 := hr4.frozen 3
      have g4 := hr4.frozen 4
      have g5 := hr4.frozen 5
      have g6 := hr4.frozen 6
      have g7 := hr4.frozen 7
      have g8 := hr4.frozen 8
      have HR := Lib.hid hr4
      have HB := Lib.hid hb4
      clear hx4 hr4 hb4
      go_wp2_with fail
      have q1 := fillP_blk HR.out ⟨v.e0.take 300, v.e1.take 300, v.e2.take 300, v.e3.take 300, v.e4.take 300, v.e5.take 300⟩ (base.take 300) (body.take 2000) esi
      have q2 := fillP_below HB.out (show P ≤ P + 1 by omega) ⟨v.e0.take 300, v.e1.take 300, v.e2.take 300, v.e3.take 300, v.e4.take 300, v.e5.take 300⟩ (base.take 300) (body.take 2000) esi
      change bodyPost _ _ _ _ _ (fillP w4 (P + 1) ⟨v.e0.take 300, v.e1.take 300, v.e2.take 300, v.e3.take 300, v.e4.take 300, v.e5.take 300⟩ (base.take 300) (body.take 2000) esi)
      refine bodyPost_ret (tfew_results rfl q1) rfl ⟨rfl, by rw [HPP.out]; exact q2⟩
    · go_simp
      refine hK_.out _ _ trivial fun _ => ?_
      clear hK_ K_
      refine wpAnyH_take (i := 10) (v := ?_) rfl (by kernel_rfl) (by kernel_rfl) (by kernel_rfl) (fun _ _ _ h => h) (Or.inl ⟨by rfl, ?_⟩) trivial ?_
      rotate_left
      · (intro w_ hS_; obtain _s := hS_; go_simp; try with_reducible rfl)
      refine wpAnyH_ready (rs := [2]) (by kernel_rfl) (by simp) ?_
      refine AllReadyH.cons rfl (fun K_ hK_ => ?_) AllReadyH.nil
      go_simp
      refine hK_.out _ _ trivial fun _ => ?_
      clear hK_ K_
      refine wpAnyH_ask (i := 3) (v := _) rfl (by kernel_rfl) (by kernel_rfl) (by kernel_rfl) (fun _ _ _ h => h) ⟨by kernel_rfl, _, _, ?_, fun w_ hS_ => fewcut_calls base w_⟩ trivial ?_
      · (intro w_; go_simp; try with_reducible rfl)
      refine wpAnyH_take (i := 11) (v := ?_) rfl (by kernel_rfl) (by kernel_rfl) (by kernel_rfl) (fun _ _ _ h => h) (Or.inl ⟨by rfl, ?_⟩) trivial ?_
      rotate_left
      · (intro w_ hS_; obtain _s := hS_; go_simp; try with_reducible rfl)
      refine wpAnyH_ready (rs := [12]) (by kernel_rfl) (by simp) ?_
      refine AllReadyH.cons rfl (fun K_ hK_ => ?_) AllReadyH.nil
      go_simp
      refine hK_.out _ _ trivial fun _ => ?_
      clear hK_ K_
      refine wpAnyH_take (i := 13) (v := ?_) rfl (by kernel_rfl) (by kernel_rfl) (by kernel_rfl) (fun _ _ _ h => h) (Or.inl ⟨by rfl, ?_⟩) trivial ?_
      rotate_left
      · (intro w_ hS_; obtain _s := hS_; go_simp; try with_reducible rfl)
      refine wpAnyH_ready (rs := [14]) (by kernel_rfl) (by simp) ?_
      refine AllReadyH.cons rfl (fun K_ hK_ => ?_) AllReadyH.nil
      go_simp
      refine hK_.out _ _ trivial fun _ => ?_
      clear hK_ K_
      refine wpAnyH_done (by kernel_rfl) ?_ _
      have hx3 := (HX.out.set_ 6 (.string (bs (base.take 300)))).set_ 7 (.string (bs (body.take 2000)))
      have hr3 := (HR.out.far (p := ⟨P, 6, none⟩) (show P + 1 ≠ P by omega) (.string (bs (base.take 300)))).far (p := ⟨P, 7, none⟩) (show P + 1 ≠ P by omega) (.string (bs (body.take 2000)))
      have hb3 := (HB.out.setCell (p := ⟨P, 6, none⟩) (Nat.le_refl P) (.string (bs (base.take 300)))).setCell (p := ⟨P, 7, none⟩) (Nat.le_refl P) (.string (bs (body.take 2000)))
      change Exit.then _ _ Exit.normal _ (((w2.setCell ⟨P, 6, none⟩ (.string (bs (base.take 300)))).setCell ⟨P, 7, none⟩ (.string (bs (body.take 2000)))).drew.drew)
      generalize (w2.setCell ⟨P, 6, none⟩ (.string (bs (base.take 300)))).setCell ⟨P, 7, none⟩ (.string (bs (body.take 2000))) = w3 at *
      have hb4 := hb3.drew.drew
      have hr4 : Blk w3.drew.drew (P + 1) 25 _ := hr3
      have hx4 : Blk w3.drew.drew P 25 _ := hx3
      generalize w3.drew.drew = w4 at *
      have hx4 : Blk w4 P 25 (pgCells ⟨v.e0.take 300, v.e1.take 300, v.e2.take 300, v.e3.take 300, v.e4.take 300, v.e5.take 300⟩ (base.take 300) (body.take 2000) esi) := hx4
      clear c6 c7 f6 f7 HX HR HB hx3 hr3 hb3 hx hsz hmt hmt2 ht0 ht1
      have x0 := hx4.cell 0
      have x1 := hx4.cell 1
      have x2 := hx4.cell 2
      have x3 := hx4.cell 3
      have x4 := hx4.cell 4
      have x5 := hx4.cell 5
      have x6 := hx4.cell 6
      have x7 := hx4.cell 7
      have x8 := hx4.cell 8
      have r0 := hr4.cell 0
      have r1 := hr4.cell 1
      have r2 := hr4.cell 2
      have r3 := hr4.cell 3
      have r4 := hr4.cell 4
      have r5 := hr4.cell 5
      have r6 := hr4.cell 6
      have r7 := hr4.cell 7
      have r8 := hr4.cell 8
      simp [pgCells] at x0 x1 x2 x3 x4 x5 x6 x7 x8 r0 r1 r2 r3 r4 r5 r6 r7 r8
      have g0 := hr4.frozen 0
      have g1 := hr4.frozen 1
      have g2 := hr4.frozen 2
      have g3 := hr4.frozen 3
      have g4 := hr4.frozen 4
      have g5 := hr4.frozen 5
      have g6 := hr4.frozen 6
      have g7 := hr4.frozen 7
      have g8 := hr4.frozen 8
      have HR := Lib.hid hr4
      have HB := Lib.hid hb4
      clear hx4 hr4 hb4
      go_wp2_with fail
      have q1 := fillP_blk HR.out ⟨v.e0.take 300, v.e1.take 300, v.e2.take 300, v.e3.take 300, v.e4.take 300, v.e5.take 300⟩ (base.take 300) (body.take 2000) esi
      have q2 := fillP_below HB.out (show P ≤ P + 1 by omega) ⟨v.e0.take 300, v.e1.take 300, v.e2.take 300, v.e3.take 300, v.e4.take 300, v.e5.take 300⟩ (base.take 300) (body.take 2000) esi
      change bodyPost _ _ _ _ _ (fillP w4 (P + 1) ⟨v.e0.take 300, v.e1.take 300, v.e2.take 300, v.e3.take 300, v.e4.take 300, v.e5.take 300⟩ (base.take 300) (body.take 2000) esi)
      refine bodyPost_ret (tfew_results rfl q1) rfl ⟨rfl, by rw [HPP.out]; exact q2⟩
end Go.Proofs.YtijpfcjlochahaaGreatDoor
namespace Go.Proofs.YtijpfcjlochahaaGreatDoor
open Go Go.RowKit
set_option linter.unusedVariables false
set_option linter.unusedSimpArgs false

theorem trun_results {w : World} {X : Nat} {tmps : Array Value} {r : Res} (h4 : tmps[6]?.getD undef = .pointer (some ⟨X, 0, none⟩)) (B0 : Blk w X 31 (rCells r)) :
    (results Tryz.f16 tmps).run Tryz.prog w = .ok r.val w := by
  have a0 := B0.cell 0
  have a1 := B0.cell 1
  have a2 := B0.cell 2
  have a3 := B0.cell 3
  simp [rCells] at a0 a1 a2 a3
  simp [results, Tryz.results16, go_sem, h4, a0, a1, a2, a3, Res.val]
theorem res_same (o q : ByteArray) (s e : Int) (W : World) : (binOp .eql 31 (.agg #[.string o, .int .i64 s, .int .i64 e, .string q]) (.agg #[.string o, .int .i64 s, .int .i64 e, .string q])).run Tryz.prog W = .ok (.bool true) W := by
  have u3 := Tryz.underlying3
  have u9 := Tryz.underlying9
  have u29 := Tryz.underlying29
  have hS : Tryz.prog.underlying 31 = some (.struct (Tryz.prog.fieldsOf 31)) := by kernel_rfl
  rw [run_eql_struct, show (10000 : Nat) = 9999 + 1 from rfl, run_equalIn_agg W 9999 31 _ _ hS (by kernel_rfl)]
  simp only [Program.fieldsOf, Tryz.underlying31]
  go_simp
set_option maxRecDepth 20000 in
set_option maxHeartbeats 4000000 in
theorem trun_calls (v : EnvD) (D : Dep) (base body0 body : List UInt8) (esi : Bool) (rv : Value) (F : Nat → Prop) (hb : ParseOk base) (hf : D.full = false) (hreps : RepsOk v D) (hok : (readF body).2 = 0 → okL v D (readF body).1) (hbl : body.length ≤ 90000)
    (w : World) (hg : Glob w) (hrv : GR w F (.row 5 (D.replies.map Rep.gv)) [rv]) :
    Calls Tryz.prog 16 #[pageV v base body0 esi, .string (bs body), rv] w fun e w' => e = .returned (erunF D base body esi).1.val ∧ Below w.heap.size w w' := by
  have HRN := Lib.hid (fun W hg hr => erun_calls v D base body esi rv (fun k => F k ∧ k < w.heap.size) hb hf hreps hok hbl W hg hr)
  clear hb hf hreps hok hbl
  have hal0 : Below w.heap.size w (w.alloc (.cells (pgCells v base body0 esi) 25)) := (Below.refl _ _).alloc (Nat.le_refl _) _
  have hal := hal0.alloc hal0.size (.cells (rCells res0) 31)
  have h1 := Blk.new w 25 (pgCells v base body0 esi)
  have h2 := Blk.new (w.alloc (.cells (pgCells v base body0 esi) 25)) 31 (rCells res0)
  rw [size_alloc] at h2
  have HX := Lib.hid (h1.alloc (.cells (rCells res0) 31))
  have HR := Lib.hid h2
  have HB := Lib.hid hal
  have HG := Lib.hid (fun W (hb : Below w.heap.size w W) => hg.below hb)
  have HRV := Lib.hid (fun W (hb : Below w.heap.size w W) => (GR.lt_heap _ _ hrv).below hb)
  clear hal0 hal h1 h2 hg hrv
  generalize erunF D base body esi = Z at *
  obtain ⟨r, ee⟩ := Z
  simp only [pageV, Res.val] at *
  go_enter Tryz.func16, Tryz.ntmps16
  go_upto_region 1 with (fail)
  change Code.wp _ _ _ _ ((w.alloc (.cells (pgCells v base body0 esi) 25)).alloc (.cells (rCells res0) 31))
  generalize (w.alloc (.cells (pgCells v base body0 esi) 25)).alloc (.cells (rCells res0) 31) = w0 at *
  generalize hPP : w.heap.size = P at *
  have HPP := Lib.hid hPP
  clear hPP
  have HR : Hid (Blk w0 (P + 1) 31 (rCells res0)) := HR
  have x7 := HX.out.cell 7
  simp [pgCells] at x7
  have f7 := HX.out.frozen 7
  go_upto_region 2 with (fail)
  clear x7 f7
  have hx : Blk (w0.setCell ⟨P, 7, none⟩ (.string (bs body))) P 25 (pgCells v base body esi) := HX.out.set_ 7 (.string (bs body))
  have hr := HR.out.far (p := ⟨P, 7, none⟩) (show P + 1 ≠ P by omega) (.string (bs body))
  have hbb := HB.out.setCell (p := ⟨P, 7, none⟩) (Nat.le_refl P) (.string (bs body))
  change Code.wp _ _ _ _ (w0.setCell ⟨P, 7, none⟩ (.string (bs body)))
  have hgg := HG.out _ hbb
  have hrv := HRV.out _ hbb
  generalize w0.setCell ⟨P, 7, none⟩ (.string (bs body)) = w1 at *
  clear HX HR HB HG HRV
  have HX := Lib.hid hx
  have HR := Lib.hid hr
  have HB := Lib.hid hbb
  have HG := Lib.hid hgg
  have HRV := Lib.hid hrv
  clear hx hr hbb hgg hrv
  have x0 := HX.out.cell 0
  have x1 := HX.out.cell 1
  have x2 := HX.out.cell 2
  have x3 := HX.out.cell 3
  have x4 := HX.out.cell 4
  have x5 := HX.out.cell 5
  have x6 := HX.out.cell 6
  have x7 := HX.out.cell 7
  have x8 := HX.out.cell 8
  simp [pgCells] at x0 x1 x2 x3 x4 x5 x6 x7 x8
  go_wp2_with fail
  refine (HRN.out w1 HG.out HRV.out).mono ?_
  rintro e w2 ⟨rfl, hb2⟩
  have hr := HR.out.below hb2 HR.out.lt
  have hbb := HB.out.trans (hb2.mono (by have := HB.out.size; rw [HPP.out] at this; exact this))
  clear x0 x1 x2 x3 x4 x5 x6 x7 x8 HX HR HB HG HRV HRN hb2
  have HR := Lib.hid hr
  have HB := Lib.hid hbb
  clear hr hbb
  go_upto_region 3 with (fail)
  have hal : Below w2.heap.size w2 (w2.alloc (.cells (rCells r) 31)) := (Below.refl _ _).alloc (Nat.le_refl _) _
  have hr := HR.out.below hal HR.out.lt
  have hbb := HB.out.trans (hal.mono (by have := HB.out.size; rw [HPP.out] at this; exact this))
  have HN := Lib.hid (Blk.new w2 31 (rCells r))
  change Code.wp _ _ _ _ (w2.alloc (.cells (rCells r) 31))
  generalize w2.alloc (.cells (rCells r) 31) = w3 at *
  generalize w2.heap.size = N at *
  clear HR HB hal
  have HR := Lib.hid hr
  have HB := Lib.hid hbb
  clear hr hbb
  have r0 := HR.out.cell 0
  have r1 := HR.out.cell 1
  have r2 := HR.out.cell 2
  have r3 := HR.out.cell 3
  have n0 := HN.out.cell 0
  have n1 := HN.out.cell 1
  have n2 := HN.out.cell 2
  have n3 := HN.out.cell 3
  simp [rCells] at r0 r1 r2 r3 n0 n1 n2 n3
  have f0 := HR.out.frozen 0
  have f1 := HR.out.frozen 1
  have f2 := HR.out.frozen 2
  have f3 := HR.out.frozen 3
  go_wp2_with fail
  have q1 := fill4_blk HR.out r
  have q2 := fill4_below HB.out (show P ≤ P + 1 by omega) r
  change bodyPost _ _ _ _ _ (fill4 w3 (P + 1) r)
  refine bodyPost_ret (trun_results rfl q1) rfl ⟨rfl, by rw [HPP.out]; exact q2⟩
end Go.Proofs.YtijpfcjlochahaaGreatDoor
