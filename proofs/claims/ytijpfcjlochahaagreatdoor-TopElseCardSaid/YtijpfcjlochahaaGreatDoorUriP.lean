/- The walks of uri's path, place, Print. -/
import Derived.Test.YtijpfcjlochahaaGreatDoorUriR
import Derived.Deep.CutRange
set_option linter.unusedVariables false
set_option linter.unusedSimpArgs false
namespace Go.Proofs.YtijpfcjlochahaaGreatDoor
open Go Go.RowKit
set_option linter.unusedVariables false
set_option linter.unusedSimpArgs false

theorem below_drewN {B : Nat} {a w : World} (h : Below B a w) (n : Nat) : Below B a (w.drewN n) := ⟨h.os, h.tape, h.output, h.size, h.block⟩
/-- An address is stored. -/
def fill6 (W : World) (R : Nat) (u : UriD) : World :=
  (((((W.setCell ⟨R, 0, none⟩ (.bool u.abs)).setCell ⟨R, 1, none⟩ (.string (bs u.host))).setCell ⟨R, 2, none⟩ (.int .i64 u.port)).setCell ⟨R, 3, none⟩ (.string (bs u.path))).setCell ⟨R, 4, none⟩ (.bool u.asks)).setCell ⟨R, 5, none⟩ (.string (bs u.query))
theorem fill6_blk {W : World} {R : Nat} {t : TypeId} {a0 a1 a2 a3 a4 a5 : Value} (h : Blk W R t #[a0, a1, a2, a3, a4, a5]) (u : UriD) : Blk (fill6 W R u) R t (uCells u) :=
  (((((h.set_ 0 (.bool u.abs)).set_ 1 (.string (bs u.host))).set_ 2 (.int .i64 u.port)).set_ 3 (.string (bs u.path))).set_ 4 (.bool u.asks)).set_ 5 (.string (bs u.query))
theorem fill6_below {B R : Nat} {a w : World} (h : Below B a w) (hR : B ≤ R) (u : UriD) : Below B a (fill6 w R u) :=
  (((((h.setCell (p := ⟨R, 0, none⟩) hR _).setCell (p := ⟨R, 1, none⟩) hR _).setCell (p := ⟨R, 2, none⟩) hR _).setCell (p := ⟨R, 3, none⟩) hR _).setCell (p := ⟨R, 4, none⟩) hR _).setCell (p := ⟨R, 5, none⟩) hR _
theorem fill6_far {W : World} {R g : Nat} {t : TypeId} {cs : Array Value} (h : Blk W g t cs) (hne : g ≠ R) (u : UriD) : Blk (fill6 W R u) g t cs :=
  (((((h.far (p := ⟨R, 0, none⟩) hne _).far (p := ⟨R, 1, none⟩) hne _).far (p := ⟨R, 2, none⟩) hne _).far (p := ⟨R, 3, none⟩) hne _).far (p := ⟨R, 4, none⟩) hne _).far (p := ⟨R, 5, none⟩) hne _
theorem path_results {w : World} {X : Nat} {tmps : Array Value} {u : UriD} (h4 : tmps[4]?.getD undef = .pointer (some ⟨X, 0, none⟩)) (B0 : Blk w X 94 (uCells u)) :
    (results Tryz.f84 tmps).run Tryz.prog w = .ok u.val w := by
  have a0 := B0.cell 0
  have a1 := B0.cell 1
  have a2 := B0.cell 2
  have a3 := B0.cell 3
  have a4 := B0.cell 4
  have a5 := B0.cell 5
  simp [uCells] at a0 a1 a2 a3 a4 a5
  simp [results, Tryz.results84, go_sem, h4, a0, a1, a2, a3, a4, a5, UriD.val]
theorem scut_calls (s : ByteArray) (c : List UInt8) (hs : s.size ≤ 1000000) (w : World) (hg : Glob w) :
    Calls Tryz.prog 139 #[.string s, .string ⟨c.toArray⟩] w fun e w' => ∃ a b f n, e = .returned (.tuple #[.string (bs a), .string (bs b), .bool f]) ∧ Hid (Lib.cut (L s) c = (a, b, f)) ∧ w' = w.drewN n := by
  obtain ⟨m, hm⟩ := hg.1
  refine (Tryz.strings_Cut s (bs c) m w (by omega) hm).mono ?_
  rintro e w' ⟨rfl, n, rfl⟩
  rw [bs_toL]
  exact ⟨_, _, _, n, rfl, rfl, rfl⟩
/-- What an address returns that lies in a block of its own. -/
def UriEnd (u : UriD) (w : World) (e : Ending) (w' : World) : Prop := e = .returned u.val ∧ Below w.heap.size w w'
set_option maxRecDepth 20000 in
set_option maxHeartbeats 4000000 in
theorem path_calls (s : ByteArray) (u : UriD) (hs : s.size ≤ 1000000) (w : World) (hg : Glob w) :
    Calls Tryz.prog 84 #[.string s, u.val] w (UriEnd (pathF (L s) u) w) := by
  obtain ⟨m, hm⟩ := hg.1
  obtain ⟨abs, host, port, path, asks, query⟩ := u
  have HP : Hid (pathF (L s) ⟨abs, host, port, path, asks, query⟩ = ⟨abs, host, port, (Lib.cut (L s) [63]).1, (Lib.cut (L s) [63]).2.2, (Lib.cut (L s) [63]).2.1⟩) := rfl
  generalize pathF (L s) ⟨abs, host, port, path, asks, query⟩ = PF at *
  simp only [UriD.val] at *
  have hal1 : Below w.heap.size w (w.alloc (.cells #[.bool abs, .string (bs host), .int .i64 port, .string (bs path), .bool asks, .string (bs query)] 94)) := (Below.refl _ _).alloc (Nat.le_refl _) _
  have hX := Blk.new w 94 #[.bool abs, .string (bs host), .int .i64 port, .string (bs path), .bool asks, .string (bs query)]
  have hX1 := hX.alloc (.cells #[.bool false, .string ⟨#[]⟩, .int .i64 0, .string ⟨#[]⟩, .bool false, .string ⟨#[]⟩] 94)
  have hR := Blk.new (w.alloc (.cells #[.bool abs, .string (bs host), .int .i64 port, .string (bs path), .bool asks, .string (bs query)] 94)) 94 #[.bool false, .string ⟨#[]⟩, .int .i64 0, .string ⟨#[]⟩, .bool false, .string ⟨#[]⟩]
  have hB := hal1.alloc hal1.size (.cells #[.bool false, .string ⟨#[]⟩, .int .i64 0, .string ⟨#[]⟩, .bool false, .string ⟨#[]⟩] 94)
  have hm2 := (hB.cell (p := ⟨0, 0, none⟩) (World.block_lt_of_cell? w _ hm)).trans hm
  rw [size_alloc] at hR
  go_enter Tryz.func84, Tryz.ntmps84
  go_wp2_with fail
  refine (scut_calls s [63] hs _ (hg.below hB)).mono ?_
  rintro e w3 ⟨a, b, f, n, rfl, HCT, hw3⟩
  have hX3 := hX1.drewN n
  have hR3 := (show Blk ((w.alloc (.cells #[.bool abs, .string (bs host), .int .i64 port, .string (bs path), .bool asks, .string (bs query)] 94)).alloc (.cells #[.bool false, .string ⟨#[]⟩, .int .i64 0, .string ⟨#[]⟩, .bool false, .string ⟨#[]⟩] 94)) (w.heap.size + 1) _ _ from hR).drewN n
  have hB3 := below_drewN hB n
  rw [← hw3] at hX3 hR3 hB3
  have HP2 : Hid (PF = ⟨abs, host, port, a, f, b⟩) := by rw [Hid, HP.out, HCT.out]
  have HX := Lib.hid hX3
  have HR := Lib.hid hR3
  have HB := Lib.hid hB3
  clear hX3 hR3 hB3 hX hX1 hR hB hw3 hal1 hg HP HCT
  generalize hXX : w.heap.size = X at *
  have HXX := Lib.hid hXX
  clear hXX
  have x3 := HX.out.cell 3
  have x4 := HX.out.cell 4
  have x5 := HX.out.cell 5
  have y3 := HX.out.frozen 3
  have y4 := HX.out.frozen 4
  have y5 := HX.out.frozen 5
  go_upto_region 2 with (fail)
  clear x3 x4 x5 y3 y4 y5
  obtain ⟨w4, hw4⟩ : ∃ w4, w4 = ((w3.setCell ⟨X, 3, none⟩ (.string (bs a))).setCell ⟨X, 5, none⟩ (.string (bs b))).setCell ⟨X, 4, none⟩ (.bool f) := ⟨_, rfl⟩
  have HX4 : Hid (Blk w4 X 94 #[.bool abs, .string (bs host), .int .i64 port, .string (bs a), .bool f, .string (bs b)]) := by rw [Hid, hw4]; exact ((HX.out.set_ 3 _).set_ 5 _).set_ 4 _
  have HB4 : Hid (Below X w w4) := by rw [Hid, hw4]; exact ((HB.out.setCell (p := ⟨X, 3, none⟩) (Nat.le_refl _) _).setCell (p := ⟨X, 5, none⟩) (Nat.le_refl _) _).setCell (p := ⟨X, 4, none⟩) (Nat.le_refl _) _
  have HR4 : Hid (Blk w4 (X + 1) 94 #[.bool false, .string ⟨#[]⟩, .int .i64 0, .string ⟨#[]⟩, .bool false, .string ⟨#[]⟩]) := by
    rw [Hid, hw4]
    exact ((HR.out.far (p := ⟨X, 3, none⟩) (by show X + 1 ≠ X; omega) _).far (p := ⟨X, 5, none⟩) (by show X + 1 ≠ X; omega) _).far (p := ⟨X, 4, none⟩) (by show X + 1 ≠ X; omega) _
  rw [← hw4]
  clear hw4 HX HB HR
  have x0 := HX4.out.cell 0
  have x1 := HX4.out.cell 1
  have x2 := HX4.out.cell 2
  have x3 := HX4.out.cell 3
  have x4 := HX4.out.cell 4
  have x5 := HX4.out.cell 5
  have r0 := HR4.out.cell 0
  have r1 := HR4.out.cell 1
  have r2 := HR4.out.cell 2
  have r3 := HR4.out.cell 3
  have r4 := HR4.out.cell 4
  have r5 := HR4.out.cell 5
  have y0 := HR4.out.frozen 0
  have y1 := HR4.out.frozen 1
  have y2 := HR4.out.frozen 2
  have y3 := HR4.out.frozen 3
  have y4 := HR4.out.frozen 4
  have y5 := HR4.out.frozen 5
  go_wp2_with fail
  have hb := fill6_blk HR4.out ⟨abs, host, port, a, f, b⟩
  have hl := fill6_below HB4.out (show X ≤ X + 1 by omega) ⟨abs, host, port, a, f, b⟩
  clear x0 x1 x2 x3 x4 x5 r0 r1 r2 r3 r4 r5 y0 y1 y2 y3 y4 y5
  change bodyPost _ _ _ _ _ (fill6 w4 (X + 1) ⟨abs, host, port, a, f, b⟩)
  generalize fill6 w4 (X + 1) ⟨abs, host, port, a, f, b⟩ = W at *
  refine bodyPost_ret (path_results rfl hb) rfl ⟨?_, by rw [HXX.out]; exact hl⟩
  rw [HP2.out]
end Go.Proofs.YtijpfcjlochahaaGreatDoor
