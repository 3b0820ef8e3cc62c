/- Memory of eval: the maker and what it must not lose; and the walks of eval's fail and less. -/
import Derived.Test.YtijpfcjlochahaaGreatDoorUriU
import Derived.Test.YtijpfcjlochahaaGreatDoorEvF
import Derived.Test.YtijpfcjlochahaaGreatDoorElem
set_option linter.unusedVariables false
set_option linter.unusedSimpArgs false
namespace Go.Proofs.YtijpfcjlochahaaGreatDoor
open Go Go.RowKit
set_option linter.unusedVariables false
set_option linter.unusedSimpArgs false

structure EnvD where
  e0 : List UInt8
  e1 : List UInt8
  e2 : List UInt8
  e3 : List UInt8
  e4 : List UInt8
  e5 : List UInt8
def EnvD.val (v : EnvD) : Value := .agg #[.string (bs v.e0), .string (bs v.e1), .string (bs v.e2), .string (bs v.e3), .string (bs v.e4), .string (bs v.e5)]
def mCells (v : EnvD) (rv : Value) (c : Nat) : Array Value := #[.string (bs v.e0), .string (bs v.e1), .string (bs v.e2), .string (bs v.e3), .string (bs v.e4), .string (bs v.e5), rv, .int .i64 (c : Int)]
/-- The maker lies at M, with its count; its replies can be read; the library's variables are as they were. -/
structure MK (v : EnvD) (rv : Value) (reps : List Rep) (M : Nat) (W : World) (c : Nat) : Prop where
  blk : Blk W M 69 (mCells v rv c)
  reps : GR W (fun k => k < M) (.row 5 (reps.map Rep.gv)) [rv]
  glob : Glob W
  hM : 0 < M ∧ ∀ g, Tryz.prog.globalNamed "internal/strconv.uint64pow10" = some g → g < M
  hc : c ≤ 20
theorem GR.grown {w w' : World} {F : Nat → Prop} {x : GV} {cs : List Value} {M : Nat} (h : GR w F x cs) (hg : w.grownBy w' (some M)) (hF : ∀ k, F k → k ≠ M) : GR w' F x cs :=
  GR.mono (fun _ h => h) (fun k hk hlt => hg.block k hlt (fun e => hF k hk (Option.some.inj e))) x cs h
theorem Glob.grown {w w' : World} {M : Nat} (h : Glob w) (hg : w.grownBy w' (some M)) (h0 : M ≠ 0) (ht : ∀ g, Tryz.prog.globalNamed "internal/strconv.uint64pow10" = some g → g ≠ M) : Glob w' := by
  obtain ⟨⟨m, h1⟩, h2⟩ := h
  refine ⟨⟨m, ?_⟩, tab_below h2 fun g hlt hgn => hg.block g hlt (fun e => ht g hgn (Option.some.inj e))⟩
  have hlt : 0 < w.heap.size := World.block_lt_of_cell? w _ h1
  rw [World.cell?_of_block (w := w) (a := ⟨0, 0, none⟩) (hg.block 0 hlt (fun e => h0 (Option.some.inj e).symm))]
  exact h1
section
variable {v : EnvD} {rv : Value} {reps : List Rep} {M c : Nat} {W W' : World}
theorem MK.below (h : MK v rv reps M W c) (hb : Below W.heap.size W W') : MK v rv reps M W' c :=
  ⟨h.blk.below hb h.blk.lt, h.reps.below hb, h.glob.below hb, h.hM, h.hc⟩
theorem MK.other {R : Nat} (h : MK v rv reps M W c) (hg : W.grownBy W' (some R)) (hR : M < R) : MK v rv reps M W' c :=
  ⟨h.blk.grown hg (by simp; omega), h.reps.grown hg (fun k hk => by have hk : k < M := hk; omega), h.glob.grown hg (by omega) (fun g hgn => by have := h.hM.2 g hgn; omega), h.hM, h.hc⟩
theorem MK.count (h : MK v rv reps M W c) (hc : c < 20) : MK v rv reps M (W.setCell ⟨M, 7, none⟩ (.int .i64 ((c + 1 : Nat) : Int))) (c + 1) := by
  have hg : W.grownBy (W.setCell ⟨M, 7, none⟩ (.int .i64 ((c + 1 : Nat) : Int))) (some M) := grown_setCell (grown_refl _ _) (.inl rfl) _
  exact ⟨h.blk.set_ 7 (.int .i64 ((c + 1 : Nat) : Int)), h.reps.grown hg (fun k h => Nat.ne_of_lt h), h.glob.grown hg (Nat.ne_of_gt h.hM.1) (fun g hgn => Nat.ne_of_lt (h.hM.2 g hgn)), h.hM, hc⟩
end
def rCells (r : Res) : Array Value := #[.string (bs r.out), .int .i64 r.state, .int .i64 r.bad, .string (bs r.want)]
def res0 : Res := ⟨[], 0, 0, []⟩
/-- A result is stored. -/
def fill4 (W : World) (R : Nat) (r : Res) : World :=
  (((W.setCell ⟨R, 0, none⟩ (.string (bs r.out))).setCell ⟨R, 1, none⟩ (.int .i64 r.state)).setCell ⟨R, 2, none⟩ (.int .i64 r.bad)).setCell ⟨R, 3, none⟩ (.string (bs r.want))
section
variable {W a w : World} {R B g M : Nat} {t : TypeId}
theorem fill4_blk {a0 a1 a2 a3 : Value} (h : Blk W R t #[a0, a1, a2, a3]) (r : Res) : Blk (fill4 W R r) R t (rCells r) :=
  (((h.set_ 0 (.string (bs r.out))).set_ 1 (.int .i64 r.state)).set_ 2 (.int .i64 r.bad)).set_ 3 (.string (bs r.want))
theorem fill4_below (h : Below B a w) (hR : B ≤ R) (r : Res) : Below B a (fill4 w R r) :=
  (((h.setCell (p := ⟨R, 0, none⟩) hR _).setCell (p := ⟨R, 1, none⟩) hR _).setCell (p := ⟨R, 2, none⟩) hR _).setCell (p := ⟨R, 3, none⟩) hR _
theorem fill4_grown {row : Option Nat} (h : a.grownBy w row) (hR : a.heap.size ≤ R) (r : Res) : a.grownBy (fill4 w R r) row :=
  grown_setCell (grown_setCell (grown_setCell (grown_setCell h (p := ⟨R, 0, none⟩) (.inr hR) _) (p := ⟨R, 1, none⟩) (.inr hR) _) (p := ⟨R, 2, none⟩) (.inr hR) _) (p := ⟨R, 3, none⟩) (.inr hR) _
theorem fill4_self (W : World) (R : Nat) (r : Res) : W.grownBy (fill4 W R r) (some R) :=
  grown_setCell (grown_setCell (grown_setCell (grown_setCell (grown_refl W (some R)) (p := ⟨R, 0, none⟩) (.inl rfl) _) (p := ⟨R, 1, none⟩) (.inl rfl) _) (p := ⟨R, 2, none⟩) (.inl rfl) _) (p := ⟨R, 3, none⟩) (.inl rfl) _
end
theorem fail_results {w : World} {X : Nat} {tmps : Array Value} {r : Res} (h4 : tmps[4]?.getD undef = .pointer (some ⟨X, 0, none⟩)) (B0 : Blk w X 31 (rCells r)) :
    (results Tryz.f52 tmps).run Tryz.prog w = .ok r.val w := by
  have a0 := B0.cell 0
  have a1 := B0.cell 1
  have a2 := B0.cell 2
  have a3 := B0.cell 3
  simp [rCells] at a0 a1 a2 a3
  simp [results, Tryz.results52, go_sem, h4, a0, a1, a2, a3, Res.val]
theorem less_results {w : World} {X : Nat} {tmps : Array Value} {r : Res} (h4 : tmps[2]?.getD undef = .pointer (some ⟨X, 0, none⟩)) (B0 : Blk w X 31 (rCells r)) :
    (results Tryz.f179 tmps).run Tryz.prog w = .ok r.val w := by
  have a0 := B0.cell 0
  have a1 := B0.cell 1
  have a2 := B0.cell 2
  have a3 := B0.cell 3
  simp [rCells] at a0 a1 a2 a3
  simp [results, Tryz.results179, go_sem, h4, a0, a1, a2, a3, Res.val]
set_option maxRecDepth 20000 in
set_option maxHeartbeats 1000000 in
theorem fail_calls19 (s : List UInt8) (n : Int) (w : World) : Calls Tryz.prog 52 #[.string (bs s), .int .i64 n] w fun e w' => e = .returned (failR s n).val ∧ Below w.heap.size w w' := by
  have HB := Lib.hid ((Below.refl w.heap.size w).alloc (Nat.le_refl _) (.cells (rCells (failR s n)) 31))
  have HR := Lib.hid (Blk.new w 31 (rCells (failR s n)))
  go_enter Tryz.func52, Tryz.ntmps52
  go_wp2_with fail
  change bodyPost _ _ _ _ _ (w.alloc (.cells (rCells (failR s n)) 31))
  exact bodyPost_ret (fail_results rfl HR.out) rfl ⟨rfl, HB.out⟩
set_option maxRecDepth 20000 in
set_option maxHeartbeats 1000000 in
theorem less_calls (r : Res) (w : World) : Calls Tryz.prog 179 #[r.val] w fun e w' => e = .returned (lessR r).val ∧ Below w.heap.size w w' := by
  have HL : Hid (lessR r = if r.state ≠ 0 then { r with out := [] } else r) := rfl
  generalize lessR r = LR at *
  obtain ⟨out, st, bad, want⟩ := r
  simp only [Res.val] at *
  by_cases h : st = 0
  · have hb : (st != 0) = false := by rw [h]; rfl
    have HL2 : Hid (LR = ⟨out, st, bad, want⟩) := by rw [Hid, HL.out, if_neg (by simpa using h)]
    have hB := ((Below.refl w.heap.size w).alloc (Nat.le_refl _) (.cells (rCells ⟨out, st, bad, want⟩) 31))
    have HB := Lib.hid (hB.alloc hB.size (.cells (rCells ⟨out, st, bad, want⟩) 31))
    have HR := Lib.hid (Blk.new (w.alloc (.cells (rCells ⟨out, st, bad, want⟩) 31)) 31 (rCells ⟨out, st, bad, want⟩))
    clear h HL hB
    go_enter Tryz.func179, Tryz.ntmps179
    go_wp2_with fail
    change bodyPost _ _ _ _ _ ((w.alloc (.cells (rCells ⟨out, st, bad, want⟩) 31)).alloc (.cells (rCells ⟨out, st, bad, want⟩) 31))
    refine bodyPost_ret (less_results (by simp [size_alloc]) HR.out) rfl ⟨?_, HB.out⟩
    rw [HL2.out]
    rfl
  · have hb : (st != 0) = true := by rw [bne_iff_ne]; exact h
    have HL2 : Hid (LR = ⟨[], st, bad, want⟩) := by rw [Hid, HL.out, if_pos h]
    clear h HL
    go_enter Tryz.func179, Tryz.ntmps179
    go_wp2_with fail
    have hB := ((Below.refl w.heap.size w).alloc (Nat.le_refl _) (.cells (rCells ⟨[], st, bad, want⟩) 31))
    have HB := Lib.hid (hB.alloc hB.size (.cells (rCells ⟨[], st, bad, want⟩) 31))
    have HR := Lib.hid (Blk.new (w.alloc (.cells (rCells ⟨[], st, bad, want⟩) 31)) 31 (rCells ⟨[], st, bad, want⟩))
    change bodyPost _ _ _ _ _ ((w.alloc (.cells (rCells ⟨[], st, bad, want⟩) 31)).alloc (.cells (rCells ⟨[], st, bad, want⟩) 31))
    refine bodyPost_ret (less_results (by simp [size_alloc]) HR.out) rfl ⟨?_, HB.out⟩
    rw [HL2.out]
    rfl
/-- What a method of the maker leaves. -/
def EvPost (v : EnvD) (rv : Value) (reps : List Rep) (M : Nat) (w : World) (z : Res × Nat) (e : Ending) (w' : World) : Prop :=
  e = .returned z.1.val ∧ w.grownBy w' (some M) ∧ MK v rv reps M w' z.2 ∧ z.1.out.length ≤ 100000000
/-- Its result is stored in a block of its own. -/
theorem EvPost.fin {v : EnvD} {rv : Value} {reps : List Rep} {M R : Nat} {w W : World} {z : Res × Nat} {r : Res} {c : Nat} (hg : w.grownBy W (some M)) (hm : MK v rv reps M W c) (hMw : M < w.heap.size) (hR : w.heap.size ≤ R) (hz : z = (r, c)) (hl : r.out.length ≤ 100000000) :
    EvPost v rv reps M w z (.returned r.val) (fill4 W R r) := by
  subst hz
  exact ⟨rfl, fill4_grown hg hR r, hm.other (fill4_self W R r) (by omega), hl⟩
end Go.Proofs.YtijpfcjlochahaaGreatDoor
