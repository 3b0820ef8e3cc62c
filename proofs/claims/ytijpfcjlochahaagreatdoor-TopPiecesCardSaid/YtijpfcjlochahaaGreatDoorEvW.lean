/- The walks of eval's whole and take, where the rows of pages one deeper are walked. -/
import Derived.Test.YtijpfcjlochahaaGreatDoorEvT
namespace Go.Proofs.YtijpfcjlochahaaGreatDoor
open Go Go.RowKit
set_option linter.unusedVariables false
set_option linter.unusedSimpArgs false

theorem whole_results {w : World} {X : Nat} {tmps : Array Value} {r : Res} (h4 : tmps[8]?.getD undef = .pointer (some ⟨X, 0, none⟩)) (B0 : Blk w X 31 (rCells r)) :
    (results Tryz.f32 tmps).run Tryz.prog w = .ok r.val w := by
  have a0 := B0.cell 0
  have a1 := B0.cell 1
  have a2 := B0.cell 2
  have a3 := B0.cell 3
  simp [rCells] at a0 a1 a2 a3
  simp [results, Tryz.results32, go_sem, h4, a0, a1, a2, a3, Res.val]
theorem take_results {w : World} {X : Nat} {tmps : Array Value} {r : Res} (h4 : tmps[6]?.getD undef = .pointer (some ⟨X, 0, none⟩)) (B0 : Blk w X 31 (rCells r)) :
    (results Tryz.f178 tmps).run Tryz.prog w = .ok r.val w := by
  have a0 := B0.cell 0
  have a1 := B0.cell 1
  have a2 := B0.cell 2
  have a3 := B0.cell 3
  simp [rCells] at a0 a1 a2 a3
  simp [results, Tryz.results178, go_sem, h4, a0, a1, a2, a3, Res.val]
def wholeC (D : Dep) (d : Nat) (base body : List UInt8) (c : Nat) : Res × Nat :=
  if (readF body).2 ≠ 0 then (failR [] (readF body).2, c) else rowF D (takeD D d base (readF body).1) false 0 [] (readF body).1 c
/-- Memory within 'whole': its result's place. -/
structure WSt (w W : World) (M R : Nat) : Prop where
  hR : Blk W R 31 (rCells res0)
  g : w.grownBy W (some M)
  hMw : M < w.heap.size
  eqR : w.heap.size = R
section
variable {w W W' : World} {M R : Nat}
theorem WSt.below (h : WSt w W M R) (hb : Below W.heap.size W W') : WSt w W' M R := ⟨h.hR.below hb h.hR.lt, grown_below h.g hb, h.hMw, h.eqR⟩
theorem WSt.grown (h : WSt w W M R) (hg : W.grownBy W' (some M)) : WSt w W' M R := by
  have h1 := h.hMw
  have h2 := h.eqR
  exact ⟨h.hR.grown hg (by simp; omega), grown_trans h.g hg, h1, h2⟩
theorem WSt.start (w : World) (hM : M < w.heap.size) : WSt w (w.alloc (.cells (rCells res0) 31)) M w.heap.size :=
  ⟨Blk.new w 31 (rCells res0), grown_alloc (grown_refl _ _) _, hM, rfl⟩
theorem WSt.fin {v : EnvD} {rv : Value} {reps : List Rep} {z : Res × Nat} {r : Res} {c : Nat} (h : WSt w W M R) (hm : MK v rv reps M W c) (hz : z = (r, c)) (hl : r.out.length ≤ 100000000) :
    Blk (fill4 W R r) R 31 (rCells r) ∧ EvPost v rv reps M w z (.returned r.val) (fill4 W R r) :=
  ⟨fill4_blk h.hR r, EvPost.fin h.g hm h.hMw (by have := h.eqR; omega) hz hl⟩
end
set_option maxRecDepth 20000 in
set_option maxHeartbeats 4000000 in
theorem whole_calls (v : EnvD) (D : Dep) (rv : Value) (M d : Nat) (base body : List UInt8) (hrow : (readF body).2 = 0 → RowOk v D rv M d (readF body).1) (c : Nat) (w : World) (hbp : ParseOk base) (hl : (readF body).2 = 0 → okL v D (readF body).1) (hm : MK v rv D.replies M w c) (hd : d ≤ 4) (hbl : body.length ≤ 90000) :
    Calls Tryz.prog 32 #[.pointer (some ⟨M, 0, none⟩), .string (bs base), .string (bs body), .int .i64 (4 - (d : Int))] w (EvPost v rv D.replies M w (wholeC D d base body c)) := by
  have HS := Lib.hid (WSt.start w hm.blk.lt)
  have hal : Below w.heap.size w (w.alloc (.cells (rCells res0) 31)) := ((Below.refl _ _).alloc (Nat.le_refl _) _)
  have HMK := Lib.hid (hm.below hal)
  have HRD := Lib.hid (read_calls (bs body) (w.alloc (.cells (rCells res0) 31)) (by rw [size_bs]; exact hbl))
  rw [L_bs] at HRD
  have HW : Hid (wholeC D d base body c = if (readF body).2 ≠ 0 then (failR [] (readF body).2, c) else rowF D (takeD D d base (readF body).1) false 0 [] (readF body).1 c) := rfl
  have HRC := Lib.hid (fun h0 pv W (hm : MK v rv D.replies M W c) hp => hrow h0 base (readF body).1 pv pv false 0 c W hbp (hl h0) (hl h0) hm hp hp (Nat.zero_le _))
  generalize wholeC D d base body c = Z at *
  generalize readF body = RF at *
  obtain ⟨l, err⟩ := RF
  have hMlt := hm.blk.lt
  have HML : Hid (M < (w.alloc (.cells (rCells res0) 31)).heap.size) := by rw [Hid, size_alloc]; omega
  simp only at HRD HW HRC
  unfold BuildPost at HRD
  simp only at HRD
  have hd4 : ¬ 4 < (4 - (d : Int)) := by omega
  clear hrow hbp hl hm hal hMlt
  go_enter Tryz.func32, Tryz.ntmps32
  go_wp2_with fail
  refine HRD.out.mono ?_
  rintro e w1 ⟨pv, rfl, hgr, hb1⟩
  obtain ⟨A, cc, rfl, -⟩ := elems_open hgr
  have HS1 := Lib.hid (HS.out.below hb1)
  have HM1 := Lib.hid (HMK.out.below hb1)
  have HGR := Lib.hid (hgr.weaken (F' := fun k => k ≠ M) (fun k hk => by have hk : _ ≤ k := hk; have := HML.out; omega))
  clear hgr hb1 HS HMK HRD HML
  generalize w.heap.size = R at *
  by_cases he : err = 0
  · have be : (err != 0) = false := by rw [he]; rfl
    have HZ : Hid (Z = rowF D (takeD D d base l) false 0 [] l c) := by rw [Hid, HW.out, if_neg (by simpa using he)]
    have HRR := Lib.hid (HRC.out he _ w1 HM1.out HGR.out)
    clear he HW HRC
    rw [← HZ.out] at HRR
    go_wp2_with fail
    refine HRR.out.mono ?_
    rintro e w2 ⟨rfl, hg2, hm2, hl2⟩
    have HSX := Lib.hid (HS1.out.grown hg2)
    have HM2 := Lib.hid hm2
    have HL2 := Lib.hid hl2
    clear hg2 hm2 hl2 HS1 HM1 HRR
    obtain ⟨r, c2⟩ := Z
    simp only [Res.val] at *
    have r0 := HSX.out.hR.cell 0
    have r1 := HSX.out.hR.cell 1
    have r2 := HSX.out.hR.cell 2
    have r3 := HSX.out.hR.cell 3
    simp [rCells] at r0 r1 r2 r3
    have f0 := HSX.out.hR.frozen 0
    have f1 := HSX.out.hR.frozen 1
    have f2 := HSX.out.hR.frozen 2
    have f3 := HSX.out.hR.frozen 3
    go_wp2_with fail
    obtain ⟨q1, q2⟩ := HSX.out.fin HM2.out (z := (r, c2)) rfl HL2.out
    change bodyPost _ _ _ _ _ (fill4 w2 R r)
    exact bodyPost_ret (whole_results rfl q1) rfl q2
  · have be : (err != 0) = true := by rw [bne_iff_ne]; exact he
    have HZ : Hid (Z = (failR [] err, c)) := by rw [Hid, HW.out, if_pos he]
    clear he HW HRC
    go_wp2_with fail
    refine (fail_calls19 [] err w1).mono ?_
    rintro e w2 ⟨rfl, hb2⟩
    have HSX := Lib.hid (HS1.out.below hb2)
    have HM2 := Lib.hid (HM1.out.below hb2)
    clear hb2 HS1 HM1
    have r0 := HSX.out.hR.cell 0
    have r1 := HSX.out.hR.cell 1
    have r2 := HSX.out.hR.cell 2
    have r3 := HSX.out.hR.cell 3
    simp [rCells] at r0 r1 r2 r3
    have f0 := HSX.out.hR.frozen 0
    have f1 := HSX.out.hR.frozen 1
    have f2 := HSX.out.hR.frozen 2
    have f3 := HSX.out.hR.frozen 3
    simp only [Res.val, failR]
    go_wp2_with fail
    obtain ⟨q1, q2⟩ := HSX.out.fin HM2.out (z := Z) HZ.out (by simp [failR])
    change bodyPost _ _ _ _ _ (fill4 w2 R (failR [] err))
    exact bodyPost_ret (whole_results rfl q1) rfl q2
set_option maxRecDepth 20000 in
set_option maxHeartbeats 2000000 in
theorem whole_deep (v : EnvD) (rv : Value) (reps : List Rep) (M : Nat) (base body : List UInt8) (c : Nat) (w : World) (hm : MK v rv reps M w c) :
    Calls Tryz.prog 32 #[.pointer (some ⟨M, 0, none⟩), .string (bs base), .string (bs body), .int .i64 5] w (EvPost v rv reps M w (failR [] 5, c)) := by
  have HS := Lib.hid (WSt.start w hm.blk.lt)
  have hal : Below w.heap.size w (w.alloc (.cells (rCells res0) 31)) := ((Below.refl _ _).alloc (Nat.le_refl _) _)
  have HMK := Lib.hid (hm.below hal)
  clear hm hal
  go_enter Tryz.func32, Tryz.ntmps32
  go_wp2_with fail
  refine (fail_calls19 [] 5 _).mono ?_
  rintro e w2 ⟨rfl, hb2⟩
  have HSX := Lib.hid (HS.out.below hb2)
  have HM2 := Lib.hid (HMK.out.below hb2)
  clear hb2 HS HMK
  generalize w.heap.size = R at *
  have r0 := HSX.out.hR.cell 0
  have r1 := HSX.out.hR.cell 1
  have r2 := HSX.out.hR.cell 2
  have r3 := HSX.out.hR.cell 3
  simp [rCells] at r0 r1 r2 r3
  have f0 := HSX.out.hR.frozen 0
  have f1 := HSX.out.hR.frozen 1
  have f2 := HSX.out.hR.frozen 2
  have f3 := HSX.out.hR.frozen 3
  simp only [Res.val, failR]
  go_wp2_with fail
  obtain ⟨q1, q2⟩ := HSX.out.fin HM2.out (z := (failR [] 5, c)) rfl (by simp [failR])
  change bodyPost _ _ _ _ _ (fill4 w2 R (failR [] 5))
  exact bodyPost_ret (whole_results rfl q1) rfl q2
end Go.Proofs.YtijpfcjlochahaaGreatDoor
