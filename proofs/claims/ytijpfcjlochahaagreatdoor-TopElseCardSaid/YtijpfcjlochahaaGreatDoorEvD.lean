/- The walks of eval's include and one. The walks of eval's one and row. Pages without choices and tries are walked at every depth; the walks of eval's Right and Run. -/
import Derived.Test.YtijpfcjlochahaaGreatDoorEvX
import Derived.StillTailTactics
import Derived.Test.YtijpfcjlochahaaGreatDoorVSub
set_option linter.unusedVariables false
set_option linter.unusedSimpArgs false
namespace Go.Proofs.YtijpfcjlochahaaGreatDoor
open Go Go.RowKit
set_option linter.unusedVariables false
set_option linter.unusedSimpArgs false

theorem include_results {w : World} {X : Nat} {tmps : Array Value} {r : Res} (h4 : tmps[10]?.getD undef = .pointer (some ⟨X, 0, none⟩)) (B0 : Blk w X 31 (rCells r)) :
    (results Tryz.f143 tmps).run Tryz.prog w = .ok r.val w := by
  have a0 := B0.cell 0
  have a1 := B0.cell 1
  have a2 := B0.cell 2
  have a3 := B0.cell 3
  simp [rCells] at a0 a1 a2 a3
  simp [results, Tryz.results143, go_sem, h4, a0, a1, a2, a3, Res.val]
theorem one_results {w : World} {X : Nat} {tmps : Array Value} {r : Res} (h4 : tmps[10]?.getD undef = .pointer (some ⟨X, 0, none⟩)) (B0 : Blk w X 31 (rCells r)) :
    (results Tryz.f86 tmps).run Tryz.prog w = .ok r.val w := by
  have a0 := B0.cell 0
  have a1 := B0.cell 1
  have a2 := B0.cell 2
  have a3 := B0.cell 3
  simp [rCells] at a0 a1 a2 a3
  simp [results, Tryz.results86, go_sem, h4, a0, a1, a2, a3, Res.val]
/-- Memory within a method that was given an element. -/
structure ISt (w W : World) (M P : Nat) (base : List UInt8) (pv : Value) (dep : Int) (x : Elem) (kv : Value) : Prop where
  hP : Blk W P 104 #[.string (bs base), pv, .int .i64 dep]
  hE : Blk W (P + 1) 74 (eCells x kv).toArray
  hR : Blk W (P + 1 + 1) 31 (rCells res0)
  g : w.grownBy W (some M)
  hMw : M < w.heap.size
  eqP : w.heap.size = P
section
variable {w W W' : World} {M P : Nat} {base : List UInt8} {pv kv : Value} {dep : Int} {x : Elem}
theorem ISt.below (h : ISt w W M P base pv dep x kv) (hb : Below W.heap.size W W') : ISt w W' M P base pv dep x kv :=
  ⟨h.hP.below hb h.hP.lt, h.hE.below hb h.hE.lt, h.hR.below hb h.hR.lt, grown_below h.g hb, h.hMw, h.eqP⟩
theorem ISt.grown (h : ISt w W M P base pv dep x kv) (hg : W.grownBy W' (some M)) : ISt w W' M P base pv dep x kv := by
  have h1 := h.hMw
  have h2 := h.eqP
  exact ⟨h.hP.grown hg (by simp; omega), h.hE.grown hg (by simp; omega), h.hR.grown hg (by simp; omega), grown_trans h.g hg, h1, h2⟩
theorem ISt.start (w : World) (hM : M < w.heap.size) (base : List UInt8) (pv : Value) (dep : Int) (x : Elem) (kv : Value) :
    ISt w (((w.alloc (.cells #[.string (bs base), pv, .int .i64 dep] 104)).alloc (.cells (eCells x kv).toArray 74)).alloc (.cells (rCells res0) 31)) M w.heap.size base pv dep x kv := by
  have h1 := Blk.new w 104 #[.string (bs base), pv, .int .i64 dep]
  have h2 := Blk.new (w.alloc (.cells #[.string (bs base), pv, .int .i64 dep] 104)) 74 (eCells x kv).toArray
  have h3 := Blk.new ((w.alloc (.cells #[.string (bs base), pv, .int .i64 dep] 104)).alloc (.cells (eCells x kv).toArray 74)) 31 (rCells res0)
  rw [size_alloc] at h2
  rw [size_alloc, size_alloc] at h3
  exact ⟨(h1.alloc _).alloc _, h2.alloc _, h3, grown_alloc (grown_alloc (grown_alloc (grown_refl _ _) _) _) _, hM, rfl⟩
theorem ISt.other {Y : Nat} (h : ISt w W M P base pv dep x kv) (hg : W.grownBy W' (some Y)) (hY : P + 1 + 1 < Y) : ISt w W' M P base pv dep x kv := by
  have h2 := h.eqP
  exact ⟨h.hP.grown hg (by simp; omega), h.hE.grown hg (by simp; omega), h.hR.grown hg (by simp; omega), grown_grown h.g hg (fun k hk => .inr (by injection hk with hk; omega)), h.hMw, h2⟩
theorem ISt.fin {v : EnvD} {rv : Value} {reps : List Rep} {z : Res × Nat} {r : Res} {c : Nat} (h : ISt w W M P base pv dep x kv) (hm : MK v rv reps M W c) (hz : z = (r, c)) (hl : r.out.length ≤ 100000000) :
    Blk (fill4 W (P + 1 + 1) r) (P + 1 + 1) 31 (rCells r) ∧ EvPost v rv reps M w z (.returned r.val) (fill4 W (P + 1 + 1) r) :=
  ⟨fill4_blk h.hR r, EvPost.fin h.g hm h.hMw (by have := h.eqP; omega) hz hl⟩
end
/-- An element as an argument. -/
def eVal (x : Elem) (kv : Value) : Value := .agg #[.int .i64 x.kind, .string (bs x.text), .string (bs x.src), .string (bs x.alt), .bool x.soft, .string (bs x.test), kv]
/-- take is walked, within a page. -/
def TkOk (v : EnvD) (D : Dep) (rv : Value) (M : Nat) (base : List UInt8) (el : List Elem) (dep : Int) (tk : Tk) : Prop := ∀ (pv : Value) (s : List UInt8) (c : Nat) (W : World), TakeOk v D s → MK v rv D.replies M W c → GR W (fun k => k ≠ M) (.row 7 (el.map Elem.gv)) [pv] →
  Calls Tryz.prog 178 #[.pointer (some ⟨M, 0, none⟩), .agg #[.string (bs base), pv, .int .i64 dep], .string (bs s)] W (EvPost v rv D.replies M W (tk s c))
theorem includeF_eq (tk : Tk) (s a : List UInt8) (b : Bool) (c : Nat) : includeF tk s a b c =
    if (tk s c).1.state = 2 ∧ a ≠ [] then
      (if (tk a (tk s c).2).1.state = 2 ∧ b = true then (doneR [], (tk a (tk s c).2).2) else (lessR (tk a (tk s c).2).1, (tk a (tk s c).2).2))
    else (if (tk s c).1.state = 2 ∧ b = true then (doneR [], (tk s c).2) else (lessR (tk s c).1, (tk s c).2)) := by
  unfold includeF
  simp only
  by_cases h : (tk s c).1.state = 2 ∧ a ≠ []
  · rw [if_pos h, if_pos h]
  · rw [if_neg h, if_neg h]
set_option maxRecDepth 20000 in
set_option maxHeartbeats 8000000 in
theorem einclude_calls (v : EnvD) (D : Dep) (rv : Value) (M : Nat) (base : List UInt8) (el : List Elem) (dep : Int) (tk : Tk) (htk : TkOk v D rv M base el dep tk) (pv kv : Value) (x : Elem) (sub : Bool) (n c : Nat) (w : World)
    (hx : TakeOk v D x.src ∧ (x.alt ≠ [] → TakeOk v D x.alt)) (hm : MK v rv D.replies M w c) (hpv : GR w (fun k => k ≠ M) (.row 7 (el.map Elem.gv)) [pv]) (hkv : ∃ A nn cc, kv = .slice A nn cc) :
    Calls Tryz.prog 143 #[.pointer (some ⟨M, 0, none⟩), .agg #[.string (bs base), pv, .int .i64 dep], eVal x kv, .bool sub, .int .i64 (n : Int)] w (EvPost v rv D.replies M w (includeF tk x.src x.alt x.soft c)) := by
  obtain ⟨Ap, cp, rfl, -⟩ := elems_open hpv
  obtain ⟨Ak, nk, ck, rfl⟩ := hkv
  have HZ := Lib.hid (includeF_eq tk x.src x.alt x.soft c)
  generalize includeF tk x.src x.alt x.soft c = Z at *
  have HTK := Lib.hid htk
  have HX := Lib.hid hx
  have hal : Below w.heap.size w (((w.alloc (.cells #[.string (bs base), .slice Ap el.length cp, .int .i64 dep] 104)).alloc (.cells (eCells x (.slice Ak nk ck)).toArray 74)).alloc (.cells (rCells res0) 31)) :=
    (((Below.refl _ _).alloc (Nat.le_refl _) _).alloc (by rw [size_alloc]; omega) _).alloc (by rw [size_alloc, size_alloc]; omega) _
  have HS := Lib.hid (ISt.start w hm.blk.lt base (.slice Ap el.length cp) dep x (.slice Ak nk ck))
  have HMK := Lib.hid (hm.below hal)
  have HPV := Lib.hid (hpv.below hal)
  clear htk hx hm hpv hal
  simp only [eVal]
  go_enter Tryz.func143, Tryz.ntmps143
  go_upto_region 1 with (fail)
  change Code.wp _ _ _ _ (((w.alloc (.cells #[.string (bs base), .slice Ap el.length cp, .int .i64 dep] 104)).alloc (.cells (eCells x (.slice Ak nk ck)).toArray 74)).alloc (.cells (rCells res0) 31))
  generalize ((w.alloc (.cells #[.string (bs base), .slice Ap el.length cp, .int .i64 dep] 104)).alloc (.cells (eCells x (.slice Ak nk ck)).toArray 74)).alloc (.cells (rCells res0) 31) = w0 at *
  generalize w.heap.size = P at *
  have p0 := HS.out.hP.cell 0
  have p1 := HS.out.hP.cell 1
  have p2 := HS.out.hP.cell 2
  have e2 := HS.out.hE.cell 2
  simp [eCells] at p0 p1 p2 e2
  go_wp2_with fail
  refine (HTK.out _ x.src c w0 HX.out.1 HMK.out HPV.out).mono ?_
  rintro e w1 ⟨rfl, hg1, hm1, hl1⟩
  have HS1 := Lib.hid (HS.out.grown hg1)
  have HM1 := Lib.hid hm1
  have HP1 := Lib.hid (HPV.out.grown hg1 (fun k h => h))
  have HL1 := Lib.hid hl1
  clear hg1 hm1 hl1 HS HMK HPV p0 p1 p2 e2
  generalize tk x.src c = TA at *
  obtain ⟨ra, ca⟩ := TA
  simp only [Res.val] at *
  have hal := ((Below.refl w1.heap.size w1).alloc (Nat.le_refl _) (.cells (rCells ra) 31))
  have hY := Blk.new w1 31 (rCells ra)
  have HS2 := Lib.hid (HS1.out.below hal)
  have HM2 := Lib.hid (HM1.out.below hal)
  have HP2 := Lib.hid (HP1.out.below hal)
  have hYP : P + 1 + 1 < w1.heap.size := HS1.out.hR.lt
  go_upto_region 2 with (fail)
  change Code.wp _ _ _ _ (w1.alloc (.cells (rCells ra) 31))
  generalize w1.alloc (.cells (rCells ra) 31) = w2 at *
  generalize w1.heap.size = Y at *
  have HY := Lib.hid hY
  have HYP := Lib.hid hYP
  clear hal hY hYP HS1 HM1 HP1
  have y0 := HY.out.cell 0
  have y1 := HY.out.cell 1
  have y2 := HY.out.cell 2
  have y3 := HY.out.cell 3
  simp [rCells] at y0 y1 y2 y3
  have e3 := HS2.out.hE.cell 3
  have e4 := HS2.out.hE.cell 4
  simp [eCells] at e3 e4
  by_cases s2 : ra.state = 2
  · obtain ⟨ao, az, ab, aw⟩ := ra
    have s2 : az = 2 := s2
    subst s2
    simp only at y0 y1 y2 y3 HL1
    have b2 : ((2 : Int) == 2) = true := rfl
    by_cases ha : x.alt = []
    · have q1 : ((bs x.alt).toList != []) = false := by rw [toList_bs, ha]; rfl
      have q2 : (bs x.alt).toList = [] := by rw [toList_bs, ha]
      have q3 : (bs x.alt).toList.isEmpty = true := by rw [q2]; rfl
      have HZ3 : Hid (Z = if (2 : Int) = 2 ∧ x.soft = true then (doneR [], ca) else (lessR ⟨ao, 2, ab, aw⟩, ca)) := by rw [Hid, HZ.out, if_neg (fun h => h.2 ha)]
      have HSX := HS2
      have HMX := HM2
      have HLX := HL1
      clear HZ ha HS2 HM2 HL1
      cases hsf : x.soft with
      | true =>
        rw [hsf] at e4
        have HZ5 : Hid (Z = (doneR [], ca)) := by rw [Hid, HZ3.out, if_pos ⟨rfl, hsf⟩]
        clear HZ3 hsf
        have r0 := HSX.out.hR.cell 0
        have r1 := HSX.out.hR.cell 1
        have r2 := HSX.out.hR.cell 2
        have r3 := HSX.out.hR.cell 3
        simp [rCells] at r0 r1 r2 r3
        have f0 := HSX.out.hR.frozen 0
        have f1 := HSX.out.hR.frozen 1
        have f2 := HSX.out.hR.frozen 2
        have f3 := HSX.out.hR.frozen 3
        go_wp2_with fail
        obtain ⟨q1, q2⟩ := HSX.out.fin HMX.out (z := Z) HZ5.out (by simp [doneR])
        change bodyPost _ _ _ _ _ (fill4 w2 (P + 1 + 1) (doneR []))
        exact bodyPost_ret (include_results rfl q1) rfl q2
      | false =>
        rw [hsf] at e4
        have HZ5 : Hid (Z = (lessR (⟨ao, 2, ab, aw⟩ : Res), ca)) := by rw [Hid, HZ3.out, if_neg (fun h => by rw [hsf] at h; cases h.2)]
        clear HZ3 hsf
        go_wp2_with fail
        refine (less_calls (⟨ao, 2, ab, aw⟩ : Res) w2).mono ?_
        rintro e w9 ⟨rfl, hb9⟩
        have HS9 := Lib.hid (HSX.out.below hb9)
        have HM9 := Lib.hid (HMX.out.below hb9)
        have HL9 := Lib.hid (less_len (⟨ao, 2, ab, aw⟩ : Res) HLX.out)
        clear hb9 HSX HMX
        have HSX := HS9
        have HMX := HM9
        clear HS9 HM9
        generalize lessR (⟨ao, 2, ab, aw⟩ : Res) = r9 at *
        simp only [Res.val]
        have r0 := HSX.out.hR.cell 0
        have r1 := HSX.out.hR.cell 1
        have r2 := HSX.out.hR.cell 2
        have r3 := HSX.out.hR.cell 3
        simp [rCells] at r0 r1 r2 r3
        have f0 := HSX.out.hR.frozen 0
        have f1 := HSX.out.hR.frozen 1
        have f2 := HSX.out.hR.frozen 2
        have f3 := HSX.out.hR.frozen 3
        go_wp2_with fail
        obtain ⟨q1, q2⟩ := HSX.out.fin HMX.out (z := Z) HZ5.out HL9.out
        change bodyPost _ _ _ _ _ (fill4 w9 (P + 1 + 1) r9)
        exact bodyPost_ret (include_results rfl q1) rfl q2
    · have q1 : ((bs x.alt).toList != []) = true := by rw [toList_bs, bne_iff_ne]; exact ha
      have q2 : ¬ (bs x.alt).toList = [] := by rw [toList_bs]; exact ha
      have q3 : (bs x.alt).toList.isEmpty = false := by rw [toList_bs]; cases h : x.alt with | nil => exact absurd h ha | cons _ _ => rfl
      have HZ2 : Hid (Z = if (tk x.alt ca).1.state = 2 ∧ x.soft = true then (doneR [], (tk x.alt ca).2) else (lessR (tk x.alt ca).1, (tk x.alt ca).2)) := by rw [Hid, HZ.out, if_pos ⟨rfl, ha⟩]
      have HTA := Lib.hid (HX.out.2 ha)
      have p0 := HS2.out.hP.cell 0
      have p1 := HS2.out.hP.cell 1
      have p2 := HS2.out.hP.cell 2
      simp at p0 p1 p2
      clear HZ ha
      go_wp2_with fail
      refine (HTK.out _ x.alt ca w2 HTA.out HM2.out HP2.out).mono ?_
      rintro e w3 ⟨rfl, hg3, hm3, hl3⟩
      have HS3 := Lib.hid (HS2.out.grown hg3)
      have HM3 := Lib.hid hm3
      have HLX := Lib.hid hl3
      have HY3 := Lib.hid (HY.out.grown hg3 (by have h1 := HS2.out.hMw; have h2 := HS2.out.eqP; have h3 := HYP.out; simp; omega))
      clear hg3 hm3 hl3 HS2 HM2 HP2 p0 p1 p2 e3 e4 y0 y1 y2 y3 b2 q1 q2 q3 HY
      generalize tk x.alt ca = TB at *
      obtain ⟨rb, cb⟩ := TB
      simp only [Res.val] at *
      have y0 := HY3.out.cell 0
      have y1 := HY3.out.cell 1
      have y2 := HY3.out.cell 2
      have y3 := HY3.out.cell 3
      simp [rCells] at y0 y1 y2 y3
      have g0 := HY3.out.frozen 0
      have g1 := HY3.out.frozen 1
      have g2 := HY3.out.frozen 2
      have g3 := HY3.out.frozen 3
      go_upto_region 4 with (fail)
      have HY4 := Lib.hid (fill4_blk HY3.out rb)
      have hg4 := fill4_self w3 Y rb
      have HM4 := Lib.hid (HM3.out.other hg4 (by have h1 := HS3.out.hMw; have h2 := HS3.out.eqP; have h3 := HYP.out; omega))
      have HS4 := Lib.hid (HS3.out.other hg4 HYP.out)
      change Code.wp _ _ _ _ (fill4 w3 Y rb)
      generalize fill4 w3 Y rb = w4 at *
      clear hg4 HY3 HM3 HS3 y0 y1 y2 y3 g0 g1 g2 g3
      have HSX := HS4
      have HMX := HM4
      clear HS4 HM4
      have y0 := HY4.out.cell 0
      have y1 := HY4.out.cell 1
      have y2 := HY4.out.cell 2
      have y3 := HY4.out.cell 3
      simp [rCells] at y0 y1 y2 y3
      have e4 := HSX.out.hE.cell 4
      simp [eCells] at e4
      by_cases s2 : rb.state = 2
      · obtain ⟨bo, bz, bb, bw⟩ := rb
        have s2 : bz = 2 := s2
        subst s2
        simp only at y0 y1 y2 y3 HLX
        have b2 : ((2 : Int) == 2) = true := rfl
        cases hsf : x.soft with
        | true =>
          rw [hsf] at e4
          have HZ5 : Hid (Z = (doneR [], cb)) := by rw [Hid, HZ2.out, if_pos ⟨rfl, hsf⟩]
          clear HZ2 hsf
          have r0 := HSX.out.hR.cell 0
          have r1 := HSX.out.hR.cell 1
          have r2 := HSX.out.hR.cell 2
          have r3 := HSX.out.hR.cell 3
          simp [rCells] at r0 r1 r2 r3
          have f0 := HSX.out.hR.frozen 0
          have f1 := HSX.out.hR.frozen 1
          have f2 := HSX.out.hR.frozen 2
          have f3 := HSX.out.hR.frozen 3
          go_wp2_with fail
          obtain ⟨q1, q2⟩ := HSX.out.fin HMX.out (z := Z) HZ5.out (by simp [doneR])
          change bodyPost _ _ _ _ _ (fill4 w4 (P + 1 + 1) (doneR []))
          exact bodyPost_ret (include_results rfl q1) rfl q2
        | false =>
          rw [hsf] at e4
          have HZ5 : Hid (Z = (lessR (⟨bo, 2, bb, bw⟩ : Res), cb)) := by rw [Hid, HZ2.out, if_neg (fun h => by rw [hsf] at h; cases h.2)]
          clear HZ2 hsf
          go_wp2_with fail
          refine (less_calls (⟨bo, 2, bb, bw⟩ : Res) w4).mono ?_
          rintro e w9 ⟨rfl, hb9⟩
          have HS9 := Lib.hid (HSX.out.below hb9)
          have HM9 := Lib.hid (HMX.out.below hb9)
          have HL9 := Lib.hid (less_len (⟨bo, 2, bb, bw⟩ : Res) HLX.out)
          clear hb9 HSX HMX
          have HSX := HS9
          have HMX := HM9
          clear HS9 HM9
          generalize lessR (⟨bo, 2, bb, bw⟩ : Res) = r9 at *
          simp only [Res.val]
          have r0 := HSX.out.hR.cell 0
          have r1 := HSX.out.hR.cell 1
          have r2 := HSX.out.hR.cell 2
          have r3 := HSX.out.hR.cell 3
          simp [rCells] at r0 r1 r2 r3
          have f0 := HSX.out.hR.frozen 0
          have f1 := HSX.out.hR.frozen 1
          have f2 := HSX.out.hR.frozen 2
          have f3 := HSX.out.hR.frozen 3
          go_wp2_with fail
          obtain ⟨q1, q2⟩ := HSX.out.fin HMX.out (z := Z) HZ5.out HL9.out
          change bodyPost _ _ _ _ _ (fill4 w9 (P + 1 + 1) r9)
          exact bodyPost_ret (include_results rfl q1) rfl q2
      · have b2 : (rb.state == 2) = false := by rw [beq_eq_false_iff_ne]; exact s2
        have HZ5 : Hid (Z = (lessR rb, cb)) := by rw [Hid, HZ2.out, if_neg (fun h => s2 h.1)]
        clear HZ2 s2
        go_wp2_with fail
        refine (less_calls rb w4).mono ?_
        rintro e w9 ⟨rfl, hb9⟩
        have HS9 := Lib.hid (HSX.out.below hb9)
        have HM9 := Lib.hid (HMX.out.below hb9)
        have HL9 := Lib.hid (less_len rb HLX.out)
        clear hb9 HSX HMX
        have HSX := HS9
        have HMX := HM9
        clear HS9 HM9
        generalize lessR rb = r9 at *
        simp only [Res.val]
        have r0 := HSX.out.hR.cell 0
        have r1 := HSX.out.hR.cell 1
        have r2 := HSX.out.hR.cell 2
        have r3 := HSX.out.hR.cell 3
        simp [rCells] at r0 r1 r2 r3
        have f0 := HSX.out.hR.frozen 0
        have f1 := HSX.out.hR.frozen 1
        have f2 := HSX.out.hR.frozen 2
        have f3 := HSX.out.hR.frozen 3
        go_wp2_with fail
        obtain ⟨q1, q2⟩ := HSX.out.fin HMX.out (z := Z) HZ5.out HL9.out
        change bodyPost _ _ _ _ _ (fill4 w9 (P + 1 + 1) r9)
        exact bodyPost_ret (include_results rfl q1) rfl q2
  · have b2 : (ra.state == 2) = false := by rw [beq_eq_false_iff_ne]; exact s2
    have HZ5 : Hid (Z = (lessR ra, ca)) := by rw [Hid, HZ.out, if_neg (fun h => s2 h.1), if_neg (fun h => s2 h.1)]
    have HSX := HS2
    have HMX := HM2
    have HLX := HL1
    clear HZ s2 HS2 HM2 HL1
    go_wp2_with fail
    refine (less_calls ra w2).mono ?_
    rintro e w9 ⟨rfl, hb9⟩
    have HS9 := Lib.hid (HSX.out.below hb9)
    have HM9 := Lib.hid (HMX.out.below hb9)
    have HL9 := Lib.hid (less_len ra HLX.out)
    clear hb9 HSX HMX
    have HSX := HS9
    have HMX := HM9
    clear HS9 HM9
    generalize lessR ra = r9 at *
    simp only [Res.val]
    have r0 := HSX.out.hR.cell 0
    have r1 := HSX.out.hR.cell 1
    have r2 := HSX.out.hR.cell 2
    have r3 := HSX.out.hR.cell 3
    simp [rCells] at r0 r1 r2 r3
    have f0 := HSX.out.hR.frozen 0
    have f1 := HSX.out.hR.frozen 1
    have f2 := HSX.out.hR.frozen 2
    have f3 := HSX.out.hR.frozen 3
    go_wp2_with fail
    obtain ⟨q1, q2⟩ := HSX.out.fin HMX.out (z := Z) HZ5.out HL9.out
    change bodyPost _ _ _ _ _ (fill4 w9 (P + 1 + 1) r9)
    exact bodyPost_ret (include_results rfl q1) rfl q2
/-- include is walked at an element; a row is. -/
def RowAt (v : EnvD) (D : Dep) (rv : Value) (M : Nat) (base : List UInt8) (el : List Elem) (dep : Int) (tk : Tk) (l : List Elem) : Prop := ∀ (pv lv : Value) (sub : Bool) (n c : Nat) (W : World), MK v rv D.replies M W c →
  GR W (fun k => k ≠ M) (.row 7 (el.map Elem.gv)) [pv] → GR W (fun k => k ≠ M) (.row 7 (l.map Elem.gv)) [lv] → n ≤ 20000 →
  Calls Tryz.prog 53 #[.pointer (some ⟨M, 0, none⟩), .agg #[.string (bs base), pv, .int .i64 dep], lv, .bool sub, .int .i64 (n : Int)] W (EvPost v rv D.replies M W (rowF D tk sub n [] l c))
def OneAt (v : EnvD) (D : Dep) (rv : Value) (M : Nat) (base : List UInt8) (el : List Elem) (dep : Int) (tk : Tk) (x : Elem) : Prop := ∀ (pv kv : Value) (sub : Bool) (n c : Nat) (W : World), MK v rv D.replies M W c →
  GR W (fun k => k ≠ M) (.row 7 (el.map Elem.gv)) [pv] → GR W (fun k => k ≠ M) (.row 7 (x.kids.map Elem.gv)) [kv] → n ≤ 20000 →
  Calls Tryz.prog 86 #[.pointer (some ⟨M, 0, none⟩), .agg #[.string (bs base), pv, .int .i64 dep], eVal x kv, .bool sub, .int .i64 (n : Int)] W (EvPost v rv D.replies M W (oneF D tk sub n x c))
/-- A method of the maker that takes an element is walked at it. -/
def DoAt (f : Nat) (v : EnvD) (D : Dep) (rv : Value) (M : Nat) (base : List UInt8) (el : List Elem) (dep : Int) (x : Elem) (F : Bool → Nat → Nat → Res × Nat) : Prop := ∀ (pv kv : Value) (sub : Bool) (n c : Nat) (W : World), MK v rv D.replies M W c →
  GR W (fun k => k ≠ M) (.row 7 (el.map Elem.gv)) [pv] → GR W (fun k => k ≠ M) (.row 7 (x.kids.map Elem.gv)) [kv] → n ≤ 20000 →
  Calls Tryz.prog f #[.pointer (some ⟨M, 0, none⟩), .agg #[.string (bs base), pv, .int .i64 dep], eVal x kv, .bool sub, .int .i64 (n : Int)] W (EvPost v rv D.replies M W (F sub n c))
end Go.Proofs.YtijpfcjlochahaaGreatDoor
namespace Go.Proofs.YtijpfcjlochahaaGreatDoor
open Go Go.RowKit
set_option linter.unusedVariables false
set_option linter.unusedSimpArgs false

set_option maxRecDepth 20000 in
set_option maxHeartbeats 8000000 in
theorem eone_calls (v : EnvD) (D : Dep) (rv : Value) (M : Nat) (base : List UInt8) (el : List Elem) (dep : Int) (tk : Tk) (htk : TkOk v D rv M base el dep tk) (x : Elem) (hx : okE v D x)
    (hrow : x.kind = 10 → RowAt v D rv M base el dep tk x.kids)
    (hch : x.kind = 7 → DoAt 145 v D rv M base el dep x (fun sub n c => chooseF D tk sub n x.kids c))
    (htr : x.kind = 4 → DoAt 146 v D rv M base el dep x (fun sub n c => tryF D tk sub x.kids c)) : OneAt v D rv M base el dep tk x := by
  intro pv kv sub n c w hm hpv hkv hn
  obtain ⟨Ap, cp, rfl, -⟩ := elems_open hpv
  obtain ⟨Ak, ck, rfl, -⟩ := elems_open hkv
  have HZ := Lib.hid (oneF_eq D tk sub n x c)
  generalize oneF D tk sub n x c = Z at *
  obtain ⟨hx1, hx2, hx3, hx4, hx5, hx6, hx7⟩ := (okE_eq x).1 hx
  have HX1 := Lib.hid hx1
  have HX2 := Lib.hid hx2
  have HIN := Lib.hid (fun h pv kv sub n c w => einclude_calls v D rv M base el dep tk htk pv kv x sub n c w (hx3 h))
  have HROW := Lib.hid hrow
  have HCH := Lib.hid hch
  have HTR := Lib.hid htr
  have hn1 : (n : Int) ≤ 20000 := by omega
  have HN := Lib.hid hn
  have hal : Below w.heap.size w (((w.alloc (.cells #[.string (bs base), .slice Ap el.length cp, .int .i64 dep] 104)).alloc (.cells (eCells x (.slice Ak x.kids.length ck)).toArray 74)).alloc (.cells (rCells res0) 31)) :=
    (((Below.refl _ _).alloc (Nat.le_refl _) _).alloc (by rw [size_alloc]; omega) _).alloc (by rw [size_alloc, size_alloc]; omega) _
  have HS := Lib.hid (ISt.start w hm.blk.lt base (.slice Ap el.length cp) dep x (.slice Ak x.kids.length ck))
  have HMK := Lib.hid (hm.below hal)
  have HPV := Lib.hid (hpv.below hal)
  have HKV := Lib.hid (hkv.below hal)
  clear htk hx hm hpv hkv hal hrow hch htr hx1 hx2 hx3 hx4 hx5 hx6 hx7 hn
  simp only [eVal]
  go_enter Tryz.func86, Tryz.ntmps86
  go_upto_region 1 with (fail)
  change Code.wp _ _ _ _ (((w.alloc (.cells #[.string (bs base), .slice Ap el.length cp, .int .i64 dep] 104)).alloc (.cells (eCells x (.slice Ak x.kids.length ck)).toArray 74)).alloc (.cells (rCells res0) 31))
  generalize ((w.alloc (.cells #[.string (bs base), .slice Ap el.length cp, .int .i64 dep] 104)).alloc (.cells (eCells x (.slice Ak x.kids.length ck)).toArray 74)).alloc (.cells (rCells res0) 31) = w0 at *
  generalize w.heap.size = P at *
  have p0 := HS.out.hP.cell 0
  have p1 := HS.out.hP.cell 1
  have p2 := HS.out.hP.cell 2
  have e0 := HS.out.hE.cell 0
  have e1 := HS.out.hE.cell 1
  have e2 := HS.out.hE.cell 2
  have e3 := HS.out.hE.cell 3
  have e4 := HS.out.hE.cell 4
  have e5 := HS.out.hE.cell 5
  have e6 := HS.out.hE.cell 6
  simp [eCells] at p0 p1 p2 e0 e1 e2 e3 e4 e5 e6
  by_cases k1 : x.kind = 1
  · have b1 : (x.kind == 1) = true := by rw [k1]; rfl
    have HZ2 : Hid (Z = (doneR (if sub then D.sub x.text else x.text), c)) := by rw [Hid, HZ.out, if_pos k1]
    clear k1 HZ
    cases sub with
    | true =>
      have c0 := HMK.out.blk.cell 0
      have c1 := HMK.out.blk.cell 1
      have c2 := HMK.out.blk.cell 2
      have c3 := HMK.out.blk.cell 3
      have c4 := HMK.out.blk.cell 4
      have c5 := HMK.out.blk.cell 5
      simp [mCells] at c0 c1 c2 c3 c4 c5
      go_upto_region 6 with (fail)
      refine wp_region_still_tail 6 (by kernel_rfl) (by kernel_rfl) ?_
      change wpStill _ _ (World.drew w0) (fun a' => wpList _ _ _ _ a' (World.drew w0)) _ _
      simp only [List.take_succ_cons, List.take_zero, List.drop_succ_cons, List.drop_zero]
      repeat still_step
      refine wpStill_nil ?_
      have hgd : Glob w0.drew := HMK.out.glob.below (Below.refl _ _).drew
      have HGD := Lib.hid hgd
      clear hgd
      go_wp2_with fail
      refine (HX2.out.2 _ HGD.out).mono ?_
      rintro e w2 ⟨rfl, hb2⟩
      have hb2 : Below w0.heap.size w0 w2 := (Below.refl _ _).drew.trans hb2
      have HSX := Lib.hid (HS.out.below hb2)
      have HMX := Lib.hid (HMK.out.below hb2)
      clear hb2 HS HMK HPV HKV p0 p1 p2 e0 e1 e2 e3 e4 e5 e6 c0 c1 c2 c3 c4 c5
      have r0 := HSX.out.hR.cell 0
      have r1 := HSX.out.hR.cell 1
      have r2 := HSX.out.hR.cell 2
      have r3 := HSX.out.hR.cell 3
      simp [rCells] at r0 r1 r2 r3
      have f0 := HSX.out.hR.frozen 0
      have f1 := HSX.out.hR.frozen 1
      have f2 := HSX.out.hR.frozen 2
      have f3 := HSX.out.hR.frozen 3
      go_wp2_with fail
      obtain ⟨q1, q2⟩ := HSX.out.fin HMX.out (z := Z) HZ2.out (show (D.sub x.text).length ≤ 100000000 by have := HX2.out.1; omega)
      change bodyPost _ _ _ _ _ (fill4 w2 (P + 1 + 1) (doneR (D.sub x.text)))
      exact bodyPost_ret (one_results rfl q1) rfl q2
    | false =>
      have HSX := HS
      have HMX := HMK
      clear HS HMK HPV HKV
      have r0 := HSX.out.hR.cell 0
      have r1 := HSX.out.hR.cell 1
      have r2 := HSX.out.hR.cell 2
      have r3 := HSX.out.hR.cell 3
      simp [rCells] at r0 r1 r2 r3
      have f0 := HSX.out.hR.frozen 0
      have f1 := HSX.out.hR.frozen 1
      have f2 := HSX.out.hR.frozen 2
      have f3 := HSX.out.hR.frozen 3
      go_wp2_with fail
      obtain ⟨q1, q2⟩ := HSX.out.fin HMX.out (z := Z) HZ2.out (show x.text.length ≤ 100000000 by have := HX1.out; omega)
      change bodyPost _ _ _ _ _ (fill4 w0 (P + 1 + 1) (doneR x.text))
      exact bodyPost_ret (one_results rfl q1) rfl q2
  have b1 : (x.kind == 1) = false := by rw [beq_eq_false_iff_ne]; exact k1
  by_cases k10 : x.kind = 10
  · have b10 : (x.kind == 10) = true := by rw [k10]; rfl
    have HZ2 : Hid (Z = rowF D tk true n [] x.kids c) := by rw [Hid, HZ.out, if_neg k1, if_pos k10]
    have HRC := Lib.hid (HROW.out k10 _ _ true n c w0 HMK.out HPV.out HKV.out HN.out)
    rw [← HZ2.out] at HRC
    clear k1 k10 HZ HZ2
    go_wp2_with fail
    refine HRC.out.mono ?_
    rintro e w2 ⟨rfl, hg9, hm9, hl9⟩
    have HSX := Lib.hid (HS.out.grown hg9)
    have HMX := Lib.hid hm9
    have HLX := Lib.hid hl9
    clear hg9 hm9 hl9 HS HMK HPV HKV p0 p1 p2 e0 e1 e2 e3 e4 e5 e6
    obtain ⟨r9, c9⟩ := Z
    simp only [Res.val] at *
    have r0 := HSX.out.hR.cell 0
    have r1 := HSX.out.hR.cell 1
    have r2 := HSX.out.hR.cell 2
    have r3 := HSX.out.hR.cell 3
    simp [rCells] at r0 r1 r2 r3
    have f0 := HSX.out.hR.frozen 0
    have f1 := HSX.out.hR.frozen 1
    have f2 := HSX.out.hR.frozen 2
    have f3 := HSX.out.hR.frozen 3
    go_wp2_with fail
    obtain ⟨q1, q2⟩ := HSX.out.fin HMX.out (z := (r9, c9)) rfl HLX.out
    change bodyPost _ _ _ _ _ (fill4 w2 (P + 1 + 1) r9)
    exact bodyPost_ret (one_results rfl q1) rfl q2
  have b10 : (x.kind == 10) = false := by rw [beq_eq_false_iff_ne]; exact k10
  by_cases k7 : x.kind = 7
  · have b7 : (x.kind == 7) = true := by rw [k7]; rfl
    have HZ2 : Hid (Z = chooseF D tk sub n x.kids c) := by rw [Hid, HZ.out, if_neg k1, if_neg k10, if_pos k7]
    have HRC := Lib.hid (HCH.out k7 _ _ sub n c w0 HMK.out HPV.out HKV.out HN.out)
    simp only [eVal] at HRC
    rw [← HZ2.out] at HRC
    clear k1 k10 k7 HZ HZ2
    go_wp2_with fail
    refine HRC.out.mono ?_
    rintro e w2 ⟨rfl, hg9, hm9, hl9⟩
    have HSX := Lib.hid (HS.out.grown hg9)
    have HMX := Lib.hid hm9
    have HLX := Lib.hid hl9
    clear hg9 hm9 hl9 HS HMK HPV HKV p0 p1 p2 e0 e1 e2 e3 e4 e5 e6
    obtain ⟨r9, c9⟩ := Z
    simp only [Res.val] at *
    have r0 := HSX.out.hR.cell 0
    have r1 := HSX.out.hR.cell 1
    have r2 := HSX.out.hR.cell 2
    have r3 := HSX.out.hR.cell 3
    simp [rCells] at r0 r1 r2 r3
    have f0 := HSX.out.hR.frozen 0
    have f1 := HSX.out.hR.frozen 1
    have f2 := HSX.out.hR.frozen 2
    have f3 := HSX.out.hR.frozen 3
    go_wp2_with fail
    obtain ⟨q1, q2⟩ := HSX.out.fin HMX.out (z := (r9, c9)) rfl HLX.out
    change bodyPost _ _ _ _ _ (fill4 w2 (P + 1 + 1) r9)
    exact bodyPost_ret (one_results rfl q1) rfl q2
  have b7 : (x.kind == 7) = false := by rw [beq_eq_false_iff_ne]; exact k7
  by_cases k4 : x.kind = 4
  · have b4 : (x.kind == 4) = true := by rw [k4]; rfl
    have HZ2 : Hid (Z = tryF D tk sub x.kids c) := by rw [Hid, HZ.out, if_neg k1, if_neg k10, if_neg k7, if_pos k4]
    have HRC := Lib.hid (HTR.out k4 _ _ sub n c w0 HMK.out HPV.out HKV.out HN.out)
    simp only [eVal] at HRC
    rw [← HZ2.out] at HRC
    clear k1 k10 k7 k4 HZ HZ2
    go_wp2_with fail
    refine HRC.out.mono ?_
    rintro e w2 ⟨rfl, hg9, hm9, hl9⟩
    have HSX := Lib.hid (HS.out.grown hg9)
    have HMX := Lib.hid hm9
    have HLX := Lib.hid hl9
    clear hg9 hm9 hl9 HS HMK HPV HKV p0 p1 p2 e0 e1 e2 e3 e4 e5 e6
    obtain ⟨r9, c9⟩ := Z
    simp only [Res.val] at *
    have r0 := HSX.out.hR.cell 0
    have r1 := HSX.out.hR.cell 1
    have r2 := HSX.out.hR.cell 2
    have r3 := HSX.out.hR.cell 3
    simp [rCells] at r0 r1 r2 r3
    have f0 := HSX.out.hR.frozen 0
    have f1 := HSX.out.hR.frozen 1
    have f2 := HSX.out.hR.frozen 2
    have f3 := HSX.out.hR.frozen 3
    go_wp2_with fail
    obtain ⟨q1, q2⟩ := HSX.out.fin HMX.out (z := (r9, c9)) rfl HLX.out
    change bodyPost _ _ _ _ _ (fill4 w2 (P + 1 + 1) r9)
    exact bodyPost_ret (one_results rfl q1) rfl q2
  have b4 : (x.kind == 4) = false := by rw [beq_eq_false_iff_ne]; exact k4
  by_cases k2 : x.kind = 2
  · have b2 : (x.kind == 2) = true := by rw [k2]; rfl
    have HZ2 : Hid (Z = includeF tk x.src x.alt x.soft c) := by rw [Hid, HZ.out, if_neg k1, if_neg k10, if_neg k7, if_neg k4, if_pos k2]
    have HRC := Lib.hid (HIN.out k2 _ (.slice Ak x.kids.length ck) sub n c w0 HMK.out HPV.out ⟨_, _, _, rfl⟩)
    simp only [eVal] at HRC
    rw [← HZ2.out] at HRC
    clear k1 k10 k7 k4 k2 HZ HZ2
    go_wp2_with fail
    refine HRC.out.mono ?_
    rintro e w2 ⟨rfl, hg9, hm9, hl9⟩
    have HSX := Lib.hid (HS.out.grown hg9)
    have HMX := Lib.hid hm9
    have HLX := Lib.hid hl9
    clear hg9 hm9 hl9 HS HMK HPV HKV p0 p1 p2 e0 e1 e2 e3 e4 e5 e6
    obtain ⟨r9, c9⟩ := Z
    simp only [Res.val] at *
    have r0 := HSX.out.hR.cell 0
    have r1 := HSX.out.hR.cell 1
    have r2 := HSX.out.hR.cell 2
    have r3 := HSX.out.hR.cell 3
    simp [rCells] at r0 r1 r2 r3
    have f0 := HSX.out.hR.frozen 0
    have f1 := HSX.out.hR.frozen 1
    have f2 := HSX.out.hR.frozen 2
    have f3 := HSX.out.hR.frozen 3
    go_wp2_with fail
    obtain ⟨q1, q2⟩ := HSX.out.fin HMX.out (z := (r9, c9)) rfl HLX.out
    change bodyPost _ _ _ _ _ (fill4 w2 (P + 1 + 1) r9)
    exact bodyPost_ret (one_results rfl q1) rfl q2
  have b2 : (x.kind == 2) = false := by rw [beq_eq_false_iff_ne]; exact k2
  have HZ2 : Hid (Z = (doneR [], c)) := by rw [Hid, HZ.out, if_neg k1, if_neg k10, if_neg k7, if_neg k4, if_neg k2]
  have HSX := HS
  have HMX := HMK
  clear k1 k10 k7 k4 k2 HZ HS HMK HPV HKV
  have r0 := HSX.out.hR.cell 0
  have r1 := HSX.out.hR.cell 1
  have r2 := HSX.out.hR.cell 2
  have r3 := HSX.out.hR.cell 3
  simp [rCells] at r0 r1 r2 r3
  have f0 := HSX.out.hR.frozen 0
  have f1 := HSX.out.hR.frozen 1
  have f2 := HSX.out.hR.frozen 2
  have f3 := HSX.out.hR.frozen 3
  go_wp2_with fail
  obtain ⟨q1, q2⟩ := HSX.out.fin HMX.out (z := Z) HZ2.out (by simp [doneR])
  change bodyPost _ _ _ _ _ (fill4 w0 (P + 1 + 1) (doneR []))
  exact bodyPost_ret (one_results rfl q1) rfl q2
theorem row_results {w : World} {X : Nat} {tmps : Array Value} {r : Res} (h4 : tmps[10]?.getD undef = .pointer (some ⟨X, 0, none⟩)) (B0 : Blk w X 31 (rCells r)) :
    (results Tryz.f53 tmps).run Tryz.prog w = .ok r.val w := by
  have a0 := B0.cell 0
  have a1 := B0.cell 1
  have a2 := B0.cell 2
  have a3 := B0.cell 3
  simp [rCells] at a0 a1 a2 a3
  simp [results, Tryz.results53, go_sem, h4, a0, a1, a2, a3, Res.val]
theorem TSt.other {w W W' : World} {M P Y : Nat} {base : List UInt8} {pv : Value} {dep : Int} (h : TSt w W M P base pv dep) (hg : W.grownBy W' (some Y)) (hY : P + 1 < Y) : TSt w W' M P base pv dep := by
  have h2 := h.eqP
  exact ⟨h.hP.grown hg (by simp; omega), h.hR.grown hg (by simp; omega), grown_grown h.g hg (fun k hk => .inr (by injection hk with hk; omega)), h.hMw, h2⟩
set_option maxRecDepth 20000 in
set_option maxHeartbeats 8000000 in
theorem row_step (v : EnvD) (D : Dep) (rv : Value) (M : Nat) (base : List UInt8) (el : List Elem) (dep : Int) (tk : Tk) (l : List Elem) (hone : ∀ k (h : k < l.length), OneAt v D rv M base el dep tk l[k]) : RowAt v D rv M base el dep tk l := by
  intro pv lv sub n c w hm hpv hlv hn
  obtain ⟨Ap, cp, rfl, -⟩ := elems_open hpv
  obtain ⟨Al, cl, rfl, hlc, hcm, -⟩ := elems_open hlv
  unfold maxLen at hcm
  have HONE := Lib.hid hone
  have HPV := Lib.hid hpv
  have HLV := Lib.hid hlv
  have HZ0 : Hid (rowF D tk sub n [] l c = rowF D tk sub n [] (l.drop 0) c) := rfl
  generalize rowF D tk sub n [] l c = Z at *
  have hal : Below w.heap.size w ((w.alloc (.cells #[.string (bs base), .slice Ap el.length cp, .int .i64 dep] 104)).alloc (.cells (rCells res0) 31)) := ((Below.refl _ _).alloc (Nat.le_refl _) _).alloc (by rw [size_alloc]; omega) _
  have HS0 := Lib.hid (TSt.start w hm.blk.lt base (.slice Ap el.length cp) dep)
  have HM0 := Lib.hid (hm.below hal)
  have hn1 : (n : Int) ≤ 20000 := by omega
  clear hone hpv hlv hm hal
  go_enter Tryz.func53, Tryz.ntmps53
  go_upto_region 1 with (fail)
  change Code.wp _ _ _ _ ((w.alloc (.cells #[.string (bs base), .slice Ap el.length cp, .int .i64 dep] 104)).alloc (.cells (rCells res0) 31))
  generalize (w.alloc (.cells #[.string (bs base), .slice Ap el.length cp, .int .i64 dep] 104)).alloc (.cells (rCells res0) 31) = w0 at *
  generalize hPP : w.heap.size = P at *
  clear hPP
  go_wp2_with fail
  go_loopw [11, 17] (fun ov i wr => ∃ (k ck : Nat) (out : List UInt8), k ≤ l.length ∧ i = .int .i64 k ∧ ov = .string (bs out) ∧ n + out.length ≤ 20000 ∧ Hid (Z = rowF D tk sub n out (l.drop k) ck) ∧ Hid (TSt w wr M P base (.slice Ap el.length cp) dep) ∧ Hid (MK v rv D.replies M wr ck))
     (fun _ i wr => l.length - (intOf i).toNat)
  case atStart => exact ⟨0, c, [], Nat.zero_le _, rfl, rfl, by simpa using hn, HZ0.out, HS0.out, HM0.out⟩
  case round =>
    clear HZ0 HS0 HM0
    obtain ⟨k, ck, out, hk, rfl, rfl, hno, HZ, HS, HM⟩ := hrel
    have hso := size_bs out
    by_cases hlt : k < l.length
    · have hlw := HLV.out.grown HS.out.g (fun k h => h)
      have hpw := HPV.out.grown HS.out.g (fun k h => h)
      obtain ⟨A', c', hA', -, -, hop⟩ := elems_open hlw
      injection hA' with q1 q2 q3
      subst q1 q3
      obtain ⟨b, off, rfl, hFb, hop⟩ := hop (by rintro rfl; simp at hlt)
      obtain ⟨Ak, ckk, hE⟩ := hop k hlt
      have e0 := hE.c0
      have e1 := hE.c1
      have e2 := hE.c2
      have e3 := hE.c3
      have e4 := hE.c4
      have e5 := hE.c5
      have e6 := hE.c6
      have HKI := Lib.hid hE.kids
      have HPW := Lib.hid hpw
      have H1 := Lib.hid (HONE.out k hlt)
      have HZ2 : Hid (Z = rowF D tk sub n out (l[k] :: l.drop (k + 1)) ck) := by rw [Hid, HZ.out, List.drop_eq_getElem_cons hlt]
      rw [rowF_cons] at HZ2
      have hk1 : (0 : Int) ≤ (k : Int) := by omega
      have hk2 : (k : Int) < (l.length : Int) := by omega
      clear hE hop hlw hpw q2 HZ hFb
      generalize l[k] = x at *
      go_upto_region 5 with (fail)
      have hX := Blk.new wr 74 (eCells x (.slice Ak x.kids.length ckk)).toArray
      have hal : Below wr.heap.size wr (wr.alloc (.cells (eCells x (.slice Ak x.kids.length ckk)).toArray 74)) := (Below.refl _ _).alloc (Nat.le_refl _) _
      have HS5 := Lib.hid (HS.out.below hal)
      have HM5 := Lib.hid (HM.out.below hal)
      have HK5 := Lib.hid (HKI.out.below hal)
      have HP5 := Lib.hid (HPW.out.below hal)
      change Code.wp _ _ _ _ (wr.alloc (.cells (eCells x (.slice Ak x.kids.length ckk)).toArray 74))
      generalize wr.alloc (.cells (eCells x (.slice Ak x.kids.length ckk)).toArray 74) = w5 at *
      clear e0 e1 e2 e3 e4 e5 e6 hal HKI HPW HS HM
      generalize wr.heap.size = X at *
      have x0 := hX.cell 0
      have x1 := hX.cell 1
      have x2 := hX.cell 2
      have x3 := hX.cell 3
      have x4 := hX.cell 4
      have x5 := hX.cell 5
      have x6 := hX.cell 6
      have p0 := HS5.out.hP.cell 0
      have p1 := HS5.out.hP.cell 1
      have p2 := HS5.out.hP.cell 2
      simp [eCells] at x0 x1 x2 x3 x4 x5 x6 p0 p1 p2
      clear hX
      have HRC := Lib.hid (H1.out _ _ sub (n + out.length) ck w5 HM5.out HP5.out HK5.out hno)
      generalize oneF D tk sub (n + out.length) x ck = O at *
      obtain ⟨r, c2⟩ := O
      rw [Int.natCast_add] at HRC
      simp only [eVal] at HRC
      simp only at HZ2
      have hno2 : (n : Int) + (out.length : Int) ≤ 20000 := by omega
      go_wp2_with fail
      refine HRC.out.mono ?_
      rintro e w6 ⟨rfl, hg6, hm6, hl6⟩
      have HS6 := Lib.hid (HS5.out.grown hg6)
      have HM6 := Lib.hid hm6
      have hl6 : r.out.length ≤ 100000000 := hl6
      clear hg6 hm6 HS5 HM5 HK5 HP5 x0 x1 x2 x3 x4 x5 x6 p0 p1 p2 HRC
      simp only [Res.val]
      have hal := ((Below.refl w6.heap.size w6).alloc (Nat.le_refl _) (.cells (rCells r) 31))
      have hY := Blk.new w6 31 (rCells r)
      have HS7 := Lib.hid (HS6.out.below hal)
      have HM7 := Lib.hid (HM6.out.below hal)
      have hYP : P + 1 < w6.heap.size := HS6.out.hR.lt
      go_upto_region 6 with (fail)
      change Code.wp _ _ _ _ (w6.alloc (.cells (rCells r) 31))
      generalize w6.alloc (.cells (rCells r) 31) = w7 at *
      generalize w6.heap.size = Y at *
      have HY := Lib.hid hY
      have HYP := Lib.hid hYP
      clear hal hY hYP HS6 HM6
      have y0 := HY.out.cell 0
      have y1 := HY.out.cell 1
      have y2 := HY.out.cell 2
      have y3 := HY.out.cell 3
      simp [rCells] at y0 y1 y2 y3
      have hsr := size_bs r.out
      by_cases hlong : 20000 < n + out.length + r.out.length
      · have hli : (20000 : Int) < (n : Int) + (out.length : Int) + (r.out.length : Int) := by omega
        have HZ3 : Hid (Z = (failR out 2, c2)) := by rw [Hid, HZ2.out, if_pos hlong]
        clear hlong HZ2
        go_wp2_with fail
        refine (fail_calls19 out 2 w7).mono ?_
        rintro e w9 ⟨rfl, hb9⟩
        have HSX := Lib.hid (HS7.out.below hb9)
        have HMX := Lib.hid (HM7.out.below hb9)
        have HOL : Hid (out.length ≤ 20000) := by rw [Hid]; omega
        clear hb9 HS7 HM7
        simp only [Res.val, failR]
        have r0 := HSX.out.hR.cell 0
        have r1 := HSX.out.hR.cell 1
        have r2 := HSX.out.hR.cell 2
        have r3 := HSX.out.hR.cell 3
        simp [rCells] at r0 r1 r2 r3
        have f0 := HSX.out.hR.frozen 0
        have f1 := HSX.out.hR.frozen 1
        have f2 := HSX.out.hR.frozen 2
        have f3 := HSX.out.hR.frozen 3
        go_wp2_with fail
        obtain ⟨q1, q2⟩ := HSX.out.fin HMX.out (z := Z) HZ3.out (show out.length ≤ 100000000 by have := HOL.out; omega)
        change bodyPost _ _ _ _ _ (fill4 w9 (P + 1) (failR out 2))
        exact bodyPost_ret (row_results rfl q1) rfl q2
      · have hli : ¬ (20000 : Int) < (n : Int) + (out.length : Int) + (r.out.length : Int) := by omega
        have HZ3 : Hid (Z = if r.state ≠ 0 then (r.behind out, c2) else rowF D tk sub n (out ++ r.out) (l.drop (k + 1)) c2) := by rw [Hid, HZ2.out, if_neg hlong]
        have hsum : (bs out).size + (bs r.out).size ≤ 1000000 := by omega
        have hba : bs out ++ bs r.out = bs (out ++ r.out) := bs_append _ _
        have HLL : Hid (n + (out ++ r.out).length ≤ 20000) := by rw [Hid, List.length_append]; omega
        clear hlong HZ2
        by_cases hst : r.state = 0
        · have bst : (r.state != 0) = false := by rw [hst]; rfl
          have HZ4 : Hid (Z = rowF D tk sub n (out ++ r.out) (l.drop (k + 1)) c2) := by rw [Hid, HZ3.out, if_neg (by simpa using hst)]
          have HBA := Lib.hid hba
          clear hst HZ3
          go_wp2_with fail
          go_roundw
          case rel => exact ⟨k + 1, c2, out ++ r.out, hlt, by go_num, rfl, HLL.out, HZ4.out, HS7.out, HM7.out⟩
          case measure => simp [intOf]; omega
        · have bst : (r.state != 0) = true := by rw [bne_iff_ne]; exact hst
          have HZ4 : Hid (Z = (r.behind out, c2)) := by rw [Hid, HZ3.out, if_pos hst]
          have g0 := HY.out.frozen 0
          clear hst HZ3
          go_upto_region 11 with (fail)
          have hg8 : w7.grownBy (w7.setCell ⟨Y, 0, none⟩ (.string (bs (out ++ r.out)))) (some Y) := grown_setCell (grown_refl _ _) (.inl rfl) _
          have HSX := Lib.hid (HS7.out.other hg8 HYP.out)
          have HMX := Lib.hid (HM7.out.other hg8 (by have h1 := HS7.out.hMw; have h2 := HS7.out.eqP; have h3 := HYP.out; omega))
          have HY8 := Lib.hid (HY.out.set_ 0 (.string (bs (out ++ r.out))))
          change Code.wp _ _ _ _ (w7.setCell ⟨Y, 0, none⟩ (.string (bs (out ++ r.out))))
          generalize w7.setCell ⟨Y, 0, none⟩ (.string (bs (out ++ r.out))) = w8 at *
          clear hg8 HS7 HM7 y0 y1 y2 y3 g0 HY
          have y0 : w8.cell? ⟨Y, 0, none⟩ = some (.string (bs (out ++ r.out))) := HY8.out.cell 0
          have y1 : w8.cell? ⟨Y, 1, none⟩ = some (.int .i64 r.state) := HY8.out.cell 1
          have y2 : w8.cell? ⟨Y, 2, none⟩ = some (.int .i64 r.bad) := HY8.out.cell 2
          have y3 : w8.cell? ⟨Y, 3, none⟩ = some (.string (bs r.want)) := HY8.out.cell 3
          have r0 := HSX.out.hR.cell 0
          have r1 := HSX.out.hR.cell 1
          have r2 := HSX.out.hR.cell 2
          have r3 := HSX.out.hR.cell 3
          simp [rCells] at r0 r1 r2 r3
          have f0 := HSX.out.hR.frozen 0
          have f1 := HSX.out.hR.frozen 1
          have f2 := HSX.out.hR.frozen 2
          have f3 := HSX.out.hR.frozen 3
          go_wp2_with fail
          obtain ⟨q1, q2⟩ := HSX.out.fin HMX.out (z := Z) HZ4.out (show (out ++ r.out).length ≤ 100000000 by have := HLL.out; omega)
          change bodyPost _ _ _ _ _ (fill4 w8 (P + 1) (r.behind out))
          exact bodyPost_ret (row_results rfl q1) rfl q2
    · have hkl : k = l.length := by omega
      have HZ3 : Hid (Z = (doneR out, ck)) := by rw [Hid, HZ.out, hkl, List.drop_length, rowF]
      have HSX := HS
      have HMX := HM
      have HOL : Hid (out.length ≤ 20000) := by rw [Hid]; omega
      subst hkl
      clear HZ HS HM
      have r0 := HSX.out.hR.cell 0
      have r1 := HSX.out.hR.cell 1
      have r2 := HSX.out.hR.cell 2
      have r3 := HSX.out.hR.cell 3
      simp [rCells] at r0 r1 r2 r3
      have f0 := HSX.out.hR.frozen 0
      have f1 := HSX.out.hR.frozen 1
      have f2 := HSX.out.hR.frozen 2
      have f3 := HSX.out.hR.frozen 3
      go_wp2_with fail
      obtain ⟨q1, q2⟩ := HSX.out.fin HMX.out (z := Z) HZ3.out (show out.length ≤ 100000000 by have := HOL.out; omega)
      change bodyPost _ _ _ _ _ (fill4 wr (P + 1) (doneR out))
      exact bodyPost_ret (row_results rfl q1) rfl q2
end Go.Proofs.YtijpfcjlochahaaGreatDoor
namespace Go.Proofs.YtijpfcjlochahaaGreatDoor
open Go Go.RowKit
set_option linter.unusedVariables false
set_option linter.unusedSimpArgs false

theorem rows_flat (v : EnvD) (D : Dep) (rv : Value) (M : Nat) (hf : D.full = false) (hreps : RepsOk v D) : ∀ d, d ≤ 4 → ∀ l, RowOk v D rv M d l := by
  intro d
  induction d with
  | zero =>
    intro hd l base el pv lv sub n c W hbp hel hl hm hpv hlv hn
    have htk : TkOk v D rv M base el (4 - ((0 : Nat) : Int)) (takeD D 0 base el) := fun pv s c W hs hm hpv => take_calls v D rv M 0 hd (fun h => absurd rfl h) hreps base el pv s c W hbp hel hs hm hpv
    have key : ∀ (k : Nat) (l : List Elem), sizeF l ≤ k → okL v D l → RowAt v D rv M base el (4 - ((0 : Nat) : Int)) (takeD D 0 base el) l := by
      intro k
      induction k using Nat.strongRecOn with
      | ind k ih =>
        intro l hk hl
        refine row_step v D rv M base el _ _ l fun j hj => ?_
        have hx := okL_at hl j hj
        have hx2 := (okE_eq _).1 hx
        refine eone_calls v D rv M base el _ _ htk l[j] hx (fun _ => ih (sizeF l[j].kids) ?_ _ (Nat.le_refl _) hx2.2.2.2.2.2.2) (fun h => ?_) (fun h => ?_)
        · have h1 := sizeE_mem hj
          have h2 := sizeE_eq l[j]
          omega
        · have := (hx2.2.2.2.2.2.1 h).1
          rw [hf] at this
          cases this
        · have := (hx2.2.2.2.2.1 h).1
          rw [hf] at this
          cases this
    exact key _ l (Nat.le_refl _) hl pv lv sub n c W hm hpv hlv hn
  | succ d ihd =>
    intro hd l base el pv lv sub n c W hbp hel hl hm hpv hlv hn
    have htk : TkOk v D rv M base el (4 - ((d + 1 : Nat) : Int)) (takeD D (d + 1) base el) := fun pv s c W hs hm hpv => take_calls v D rv M (d + 1) hd (fun _ l => ihd (by omega) l) hreps base el pv s c W hbp hel hs hm hpv
    have key : ∀ (k : Nat) (l : List Elem), sizeF l ≤ k → okL v D l → RowAt v D rv M base el (4 - ((d + 1 : Nat) : Int)) (takeD D (d + 1) base el) l := by
      intro k
      induction k using Nat.strongRecOn with
      | ind k ih =>
        intro l hk hl
        refine row_step v D rv M base el _ _ l fun j hj => ?_
        have hx := okL_at hl j hj
        have hx2 := (okE_eq _).1 hx
        refine eone_calls v D rv M base el _ _ htk l[j] hx (fun _ => ih (sizeF l[j].kids) ?_ _ (Nat.le_refl _) hx2.2.2.2.2.2.2) (fun h => ?_) (fun h => ?_)
        · have h1 := sizeE_mem hj
          have h2 := sizeE_eq l[j]
          omega
        · have := (hx2.2.2.2.2.2.1 h).1
          rw [hf] at this
          cases this
        · have := (hx2.2.2.2.2.1 h).1
          rw [hf] at this
          cases this
    exact key _ l (Nat.le_refl _) hl pv lv sub n c W hm hpv hlv hn
/-- A page as an argument. -/
def pageV (v : EnvD) (base body : List UInt8) (esi : Bool) : Value := .agg #[.string (bs v.e0), .string (bs v.e1), .string (bs v.e2), .string (bs v.e3), .string (bs v.e4), .string (bs v.e5), .string (bs base), .string (bs body), .bool esi]
def pageRight (base body : List UInt8) : Bool := decide ((parseF base).2 = 0) && ((parseF base).1.abs && decide (body.length ≤ 20000))
def pgCells (v : EnvD) (base body : List UInt8) (esi : Bool) : Array Value := #[.string (bs v.e0), .string (bs v.e1), .string (bs v.e2), .string (bs v.e3), .string (bs v.e4), .string (bs v.e5), .string (bs base), .string (bs body), .bool esi]
set_option maxRecDepth 20000 in
set_option maxHeartbeats 2000000 in
theorem eright_calls (v : EnvD) (base body : List UInt8) (esi : Bool) (hb : ParseOk base) (w : World) (hg : Glob w) :
    Calls Tryz.prog 31 #[pageV v base body esi] w fun e w' => e = .returned (.bool (pageRight base body)) ∧ Below w.heap.size w w' := by
  have HP := Lib.hid hb
  have HR : Hid (pageRight base body = (decide ((parseF base).2 = 0) && ((parseF base).1.abs && decide (body.length ≤ 20000)))) := rfl
  unfold ParseOk at HP
  generalize pageRight base body = R at *
  generalize parseF base = PB at *
  obtain ⟨u, eu⟩ := PB
  simp only at HR HP
  have hal : Below w.heap.size w (w.alloc (.cells (pgCells v base body esi) 25)) := (Below.refl _ _).alloc (Nat.le_refl _) _
  have HX := Lib.hid (Blk.new w 25 (pgCells v base body esi))
  have HB := Lib.hid hal
  have HG := Lib.hid (hg.below hal)
  have hsz := size_bs body
  clear hal hg hb
  simp only [pageV]
  go_enter Tryz.func31, Tryz.ntmps31
  go_wp2_with fail
  refine (HP.out _ HG.out).mono ?_
  rintro e w1 ⟨rfl, hb1⟩
  have hX1 := HX.out.below hb1 HX.out.lt
  have hB1 := HB.out.trans (hb1.mono HB.out.size)
  have hal := ((Below.refl w1.heap.size w1).alloc (Nat.le_refl _) (.cells (uCells u) 94))
  have HU := Lib.hid (Blk.new w1 94 (uCells u))
  have HX2 := Lib.hid (hX1.below hal hX1.lt)
  have HB2 := Lib.hid (hB1.trans (hal.mono hB1.size))
  clear hb1 HX HB HG hX1 hB1 hal
  simp only [UriD.val]
  go_upto_region 2 with (fail)
  change Code.wp _ _ _ _ (w1.alloc (.cells (uCells u) 94))
  generalize w1.alloc (.cells (uCells u) 94) = w2 at *
  generalize w1.heap.size = Y at *
  have y0 := HU.out.cell 0
  have x7 := HX2.out.cell 7
  simp [uCells, pgCells] at y0 x7
  by_cases he : eu = 0
  · have be : (eu == 0) = true := by rw [he]; rfl
    cases hab : u.abs with
    | true =>
      rw [hab] at y0
      have HR2 : Hid (R = decide (body.length ≤ 20000)) := by rw [Hid, HR.out, hab, decide_eq_true he]; rfl
      clear he hab HR
      by_cases hl : body.length ≤ 20000
      · have hli : (body.length : Int) ≤ 20000 := by omega
        have HR3 : Hid (R = true) := by rw [Hid, HR2.out, decide_eq_true hl]
        clear hl HR2
        go_wp2_with fail
        go_ret
        exact ⟨ret_bool HR3.out.symm, HB2.out⟩
      · have hli : ¬ (body.length : Int) ≤ 20000 := by omega
        have HR3 : Hid (R = false) := by rw [Hid, HR2.out, decide_eq_false hl]
        clear hl HR2
        go_wp2_with fail
        go_ret
        exact ⟨ret_bool HR3.out.symm, HB2.out⟩
    | false =>
      rw [hab] at y0
      have HR2 : Hid (R = false) := by rw [Hid, HR.out, hab]; simp
      clear he hab HR
      go_wp2_with fail
      go_ret
      exact ⟨ret_bool HR2.out.symm, HB2.out⟩
  · have be : (eu == 0) = false := by rw [beq_eq_false_iff_ne]; exact he
    have HR2 : Hid (R = false) := by rw [Hid, HR.out, decide_eq_false he]; rfl
    clear he HR
    go_wp2_with fail
    go_ret
    exact ⟨ret_bool HR2.out.symm, HB2.out⟩
theorem run_results {w : World} {X : Nat} {tmps : Array Value} {r : Res} {b : Value} (h4 : tmps[4]?.getD undef = .pointer (some ⟨X, 0, none⟩)) (h5 : tmps[5]?.getD undef = b) (B0 : Blk w X 31 (rCells r)) :
    (results Tryz.f10 tmps).run Tryz.prog w = .ok (.tuple #[r.val, b]) w := by
  have a0 := B0.cell 0
  have a1 := B0.cell 1
  have a2 := B0.cell 2
  have a3 := B0.cell 3
  simp [rCells] at a0 a1 a2 a3
  simp [results, Tryz.results10, go_sem, h4, h5, a0, a1, a2, a3, Res.val]
def erunF (D : Dep) (base body : List UInt8) (esi : Bool) : Res × Int :=
  if pageRight base body then (if esi then (wholeF D base body, 0) else (doneR body, 0)) else (res0, 1)
theorem tab_lt {w : World} {name : String} {k : IntKind} {zs : List Int} (h : Lib.TabIs Tryz.prog w name k zs) {g : Nat} (hg : Tryz.prog.globalNamed name = some g) : g < w.heap.size := by
  unfold Lib.TabIs World.var? at h
  rw [hg] at h
  rcases Nat.lt_or_ge g w.heap.size with h1 | h1
  · exact h1
  · simp [Array.getElem?_eq_none h1] at h
theorem MK.new {v : EnvD} {rv : Value} {reps : List Rep} {w : World} {F : Nat → Prop} (hr : GR w F (.row 5 (reps.map Rep.gv)) [rv]) (hg : Glob w) : MK v rv reps w.heap.size (w.alloc (.cells (mCells v rv 0) 69)) 0 := by
  have hal : Below w.heap.size w (w.alloc (.cells (mCells v rv 0) 69)) := (Below.refl _ _).alloc (Nat.le_refl _) _
  refine ⟨Blk.new w 69 (mCells v rv 0), ((GR.lt_heap _ _ hr).weaken (fun k hk => hk.2)).below hal, hg.below hal, ⟨?_, fun g hgn => tab_lt hg.2 hgn⟩, by omega⟩
  obtain ⟨m, hm⟩ := hg.1
  exact World.block_lt_of_cell? w _ hm
set_option maxRecDepth 20000 in
set_option maxHeartbeats 4000000 in
theorem erun_calls (v : EnvD) (D : Dep) (base body : List UInt8) (esi : Bool) (rv : Value) (F : Nat → Prop) (hb : ParseOk base) (hf : D.full = false) (hreps : RepsOk v D) (hok : (readF body).2 = 0 → okL v D (readF body).1) (hbl : body.length ≤ 90000)
    (w : World) (hg : Glob w) (hrv : GR w F (.row 5 (D.replies.map Rep.gv)) [rv]) :
    Calls Tryz.prog 10 #[pageV v base body esi, rv] w fun e w' => e = .returned (.tuple #[(erunF D base body esi).1.val, .int .i64 (erunF D base body esi).2]) ∧ Below w.heap.size w w' := by
  obtain ⟨Ar, cr, rfl, -⟩ := reps_open hrv
  have HZ : Hid (erunF D base body esi = if pageRight base body then (if esi then (wholeF D base body, 0) else (doneR body, 0)) else (res0, 1)) := rfl
  have HER := Lib.hid (fun W hg => eright_calls v base body esi hb W hg)
  have HWH := Lib.hid (fun M c w rv hm => whole_calls v D rv M 4 base body (fun _ => rows_flat v D rv M hf hreps 4 (Nat.le_refl _) _) c w hb hok hm (Nat.le_refl _) hbl)
  have hal0 : Below w.heap.size w (w.alloc (.cells (pgCells v base body esi) 25)) := (Below.refl _ _).alloc (Nat.le_refl _) _
  have hal := hal0.alloc hal0.size (.cells (rCells res0) 31)
  have h1 := Blk.new w 25 (pgCells v base body esi)
  have h2 := Blk.new (w.alloc (.cells (pgCells v base body esi) 25)) 31 (rCells res0)
  rw [size_alloc] at h2
  have HX := Lib.hid (h1.alloc (.cells (rCells res0) 31))
  have HR := Lib.hid h2
  have HB := Lib.hid hal
  have HG := Lib.hid (hg.below hal)
  have HRV := Lib.hid (hrv.below hal)
  clear hal0 hal h1 h2 hg hrv hok hreps hb
  generalize erunF D base body esi = Z at *
  simp only [pageV] at *
  go_enter Tryz.func10, Tryz.ntmps10
  go_upto_region 1 with (fail)
  change Code.wp _ _ _ _ ((w.alloc (.cells (pgCells v base body esi) 25)).alloc (.cells (rCells res0) 31))
  generalize (w.alloc (.cells (pgCells v base body esi) 25)).alloc (.cells (rCells res0) 31) = w0 at *
  generalize hPP : w.heap.size = P at *
  have HPP := Lib.hid hPP
  clear hPP
  have HR : Hid (Blk w0 (P + 1) 31 (rCells res0)) := HR
  have x0 := HX.out.cell 0
  have x1 := HX.out.cell 1
  have x2 := HX.out.cell 2
  have x3 := HX.out.cell 3
  have x4 := HX.out.cell 4
  have x5 := HX.out.cell 5
  have x6 := HX.out.cell 6
  have x7 := HX.out.cell 7
  have x8 := HX.out.cell 8
  simp [pgCells] at x0 x1 x2 x3 x4 x5 x6 x7 x8
  go_wp2_with fail
  refine (HER.out w0 HG.out).mono ?_
  rintro e w1 ⟨rfl, hb1⟩
  have hx := HX.out.below hb1 HX.out.lt
  have hr := HR.out.below hb1 HR.out.lt
  have hbb := HB.out.trans (hb1.mono (by have := HB.out.size; rw [HPP.out] at this; exact this))
  have hgg := HG.out.below hb1
  have hrv := HRV.out.below hb1
  clear x0 x1 x2 x3 x4 x5 x6 x7 x8 HX HR HB HG HRV hb1
  have HX := Lib.hid hx
  have HR := Lib.hid hr
  have HB := Lib.hid hbb
  have HG := Lib.hid hgg
  have HRV := Lib.hid hrv
  clear hx hr hbb hgg hrv
  cases hpr : pageRight base body with
  | false =>
    have HZ2 : Hid (Z = (res0, 1)) := by rw [Hid, HZ.out, hpr]; rfl
    have r0 := HR.out.cell 0
    have r1 := HR.out.cell 1
    have r2 := HR.out.cell 2
    have r3 := HR.out.cell 3
    simp [rCells] at r0 r1 r2 r3
    have f0 := HR.out.frozen 0
    have f1 := HR.out.frozen 1
    have f2 := HR.out.frozen 2
    have f3 := HR.out.frozen 3
    go_wp2_with fail
    have q1 := fill4_blk HR.out res0
    have q2 := fill4_below HB.out (show P ≤ P + 1 by omega) res0
    change bodyPost _ _ _ _ _ (fill4 w1 (P + 1) res0)
    refine bodyPost_ret (run_results rfl rfl q1) rfl ⟨?_, by rw [HPP.out]; exact q2⟩
    rw [HZ2.out]
    rfl
  | true =>
    have x0 := HX.out.cell 0
    have x1 := HX.out.cell 1
    have x2 := HX.out.cell 2
    have x3 := HX.out.cell 3
    have x4 := HX.out.cell 4
    have x5 := HX.out.cell 5
    have x6 := HX.out.cell 6
    have x7 := HX.out.cell 7
    have x8 := HX.out.cell 8
    simp [pgCells] at x0 x1 x2 x3 x4 x5 x6 x7 x8
    cases esi with
    | false =>
      have HZ2 : Hid (Z = (doneR body, 0)) := by rw [Hid, HZ.out, hpr]; rfl
      have r0 := HR.out.cell 0
      have r1 := HR.out.cell 1
      have r2 := HR.out.cell 2
      have r3 := HR.out.cell 3
      simp [rCells] at r0 r1 r2 r3
      have f0 := HR.out.frozen 0
      have f1 := HR.out.frozen 1
      have f2 := HR.out.frozen 2
      have f3 := HR.out.frozen 3
      go_wp2_with fail
      have q1 := fill4_blk HR.out (doneR body)
      have q2 := fill4_below HB.out (show P ≤ P + 1 by omega) (doneR body)
      change bodyPost _ _ _ _ _ (fill4 w1 (P + 1) (doneR body))
      refine bodyPost_ret (run_results rfl rfl q1) rfl ⟨?_, by rw [HPP.out]; exact q2⟩
      rw [HZ2.out]
      rfl
    | true =>
      have HZ2 : Hid (Z = (wholeF D base body, 0)) := by rw [Hid, HZ.out, hpr]; rfl
      go_upto_region 6 with (fail)
      have hmk := MK.new (v := v) HRV.out HG.out
      have hal : Below w1.heap.size w1 (w1.alloc (.cells (mCells v (.slice Ar D.replies.length cr) 0) 69)) := (Below.refl _ _).alloc (Nat.le_refl _) _
      have hx := HX.out.below hal HX.out.lt
      have hr := HR.out.below hal HR.out.lt
      have hbb := HB.out.trans (hal.mono (by have := HB.out.size; rw [HPP.out] at this; exact this))
      have hMP : P + 1 < w1.heap.size := HR.out.lt
      change Code.wp _ _ _ _ (w1.alloc (.cells (mCells v (.slice Ar D.replies.length cr) 0) 69))
      generalize w1.alloc (.cells (mCells v (.slice Ar D.replies.length cr) 0) 69) = w2 at *
      generalize w1.heap.size = M at *
      clear x0 x1 x2 x3 x4 x5 x6 x7 x8 HX HR HB HG HRV hal
      have HX := Lib.hid hx
      have HR := Lib.hid hr
      have HB := Lib.hid hbb
      have HM := Lib.hid hmk
      have HMP := Lib.hid hMP
      clear hx hr hbb hmk hMP
      have x0 := HX.out.cell 0
      have x1 := HX.out.cell 1
      have x2 := HX.out.cell 2
      have x3 := HX.out.cell 3
      have x4 := HX.out.cell 4
      have x5 := HX.out.cell 5
      have x6 := HX.out.cell 6
      have x7 := HX.out.cell 7
      have x8 := HX.out.cell 8
      simp [pgCells] at x0 x1 x2 x3 x4 x5 x6 x7 x8
      have HWC := Lib.hid (HWH.out M 0 w2 _ HM.out)
      rw [show (4 - ((4 : Nat) : Int)) = 0 from rfl] at HWC
      have HWF : Hid (wholeF D base body = (wholeC D 4 base body 0).1) := by
        rw [Hid]
        unfold wholeF wholeC
        split <;> rfl
      generalize wholeC D 4 base body 0 = WC at *
      clear HWH
      go_wp2_with fail
      refine HWC.out.mono ?_
      rintro e w3 ⟨rfl, hg3, hm3, -⟩
      have hr3 := HR.out.grown hg3 (by have := HMP.out; simp; omega)
      have hb3 := HB.out.trans (below_of_grown hg3 (show P ≤ w2.heap.size by have := HMP.out; have := HM.out.blk.lt; omega) (fun k hk => by injection hk with hk; have := HMP.out; omega))
      clear hg3 hm3 HR HB x0 x1 x2 x3 x4 x5 x6 x7 x8
      have HR := Lib.hid hr3
      have HB := Lib.hid hb3
      clear hr3 hb3
      obtain ⟨r, c3⟩ := WC
      simp only [Res.val]
      have r0 := HR.out.cell 0
      have r1 := HR.out.cell 1
      have r2 := HR.out.cell 2
      have r3 := HR.out.cell 3
      simp [rCells] at r0 r1 r2 r3
      have f0 := HR.out.frozen 0
      have f1 := HR.out.frozen 1
      have f2 := HR.out.frozen 2
      have f3 := HR.out.frozen 3
      go_wp2_with fail
      have q1 := fill4_blk HR.out r
      have q2 := fill4_below HB.out (show P ≤ P + 1 by omega) r
      change bodyPost _ _ _ _ _ (fill4 w3 (P + 1) r)
      refine bodyPost_ret (run_results rfl rfl q1) rfl ⟨?_, by rw [HPP.out]; exact q2⟩
      rw [HZ2.out, HWF.out]
      rfl
end Go.Proofs.YtijpfcjlochahaaGreatDoor
