/- The walks of eval's include and one. -/
import Derived.Test.YtijpfcjlochahaaGreatDoorEvX
import Derived.StillTailTactics
namespace Go.Proofs.YtijpfcjlochahaaGreatDoor
open Go Go.RowKit
set_option linter.unusedVariables false
set_option linter.unusedSimpArgs false

theorem include_results {w : World} {X : Nat} {tmps : Array Value} {r : Res} (h4 : tmps[10]?.getD undef = .pointer (some ⟨X, 0, none⟩)) (B0 : Blk w X 31 (rCells r)) :
    (results Tryz.f143 tmps).run Tryz.prog w = .ok r.val w := by
  have a0 := B0.cell 0
  have a1 := B0.cell 1
  have a2 := B0.cell 2
  have a3 := B0.cell 3
  simp [rCells] at a0 a1 a2 a3
  simp [results, Tryz.results143, go_sem, h4, a0, a1, a2, a3, Res.val]
theorem one_results {w : World} {X : Nat} {tmps : Array Value} {r : Res} (h4 : tmps[10]?.getD undef = .pointer (some ⟨X, 0, none⟩)) (B0 : Blk w X 31 (rCells r)) :
    (results Tryz.f86 tmps).run Tryz.prog w = .ok r.val w := by
  have a0 := B0.cell 0
  have a1 := B0.cell 1
  have a2 := B0.cell 2
  have a3 := B0.cell 3
  simp [rCells] at a0 a1 a2 a3
  simp [results, Tryz.results86, go_sem, h4, a0, a1, a2, a3, Res.val]
/-- Memory within a method that was given an element. -/
structure ISt (w W : World) (M P : Nat) (base : List UInt8) (pv : Value) (dep : Int) (x : Elem) (kv : Value) : Prop where
  hP : Blk W P 104 #[.string (bs base), pv, .int .i64 dep]
  hE : Blk W (P + 1) 74 (eCells x kv).toArray
  hR : Blk W (P + 1 + 1) 31 (rCells res0)
  g : w.grownBy W (some M)
  hMw : M < w.heap.size
  eqP : w.heap.size = P
section
variable {w W W' : World} {M P : Nat} {base : List UInt8} {pv kv : Value} {dep : Int} {x : Elem}
theorem ISt.below (h : ISt w W M P base pv dep x kv) (hb : Below W.heap.size W W') : ISt w W' M P base pv dep x kv :=
  ⟨h.hP.below hb h.hP.lt, h.hE.below hb h.hE.lt, h.hR.below hb h.hR.lt, grown_below h.g hb, h.hMw, h.eqP⟩
theorem ISt.grown (h : ISt w W M P base pv dep x kv) (hg : W.grownBy W' (some M)) : ISt w W' M P base pv dep x kv := by
  have h1 := h.hMw
  have h2 := h.eqP
  exact ⟨h.hP.grown hg (by simp; omega), h.hE.grown hg (by simp; omega), h.hR.grown hg (by simp; omega), grown_trans h.g hg, h1, h2⟩
theorem ISt.start (w : World) (hM : M < w.heap.size) (base : List UInt8) (pv : Value) (dep : Int) (x : Elem) (kv : Value) :
    ISt w (((w.alloc (.cells #[.string (bs base), pv, .int .i64 dep] 104)).alloc (.cells (eCells x kv).toArray 74)).alloc (.cells (rCells res0) 31)) M w.heap.size base pv dep x kv := by
  have h1 := Blk.new w 104 #[.string (bs base), pv, .int .i64 dep]
  have h2 := Blk.new (w.alloc (.cells #[.string (bs base), pv, .int .i64 dep] 104)) 74 (eCells x kv).toArray
  have h3 := Blk.new ((w.alloc (.cells #[.string (bs base), pv, .int .i64 dep] 104)).alloc (.cells (eCells x kv).toArray 74)) 31 (rCells res0)
  rw [size_alloc] at h2
  rw [size_alloc, size_alloc] at h3
  exact ⟨(h1.alloc _).alloc _, h2.alloc _, h3, grown_alloc (grown_alloc (grown_alloc (grown_refl _ _) _) _) _, hM, rfl⟩
theorem ISt.other {Y : Nat} (h : ISt w W M P base pv dep x kv) (hg : W.grownBy W' (some Y)) (hY : P + 1 + 1 < Y) : ISt w W' M P base pv dep x kv := by
  have h2 := h.eqP
  exact ⟨h.hP.grown hg (by simp; omega), h.hE.grown hg (by simp; omega), h.hR.grown hg (by simp; omega), grown_grown h.g hg (fun k hk => .inr (by injection hk with hk; omega)), h.hMw, h2⟩
theorem ISt.fin {v : EnvD} {rv : Value} {reps : List Rep} {z : Res × Nat} {r : Res} {c : Nat} (h : ISt w W M P base pv dep x kv) (hm : MK v rv reps M W c) (hz : z = (r, c)) (hl : r.out.length ≤ 100000000) :
    Blk (fill4 W (P + 1 + 1) r) (P + 1 + 1) 31 (rCells r) ∧ EvPost v rv reps M w z (.returned r.val) (fill4 W (P + 1 + 1) r) :=
  ⟨fill4_blk h.hR r, EvPost.fin h.g hm h.hMw (by have := h.eqP; omega) hz hl⟩
end
/-- An element as an argument. -/
def eVal (x : Elem) (kv : Value) : Value := .agg #[.int .i64 x.kind, .string (bs x.text), .string (bs x.src), .string (bs x.alt), .bool x.soft, .string (bs x.test), kv]
/-- take is walked, within a page. -/
def TkOk (v : EnvD) (D : Dep) (rv : Value) (M : Nat) (base : List UInt8) (el : List Elem) (dep : Int) (tk : Tk) : Prop := ∀ (pv : Value) (s : List UInt8) (c : Nat) (W : World), TakeOk v D s → MK v rv D.replies M W c → GR W (fun k => k ≠ M) (.row 7 (el.map Elem.gv)) [pv] →
  Calls Tryz.prog 178 #[.pointer (some ⟨M, 0, none⟩), .agg #[.string (bs base), pv, .int .i64 dep], .string (bs s)] W (EvPost v rv D.replies M W (tk s c))
theorem includeF_eq (tk : Tk) (s a : List UInt8) (b : Bool) (c : Nat) : includeF tk s a b c =
    if (tk s c).1.state = 2 ∧ a ≠ [] then
      (if (tk a (tk s c).2).1.state = 2 ∧ b = true then (doneR [], (tk a (tk s c).2).2) else (lessR (tk a (tk s c).2).1, (tk a (tk s c).2).2))
    else (if (tk s c).1.state = 2 ∧ b = true then (doneR [], (tk s c).2) else (lessR (tk s c).1, (tk s c).2)) := by
  unfold includeF
  simp only
  by_cases h : (tk s c).1.state = 2 ∧ a ≠ []
  · rw [if_pos h, if_pos h]
  · rw [if_neg h, if_neg h]
set_option maxRecDepth 20000 in
set_option maxHeartbeats 8000000 in
theorem einclude_calls (v : EnvD) (D : Dep) (rv : Value) (M : Nat) (base : List UInt8) (el : List Elem) (dep : Int) (tk : Tk) (htk : TkOk v D rv M base el dep tk) (pv kv : Value) (x : Elem) (sub : Bool) (n c : Nat) (w : World)
    (hx : TakeOk v D x.src ∧ (x.alt ≠ [] → TakeOk v D x.alt)) (hm : MK v rv D.replies M w c) (hpv : GR w (fun k => k ≠ M) (.row 7 (el.map Elem.gv)) [pv]) (hkv : ∃ A nn cc, kv = .slice A nn cc) :
    Calls Tryz.prog 143 #[.pointer (some ⟨M, 0, none⟩), .agg #[.string (bs base), pv, .int .i64 dep], eVal x kv, .bool sub, .int .i64 (n : Int)] w (EvPost v rv D.replies M w (includeF tk x.src x.alt x.soft c)) := by
  obtain ⟨Ap, cp, rfl, -⟩ := elems_open hpv
  obtain ⟨Ak, nk, ck, rfl⟩ := hkv
  have HZ := Lib.hid (includeF_eq tk x.src x.alt x.soft c)
  generalize includeF tk x.src x.alt x.soft c = Z at *
  have HTK := Lib.hid htk
  have HX := Lib.hid hx
  have hal : Below w.heap.size w (((w.alloc (.cells #[.string (bs base), .slice Ap el.length cp, .int .i64 dep] 104)).alloc (.cells (eCells x (.slice Ak nk ck)).toArray 74)).alloc (.cells (rCells res0) 31)) :=
    (((Below.refl _ _).alloc (Nat.le_refl _) _).alloc (by rw [size_alloc]; omega) _).alloc (by rw [size_alloc, size_alloc]; omega) _
  have HS := Lib.hid (ISt.start w hm.blk.lt base (.slice Ap el.length cp) dep x (.slice Ak nk ck))
  have HMK := Lib.hid (hm.below hal)
  have HPV := Lib.hid (hpv.below hal)
  clear htk hx hm hpv hal
  simp only [eVal]
  go_enter Tryz.func143, Tryz.ntmps143
  go_upto_region 1 with (fail)
  change Code.wp _ _ _ _ (((w.alloc (.cells #[.string (bs base), .slice Ap el.length cp, .int .i64 dep] 104)).alloc (.cells (eCells x (.slice Ak nk ck)).toArray 74)).alloc (.cells (rCells res0) 31))
  generalize ((w.alloc (.cells #[.string (bs base), .slice Ap el.length cp, .int .i64 dep] 104)).alloc (.cells (eCells x (.slice Ak nk ck)).toArray 74)).alloc (.cells (rCells res0) 31) = w0 at *
  generalize w.heap.size = P at *
  have p0 := HS.out.hP.cell 0
  have p1 := HS.out.hP.cell 1
  have p2 := HS.out.hP.cell 2
  have e2 := HS.out.hE.cell 2
  simp [eCells] at p0 p1 p2 e2
  go_wp2_with fail
  refine (HTK.out _ x.src c w0 HX.out.1 HMK.out HPV.out).mono ?_
  rintro e w1 ⟨rfl, hg1, hm1, hl1⟩
  have HS1 := Lib.hid (HS.out.grown hg1)
  have HM1 := Lib.hid hm1
  have HP1 := Lib.hid (HPV.out.grown hg1 (fun k h => h))
  have HL1 := Lib.hid hl1
  clear hg1 hm1 hl1 HS HMK HPV p0 p1 p2 e2
  generalize tk x.src c = TA at *
  obtain ⟨ra, ca⟩ := TA
  simp only [Res.val] at *
  have hal := ((Below.refl w1.heap.size w1).alloc (Nat.le_refl _) (.cells (rCells ra) 31))
  have hY := Blk.new w1 31 (rCells ra)
  have HS2 := Lib.hid (HS1.out.below hal)
  have HM2 := Lib.hid (HM1.out.below hal)
  have HP2 := Lib.hid (HP1.out.below hal)
  have hYP : P + 1 + 1 < w1.heap.size := HS1.out.hR.lt
  go_upto_region 2 with (fail)
  change Code.wp _ _ _ _ (w1.alloc (.cells (rCells ra) 31))
  generalize w1.alloc (.cells (rCells ra) 31) = w2 at *
  generalize w1.heap.size = Y at *
  have HY := Lib.hid hY
  have HYP := Lib.hid hYP
  clear hal hY hYP HS1 HM1 HP1
  have y0 := HY.out.cell 0
  have y1 := HY.out.cell 1
  have y2 := HY.out.cell 2
  have y3 := HY.out.cell 3
  simp [rCells] at y0 y1 y2 y3
  have e3 := HS2.out.hE.cell 3
  have e4 := HS2.out.hE.cell 4
  simp [eCells] at e3 e4
  by_cases s2 : ra.state = 2
  · obtain ⟨ao, az, ab, aw⟩ := ra
    have s2 : az = 2 := s2
    subst s2
    simp only at y0 y1 y2 y3 HL1
    have b2 : ((2 : Int) == 2) = true := rfl
    by_cases ha : x.alt = []
    · have q1 : ((bs x.alt).toList != []) = false := by rw [toList_bs, ha]; rfl
      have q2 : (bs x.alt).toList = [] := by rw [toList_bs, ha]
      have q3 : (bs x.alt).toList.isEmpty = true := by rw [q2]; rfl
      have HZ3 : Hid (Z = if (2 : Int) = 2 ∧ x.soft = true then (doneR [], ca) else (lessR ⟨ao, 2, ab, aw⟩, ca)) := by rw [Hid, HZ.out, if_neg (fun h => h.2 ha)]
      have HSX := HS2
      have HMX := HM2
      have HLX := HL1
      clear HZ ha HS2 HM2 HL1
      cases hsf : x.soft with
      | true =>
        rw [hsf] at e4
        have HZ5 : Hid (Z = (doneR [], ca)) := by rw [Hid, HZ3.out, if_pos ⟨rfl, hsf⟩]
        clear HZ3 hsf
        have r0 := HSX.out.hR.cell 0
        have r1 := HSX.out.hR.cell 1
        have r2 := HSX.out.hR.cell 2
        have r3 := HSX.out.hR.cell 3
        simp [rCells] at r0 r1 r2 r3
        have f0 := HSX.out.hR.frozen 0
        have f1 := HSX.out.hR.frozen 1
        have f2 := HSX.out.hR.frozen 2
        have f3 := HSX.out.hR.frozen 3
        go_wp2_with fail
        obtain ⟨q1, q2⟩ := HSX.out.fin HMX.out (z := Z) HZ5.out (by simp [doneR])
        change bodyPost _ _ _ _ _ (fill4 w2 (P + 1 + 1) (doneR []))
        exact bodyPost_ret (include_results rfl q1) rfl q2
      | false =>
        rw [hsf] at e4
        have HZ5 : Hid (Z = (lessR (⟨ao, 2, ab, aw⟩ : Res), ca)) := by rw [Hid, HZ3.out, if_neg (fun h => by rw [hsf] at h; cases h.2)]
        clear HZ3 hsf
        go_wp2_with fail
        refine (less_calls (⟨ao, 2, ab, aw⟩ : Res) w2).mono ?_
        rintro e w9 ⟨rfl, hb9⟩
        have HS9 := Lib.hid (HSX.out.below hb9)
        have HM9 := Lib.hid (HMX.out.below hb9)
        have HL9 := Lib.hid (less_len (⟨ao, 2, ab, aw⟩ : Res) HLX.out)
        clear hb9 HSX HMX
        have HSX := HS9
        have HMX := HM9
        clear HS9 HM9
        generalize lessR (⟨ao, 2, ab, aw⟩ : Res) = r9 at *
        simp only [Res.val]
        have r0 := HSX.out.hR.cell 0
        have r1 := HSX.out.hR.cell 1
        have r2 := HSX.out.hR.cell 2
        have r3 := HSX.out.hR.cell 3
        simp [rCells] at r0 r1 r2 r3
        have f0 := HSX.out.hR.frozen 0
        have f1 := HSX.out.hR.frozen 1
        have f2 := HSX.out.hR.frozen 2
        have f3 := HSX.out.hR.frozen 3
        go_wp2_with fail
        obtain ⟨q1, q2⟩ := HSX.out.fin HMX.out (z := Z) HZ5.out HL9.out
        change bodyPost _ _ _ _ _ (fill4 w9 (P + 1 + 1) r9)
        exact bodyPost_ret (include_results rfl q1) rfl q2
    · have q1 : ((bs x.alt).toList != []) = true := by rw [toList_bs, bne_iff_ne]; exact ha
      have q2 : ¬ (bs x.alt).toList = [] := by rw [toList_bs]; exact ha
      have q3 : (bs x.alt).toList.isEmpty = false := by rw [toList_bs]; cases h : x.alt with | nil => exact absurd h ha | cons _ _ => rfl
      have HZ2 : Hid (Z = if (tk x.alt ca).1.state = 2 ∧ x.soft = true then (doneR [], (tk x.alt ca).2) else (lessR (tk x.alt ca).1, (tk x.alt ca).2)) := by rw [Hid, HZ.out, if_pos ⟨rfl, ha⟩]
      have HTA := Lib.hid (HX.out.2 ha)
      have p0 := HS2.out.hP.cell 0
      have p1 := HS2.out.hP.cell 1
      have p2 := HS2.out.hP.cell 2
      simp at p0 p1 p2
      clear HZ ha
      go_wp2_with fail
      refine (HTK.out _ x.alt ca w2 HTA.out HM2.out HP2.out).mono ?_
      rintro e w3 ⟨rfl, hg3, hm3, hl3⟩
      have HS3 := Lib.hid (HS2.out.grown hg3)
      have HM3 := Lib.hid hm3
      have HLX := Lib.hid hl3
      have HY3 := Lib.hid (HY.out.grown hg3 (by have h1 := HS2.out.hMw; have h2 := HS2.out.eqP; have h3 := HYP.out; simp; omega))
      clear hg3 hm3 hl3 HS2 HM2 HP2 p0 p1 p2 e3 e4 y0 y1 y2 y3 b2 q1 q2 q3 HY
      generalize tk x.alt ca = TB at *
      obtain ⟨rb, cb⟩ := TB
      simp only [Res.val] at *
      have y0 := HY3.out.cell 0
      have y1 := HY3.out.cell 1
      have y2 := HY3.out.cell 2
      have y3 := HY3.out.cell 3
      simp [rCells] at y0 y1 y2 y3
      have g0 := HY3.out.frozen 0
      have g1 := HY3.out.frozen 1
      have g2 := HY3.out.frozen 2
      have g3 := HY3.out.frozen 3
      go_upto_region 4 with (fail)
      have HY4 := Lib.hid (fill4_blk HY3.out rb)
      have hg4 := fill4_self w3 Y rb
      have HM4 := Lib.hid (HM3.out.other hg4 (by have h1 := HS3.out.hMw; have h2 := HS3.out.eqP; have h3 := HYP.out; omega))
      have HS4 := Lib.hid (HS3.out.other hg4 HYP.out)
      change Code.wp _ _ _ _ (fill4 w3 Y rb)
      generalize fill4 w3 Y rb = w4 at *
      clear hg4 HY3 HM3 HS3 y0 y1 y2 y3 g0 g1 g2 g3
      have HSX := HS4
      have HMX := HM4
      clear HS4 HM4
      have y0 := HY4.out.cell 0
      have y1 := HY4.out.cell 1
      have y2 := HY4.out.cell 2
      have y3 := HY4.out.cell 3
      simp [rCells] at y0 y1 y2 y3
      have e4 := HSX.out.hE.cell 4
      simp [eCells] at e4
      by_cases s2 : rb.state = 2
      · obtain ⟨bo, bz, bb, bw⟩ := rb
        have s2 : bz = 2 := s2
        subst s2
        simp only at y0 y1 y2 y3 HLX
        have b2 : ((2 : Int) == 2) = true := rfl
        cases hsf : x.soft with
        | true =>
          rw [hsf] at e4
          have HZ5 : Hid (Z = (doneR [], cb)) := by rw [Hid, HZ2.out, if_pos ⟨rfl, hsf⟩]
          clear HZ2 hsf
          have r0 := HSX.out.hR.cell 0
          have r1 := HSX.out.hR.cell 1
          have r2 := HSX.out.hR.cell 2
          have r3 := HSX.out.hR.cell 3
          simp [rCells] at r0 r1 r2 r3
          have f0 := HSX.out.hR.frozen 0
          have f1 := HSX.out.hR.frozen 1
          have f2 := HSX.out.hR.frozen 2
          have f3 := HSX.out.hR.frozen 3
          go_wp2_with fail
          obtain ⟨q1, q2⟩ := HSX.out.fin HMX.out (z := Z) HZ5.out (by simp [doneR])
          change bodyPost _ _ _ _ _ (fill4 w4 (P + 1 + 1) (doneR []))
          exact bodyPost_ret (include_results rfl q1) rfl q2
        | false =>
          rw [hsf] at e4
          have HZ5 : Hid (Z = (lessR (⟨bo, 2, bb, bw⟩ : Res), cb)) := by rw [Hid, HZ2.out, if_neg (fun h => by rw [hsf] at h; cases h.2)]
          clear HZ2 hsf
          go_wp2_with fail
          refine (less_calls (⟨bo, 2, bb, bw⟩ : Res) w4).mono ?_
          rintro e w9 ⟨rfl, hb9⟩
          have HS9 := Lib.hid (HSX.out.below hb9)
          have HM9 := Lib.hid (HMX.out.below hb9)
          have HL9 := Lib.hid (less_len (⟨bo, 2, bb, bw⟩ : Res) HLX.out)
          clear hb9 HSX HMX
          have HSX := HS9
          have HMX := HM9
          clear HS9 HM9
          generalize lessR (⟨bo, 2, bb, bw⟩ : Res) = r9 at *
          simp only [Res.val]
          have r0 := HSX.out.hR.cell 0
          have r1 := HSX.out.hR.cell 1
          have r2 := HSX.out.hR.cell 2
          have r3 := HSX.out.hR.cell 3
          simp [rCells] at r0 r1 r2 r3
          have f0 := HSX.out.hR.frozen 0
          have f1 := HSX.out.hR.frozen 1
          have f2 := HSX.out.hR.frozen 2
          have f3 := HSX.out.hR.frozen 3
          go_wp2_with fail
          obtain ⟨q1, q2⟩ := HSX.out.fin HMX.out (z := Z) HZ5.out HL9.out
          change bodyPost _ _ _ _ _ (fill4 w9 (P + 1 + 1) r9)
          exact bodyPost_ret (include_results rfl q1) rfl q2
      · have b2 : (rb.state == 2) = false := by rw [beq_eq_false_iff_ne]; exact s2
        have HZ5 : Hid (Z = (lessR rb, cb)) := by rw [Hid, HZ2.out, if_neg (fun h => s2 h.1)]
        clear HZ2 s2
        go_wp2_with fail
        refine (less_calls rb w4).mono ?_
        rintro e w9 ⟨rfl, hb9⟩
        have HS9 := Lib.hid (HSX.out.below hb9)
        have HM9 := Lib.hid (HMX.out.below hb9)
        have HL9 := Lib.hid (less_len rb HLX.out)
        clear hb9 HSX HMX
        have HSX := HS9
        have HMX := HM9
        clear HS9 HM9
        generalize lessR rb = r9 at *
        simp only [Res.val]
        have r0 := HSX.out.hR.cell 0
        have r1 := HSX.out.hR.cell 1
        have r2 := HSX.out.hR.cell 2
        have r3 := HSX.out.hR.cell 3
        simp [rCells] at r0 r1 r2 r3
        have f0 := HSX.out.hR.frozen 0
        have f1 := HSX.out.hR.frozen 1
        have f2 := HSX.out.hR.frozen 2
        have f3 := HSX.out.hR.frozen 3
        go_wp2_with fail
        obtain ⟨q1, q2⟩ := HSX.out.fin HMX.out (z := Z) HZ5.out HL9.out
        change bodyPost _ _ _ _ _ (fill4 w9 (P + 1 + 1) r9)
        exact bodyPost_ret (include_results rfl q1) rfl q2
  · have b2 : (ra.state == 2) = false := by rw [beq_eq_false_iff_ne]; exact s2
    have HZ5 : Hid (Z = (lessR ra, ca)) := by rw [Hid, HZ.out, if_neg (fun h => s2 h.1), if_neg (fun h => s2 h.1)]
    have HSX := HS2
    have HMX := HM2
    have HLX := HL1
    clear HZ s2 HS2 HM2 HL1
    go_wp2_with fail
    refine (less_calls ra w2).mono ?_
    rintro e w9 ⟨rfl, hb9⟩
    have HS9 := Lib.hid (HSX.out.below hb9)
    have HM9 := Lib.hid (HMX.out.below hb9)
    have HL9 := Lib.hid (less_len ra HLX.out)
    clear hb9 HSX HMX
    have HSX := HS9
    have HMX := HM9
    clear HS9 HM9
    generalize lessR ra = r9 at *
    simp only [Res.val]
    have r0 := HSX.out.hR.cell 0
    have r1 := HSX.out.hR.cell 1
    have r2 := HSX.out.hR.cell 2
    have r3 := HSX.out.hR.cell 3
    simp [rCells] at r0 r1 r2 r3
    have f0 := HSX.out.hR.frozen 0
    have f1 := HSX.out.hR.frozen 1
    have f2 := HSX.out.hR.frozen 2
    have f3 := HSX.out.hR.frozen 3
    go_wp2_with fail
    obtain ⟨q1, q2⟩ := HSX.out.fin HMX.out (z := Z) HZ5.out HL9.out
    change bodyPost _ _ _ _ _ (fill4 w9 (P + 1 + 1) r9)
    exact bodyPost_ret (include_results rfl q1) rfl q2
/-- include is walked at an element; a row is. -/
def RowAt (v : EnvD) (D : Dep) (rv : Value) (M : Nat) (base : List UInt8) (el : List Elem) (dep : Int) (tk : Tk) (l : List Elem) : Prop := ∀ (pv lv : Value) (sub : Bool) (n c : Nat) (W : World), MK v rv D.replies M W c →
  GR W (fun k => k ≠ M) (.row 7 (el.map Elem.gv)) [pv] → GR W (fun k => k ≠ M) (.row 7 (l.map Elem.gv)) [lv] → n ≤ 20000 →
  Calls Tryz.prog 53 #[.pointer (some ⟨M, 0, none⟩), .agg #[.string (bs base), pv, .int .i64 dep], lv, .bool sub, .int .i64 (n : Int)] W (EvPost v rv D.replies M W (rowF D tk sub n [] l c))
def OneAt (v : EnvD) (D : Dep) (rv : Value) (M : Nat) (base : List UInt8) (el : List Elem) (dep : Int) (tk : Tk) (x : Elem) : Prop := ∀ (pv kv : Value) (sub : Bool) (n c : Nat) (W : World), MK v rv D.replies M W c →
  GR W (fun k => k ≠ M) (.row 7 (el.map Elem.gv)) [pv] → GR W (fun k => k ≠ M) (.row 7 (x.kids.map Elem.gv)) [kv] → n ≤ 20000 →
  Calls Tryz.prog 86 #[.pointer (some ⟨M, 0, none⟩), .agg #[.string (bs base), pv, .int .i64 dep], eVal x kv, .bool sub, .int .i64 (n : Int)] W (EvPost v rv D.replies M W (oneF D tk sub n x c))
/-- A method of the maker that takes an element is walked at it. -/
def DoAt (f : Nat) (v : EnvD) (D : Dep) (rv : Value) (M : Nat) (base : List UInt8) (el : List Elem) (dep : Int) (x : Elem) (F : Bool → Nat → Nat → Res × Nat) : Prop := ∀ (pv kv : Value) (sub : Bool) (n c : Nat) (W : World), MK v rv D.replies M W c →
  GR W (fun k => k ≠ M) (.row 7 (el.map Elem.gv)) [pv] → GR W (fun k => k ≠ M) (.row 7 (x.kids.map Elem.gv)) [kv] → n ≤ 20000 →
  Calls Tryz.prog f #[.pointer (some ⟨M, 0, none⟩), .agg #[.string (bs base), pv, .int .i64 dep], eVal x kv, .bool sub, .int .i64 (n : Int)] W (EvPost v rv D.replies M W (F sub n c))
end Go.Proofs.YtijpfcjlochahaaGreatDoor
