/- The walks of eval's one and row. -/
import Derived.Test.YtijpfcjlochahaaGreatDoorEvO
namespace Go.Proofs.YtijpfcjlochahaaGreatDoor
open Go Go.RowKit
set_option linter.unusedVariables false
set_option linter.unusedSimpArgs false

set_option maxRecDepth 20000 in
set_option maxHeartbeats 8000000 in
theorem eone_calls (v : EnvD) (D : Dep) (rv : Value) (M : Nat) (base : List UInt8) (el : List Elem) (dep : Int) (tk : Tk) (htk : TkOk v D rv M base el dep tk) (x : Elem) (hx : okE v D x)
    (hrow : x.kind = 10 → RowAt v D rv M base el dep tk x.kids)
    (hch : x.kind = 7 → DoAt 145 v D rv M base el dep x (fun sub n c => chooseF D tk sub n x.kids c))
    (htr : x.kind = 4 → DoAt 146 v D rv M base el dep x (fun sub n c => tryF D tk sub x.kids c)) : OneAt v D rv M base el dep tk x := by
  intro pv kv sub n c w hm hpv hkv hn
  obtain ⟨Ap, cp, rfl, -⟩ := elems_open hpv
  obtain ⟨Ak, ck, rfl, -⟩ := elems_open hkv
  have HZ := Lib.hid (oneF_eq D tk sub n x c)
  generalize oneF D tk sub n x c = Z at *
  obtain ⟨hx1, hx2, hx3, hx4, hx5, hx6, hx7⟩ := (okE_eq x).1 hx
  have HX1 := Lib.hid hx1
  have HX2 := Lib.hid hx2
  have HIN := Lib.hid (fun h pv kv sub n c w => einclude_calls v D rv M base el dep tk htk pv kv x sub n c w (hx3 h))
  have HROW := Lib.hid hrow
  have HCH := Lib.hid hch
  have HTR := Lib.hid htr
  have hn1 : (n : Int) ≤ 20000 := by omega
  have HN := Lib.hid hn
  have hal : Below w.heap.size w (((w.alloc (.cells #[.string (bs base), .slice Ap el.length cp, .int .i64 dep] 104)).alloc (.cells (eCells x (.slice Ak x.kids.length ck)).toArray 74)).alloc (.cells (rCells res0) 31)) :=
    (((Below.refl _ _).alloc (Nat.le_refl _) _).alloc (by rw [size_alloc]; omega) _).alloc (by rw [size_alloc, size_alloc]; omega) _
  have HS := Lib.hid (ISt.start w hm.blk.lt base (.slice Ap el.length cp) dep x (.slice Ak x.kids.length ck))
  have HMK := Lib.hid (hm.below hal)
  have HPV := Lib.hid (hpv.below hal)
  have HKV := Lib.hid (hkv.below hal)
  clear htk hx hm hpv hkv hal hrow hch htr hx1 hx2 hx3 hx4 hx5 hx6 hx7 hn
  simp only [eVal]
  go_enter Tryz.func86, Tryz.ntmps86
  go_upto_region 1 with (fail)
  change Code.wp _ _ _ _ (((w.alloc (.cells #[.string (bs base), .slice Ap el.length cp, .int .i64 dep] 104)).alloc (.cells (eCells x (.slice Ak x.kids.length ck)).toArray 74)).alloc (.cells (rCells res0) 31))
  generalize ((w.alloc (.cells #[.string (bs base), .slice Ap el.length cp, .int .i64 dep] 104)).alloc (.cells (eCells x (.slice Ak x.kids.length ck)).toArray 74)).alloc (.cells (rCells res0) 31) = w0 at *
  generalize w.heap.size = P at *
  have p0 := HS.out.hP.cell 0
  have p1 := HS.out.hP.cell 1
  have p2 := HS.out.hP.cell 2
  have e0 := HS.out.hE.cell 0
  have e1 := HS.out.hE.cell 1
  have e2 := HS.out.hE.cell 2
  have e3 := HS.out.hE.cell 3
  have e4 := HS.out.hE.cell 4
  have e5 := HS.out.hE.cell 5
  have e6 := HS.out.hE.cell 6
  simp [eCells] at p0 p1 p2 e0 e1 e2 e3 e4 e5 e6
  by_cases k1 : x.kind = 1
  · have b1 : (x.kind == 1) = true := by rw [k1]; rfl
    have HZ2 : Hid (Z = (doneR (if sub then D.sub x.text else x.text), c)) := by rw [Hid, HZ.out, if_pos k1]
    clear k1 HZ
    cases sub with
    | true =>
      have c0 := HMK.out.blk.cell 0
      have c1 := HMK.out.blk.cell 1
      have c2 := HMK.out.blk.cell 2
      have c3 := HMK.out.blk.cell 3
      have c4 := HMK.out.blk.cell 4
      have c5 := HMK.out.blk.cell 5
      simp [mCells] at c0 c1 c2 c3 c4 c5
      go_upto_region 6 with (fail)
      refine wp_region_still_tail 6 (by kernel_rfl) (by kernel_rfl) ?_
      change wpStill _ _ (World.drew w0) (fun a' => wpList _ _ _ _ a' (World.drew w0)) _ _
      simp only [List.take_succ_cons, List.take_zero, List.drop_succ_cons, List.drop_zero]
      repeat still_step
      refine wpStill_nil ?_
      have hgd : Glob w0.drew := HMK.out.glob.below (Below.refl _ _).drew
      have HGD := Lib.hid hgd
      clear hgd
      go_wp2_with fail
      refine (HX2.out.2 _ HGD.out).mono ?_
      rintro e w2 ⟨rfl, hb2⟩
      have hb2 : Below w0.heap.size w0 w2 := (Below.refl _ _).drew.trans hb2
      have HSX := Lib.hid (HS.out.below hb2)
      have HMX := Lib.hid (HMK.out.below hb2)
      clear hb2 HS HMK HPV HKV p0 p1 p2 e0 e1 e2 e3 e4 e5 e6 c0 c1 c2 c3 c4 c5
      have r0 := HSX.out.hR.cell 0
      have r1 := HSX.out.hR.cell 1
      have r2 := HSX.out.hR.cell 2
      have r3 := HSX.out.hR.cell 3
      simp [rCells] at r0 r1 r2 r3
      have f0 := HSX.out.hR.frozen 0
      have f1 := HSX.out.hR.frozen 1
      have f2 := HSX.out.hR.frozen 2
      have f3 := HSX.out.hR.frozen 3
      go_wp2_with fail
      obtain ⟨q1, q2⟩ := HSX.out.fin HMX.out (z := Z) HZ2.out (show (D.sub x.text).length ≤ 100000000 by have := HX2.out.1; omega)
      change bodyPost _ _ _ _ _ (fill4 w2 (P + 1 + 1) (doneR (D.sub x.text)))
      exact bodyPost_ret (one_results rfl q1) rfl q2
    | false =>
      have HSX := HS
      have HMX := HMK
      clear HS HMK HPV HKV
      have r0 := HSX.out.hR.cell 0
      have r1 := HSX.out.hR.cell 1
      have r2 := HSX.out.hR.cell 2
      have r3 := HSX.out.hR.cell 3
      simp [rCells] at r0 r1 r2 r3
      have f0 := HSX.out.hR.frozen 0
      have f1 := HSX.out.hR.frozen 1
      have f2 := HSX.out.hR.frozen 2
      have f3 := HSX.out.hR.frozen 3
      go_wp2_with fail
      obtain ⟨q1, q2⟩ := HSX.out.fin HMX.out (z := Z) HZ2.out (show x.text.length ≤ 100000000 by have := HX1.out; omega)
      change bodyPost _ _ _ _ _ (fill4 w0 (P + 1 + 1) (doneR x.text))
      exact bodyPost_ret (one_results rfl q1) rfl q2
  have b1 : (x.kind == 1) = false := by rw [beq_eq_false_iff_ne]; exact k1
  by_cases k10 : x.kind = 10
  · have b10 : (x.kind == 10) = true := by rw [k10]; rfl
    have HZ2 : Hid (Z = rowF D tk true n [] x.kids c) := by rw [Hid, HZ.out, if_neg k1, if_pos k10]
    have HRC := Lib.hid (HROW.out k10 _ _ true n c w0 HMK.out HPV.out HKV.out HN.out)
    rw [← HZ2.out] at HRC
    clear k1 k10 HZ HZ2
    go_wp2_with fail
    refine HRC.out.mono ?_
    rintro e w2 ⟨rfl, hg9, hm9, hl9⟩
    have HSX := Lib.hid (HS.out.grown hg9)
    have HMX := Lib.hid hm9
    have HLX := Lib.hid hl9
    clear hg9 hm9 hl9 HS HMK HPV HKV p0 p1 p2 e0 e1 e2 e3 e4 e5 e6
    obtain ⟨r9, c9⟩ := Z
    simp only [Res.val] at *
    have r0 := HSX.out.hR.cell 0
    have r1 := HSX.out.hR.cell 1
    have r2 := HSX.out.hR.cell 2
    have r3 := HSX.out.hR.cell 3
    simp [rCells] at r0 r1 r2 r3
    have f0 := HSX.out.hR.frozen 0
    have f1 := HSX.out.hR.frozen 1
    have f2 := HSX.out.hR.frozen 2
    have f3 := HSX.out.hR.frozen 3
    go_wp2_with fail
    obtain ⟨q1, q2⟩ := HSX.out.fin HMX.out (z := (r9, c9)) rfl HLX.out
    change bodyPost _ _ _ _ _ (fill4 w2 (P + 1 + 1) r9)
    exact bodyPost_ret (one_results rfl q1) rfl q2
  have b10 : (x.kind == 10) = false := by rw [beq_eq_false_iff_ne]; exact k10
  by_cases k7 : x.kind = 7
  · have b7 : (x.kind == 7) = true := by rw [k7]; rfl
    have HZ2 : Hid (Z = chooseF D tk sub n x.kids c) := by rw [Hid, HZ.out, if_neg k1, if_neg k10, if_pos k7]
    have HRC := Lib.hid (HCH.out k7 _ _ sub n c w0 HMK.out HPV.out HKV.out HN.out)
    simp only [eVal] at HRC
    rw [← HZ2.out] at HRC
    clear k1 k10 k7 HZ HZ2
    go_wp2_with fail
    refine HRC.out.mono ?_
    rintro e w2 ⟨rfl, hg9, hm9, hl9⟩
    have HSX := Lib.hid (HS.out.grown hg9)
    have HMX := Lib.hid hm9
    have HLX := Lib.hid hl9
    clear hg9 hm9 hl9 HS HMK HPV HKV p0 p1 p2 e0 e1 e2 e3 e4 e5 e6
    obtain ⟨r9, c9⟩ := Z
    simp only [Res.val] at *
    have r0 := HSX.out.hR.cell 0
    have r1 := HSX.out.hR.cell 1
    have r2 := HSX.out.hR.cell 2
    have r3 := HSX.out.hR.cell 3
    simp [rCells] at r0 r1 r2 r3
    have f0 := HSX.out.hR.frozen 0
    have f1 := HSX.out.hR.frozen 1
    have f2 := HSX.out.hR.frozen 2
    have f3 := HSX.out.hR.frozen 3
    go_wp2_with fail
    obtain ⟨q1, q2⟩ := HSX.out.fin HMX.out (z := (r9, c9)) rfl HLX.out
    change bodyPost _ _ _ _ _ (fill4 w2 (P + 1 + 1) r9)
    exact bodyPost_ret (one_results rfl q1) rfl q2
  have b7 : (x.kind == 7) = false := by rw [beq_eq_false_iff_ne]; exact k7
  by_cases k4 : x.kind = 4
  · have b4 : (x.kind == 4) = true := by rw [k4]; rfl
    have HZ2 : Hid (Z = tryF D tk sub x.kids c) := by rw [Hid, HZ.out, if_neg k1, if_neg k10, if_neg k7, if_pos k4]
    have HRC := Lib.hid (HTR.out k4 _ _ sub n c w0 HMK.out HPV.out HKV.out HN.out)
    simp only [eVal] at HRC
    rw [← HZ2.out] at HRC
    clear k1 k10 k7 k4 HZ HZ2
    go_wp2_with fail
    refine HRC.out.mono ?_
    rintro e w2 ⟨rfl, hg9, hm9, hl9⟩
    have HSX := Lib.hid (HS.out.grown hg9)
    have HMX := Lib.hid hm9
    have HLX := Lib.hid hl9
    clear hg9 hm9 hl9 HS HMK HPV HKV p0 p1 p2 e0 e1 e2 e3 e4 e5 e6
    obtain ⟨r9, c9⟩ := Z
    simp only [Res.val] at *
    have r0 := HSX.out.hR.cell 0
    have r1 := HSX.out.hR.cell 1
    have r2 := HSX.out.hR.cell 2
    have r3 := HSX.out.hR.cell 3
    simp [rCells] at r0 r1 r2 r3
    have f0 := HSX.out.hR.frozen 0
    have f1 := HSX.out.hR.frozen 1
    have f2 := HSX.out.hR.frozen 2
    have f3 := HSX.out.hR.frozen 3
    go_wp2_with fail
    obtain ⟨q1, q2⟩ := HSX.out.fin HMX.out (z := (r9, c9)) rfl HLX.out
    change bodyPost _ _ _ _ _ (fill4 w2 (P + 1 + 1) r9)
    exact bodyPost_ret (one_results rfl q1) rfl q2
  have b4 : (x.kind == 4) = false := by rw [beq_eq_false_iff_ne]; exact k4
  by_cases k2 : x.kind = 2
  · have b2 : (x.kind == 2) = true := by rw [k2]; rfl
    have HZ2 : Hid (Z = includeF tk x.src x.alt x.soft c) := by rw [Hid, HZ.out, if_neg k1, if_neg k10, if_neg k7, if_neg k4, if_pos k2]
    have HRC := Lib.hid (HIN.out k2 _ (.slice Ak x.kids.length ck) sub n c w0 HMK.out HPV.out ⟨_, _, _, rfl⟩)
    simp only [eVal] at HRC
    rw [← HZ2.out] at HRC
    clear k1 k10 k7 k4 k2 HZ HZ2
    go_wp2_with fail
    refine HRC.out.mono ?_
    rintro e w2 ⟨rfl, hg9, hm9, hl9⟩
    have HSX := Lib.hid (HS.out.grown hg9)
    have HMX := Lib.hid hm9
    have HLX := Lib.hid hl9
    clear hg9 hm9 hl9 HS HMK HPV HKV p0 p1 p2 e0 e1 e2 e3 e4 e5 e6
    obtain ⟨r9, c9⟩ := Z
    simp only [Res.val] at *
    have r0 := HSX.out.hR.cell 0
    have r1 := HSX.out.hR.cell 1
    have r2 := HSX.out.hR.cell 2
    have r3 := HSX.out.hR.cell 3
    simp [rCells] at r0 r1 r2 r3
    have f0 := HSX.out.hR.frozen 0
    have f1 := HSX.out.hR.frozen 1
    have f2 := HSX.out.hR.frozen 2
    have f3 := HSX.out.hR.frozen 3
    go_wp2_with fail
    obtain ⟨q1, q2⟩ := HSX.out.fin HMX.out (z := (r9, c9)) rfl HLX.out
    change bodyPost _ _ _ _ _ (fill4 w2 (P + 1 + 1) r9)
    exact bodyPost_ret (one_results rfl q1) rfl q2
  have b2 : (x.kind == 2) = false := by rw [beq_eq_false_iff_ne]; exact k2
  have HZ2 : Hid (Z = (doneR [], c)) := by rw [Hid, HZ.out, if_neg k1, if_neg k10, if_neg k7, if_neg k4, if_neg k2]
  have HSX := HS
  have HMX := HMK
  clear k1 k10 k7 k4 k2 HZ HS HMK HPV HKV
  have r0 := HSX.out.hR.cell 0
  have r1 := HSX.out.hR.cell 1
  have r2 := HSX.out.hR.cell 2
  have r3 := HSX.out.hR.cell 3
  simp [rCells] at r0 r1 r2 r3
  have f0 := HSX.out.hR.frozen 0
  have f1 := HSX.out.hR.frozen 1
  have f2 := HSX.out.hR.frozen 2
  have f3 := HSX.out.hR.frozen 3
  go_wp2_with fail
  obtain ⟨q1, q2⟩ := HSX.out.fin HMX.out (z := Z) HZ2.out (by simp [doneR])
  change bodyPost _ _ _ _ _ (fill4 w0 (P + 1 + 1) (doneR []))
  exact bodyPost_ret (one_results rfl q1) rfl q2
theorem row_results {w : World} {X : Nat} {tmps : Array Value} {r : Res} (h4 : tmps[10]?.getD undef = .pointer (some ⟨X, 0, none⟩)) (B0 : Blk w X 31 (rCells r)) :
    (results Tryz.f53 tmps).run Tryz.prog w = .ok r.val w := by
  have a0 := B0.cell 0
  have a1 := B0.cell 1
  have a2 := B0.cell 2
  have a3 := B0.cell 3
  simp [rCells] at a0 a1 a2 a3
  simp [results, Tryz.results53, go_sem, h4, a0, a1, a2, a3, Res.val]
theorem TSt.other {w W W' : World} {M P Y : Nat} {base : List UInt8} {pv : Value} {dep : Int} (h : TSt w W M P base pv dep) (hg : W.grownBy W' (some Y)) (hY : P + 1 < Y) : TSt w W' M P base pv dep := by
  have h2 := h.eqP
  exact ⟨h.hP.grown hg (by simp; omega), h.hR.grown hg (by simp; omega), grown_grown h.g hg (fun k hk => .inr (by injection hk with hk; omega)), h.hMw, h2⟩
set_option maxRecDepth 20000 in
set_option maxHeartbeats 8000000 in
theorem row_step (v : EnvD) (D : Dep) (rv : Value) (M : Nat) (base : List UInt8) (el : List Elem) (dep : Int) (tk : Tk) (l : List Elem) (hone : ∀ k (h : k < l.length), OneAt v D rv M base el dep tk l[k]) : RowAt v D rv M base el dep tk l := by
  intro pv lv sub n c w hm hpv hlv hn
  obtain ⟨Ap, cp, rfl, -⟩ := elems_open hpv
  obtain ⟨Al, cl, rfl, hlc, hcm, -⟩ := elems_open hlv
  unfold maxLen at hcm
  have HONE := Lib.hid hone
  have HPV := Lib.hid hpv
  have HLV := Lib.hid hlv
  have HZ0 : Hid (rowF D tk sub n [] l c = rowF D tk sub n [] (l.drop 0) c) := rfl
  generalize rowF D tk sub n [] l c = Z at *
  have hal : Below w.heap.size w ((w.alloc (.cells #[.string (bs base), .slice Ap el.length cp, .int .i64 dep] 104)).alloc (.cells (rCells res0) 31)) := ((Below.refl _ _).alloc (Nat.le_refl _) _).alloc (by rw [size_alloc]; omega) _
  have HS0 := Lib.hid (TSt.start w hm.blk.lt base (.slice Ap el.length cp) dep)
  have HM0 := Lib.hid (hm.below hal)
  have hn1 : (n : Int) ≤ 20000 := by omega
  clear hone hpv hlv hm hal
  go_enter Tryz.func53, Tryz.ntmps53
  go_upto_region 1 with (fail)
  change Code.wp _ _ _ _ ((w.alloc (.cells #[.string (bs base), .slice Ap el.length cp, .int .i64 dep] 104)).alloc (.cells (rCells res0) 31))
  generalize (w.alloc (.cells #[.string (bs base), .slice Ap el.length cp, .int .i64 dep] 104)).alloc (.cells (rCells res0) 31) = w0 at *
  generalize hPP : w.heap.size = P at *
  clear hPP
  go_wp2_with fail
  go_loopw [11, 17] (fun ov i wr => ∃ (k ck : Nat) (out : List UInt8), k ≤ l.length ∧ i = .int .i64 k ∧ ov = .string (bs out) ∧ n + out.length ≤ 20000 ∧ Hid (Z = rowF D tk sub n out (l.drop k) ck) ∧ Hid (TSt w wr M P base (.slice Ap el.length cp) dep) ∧ Hid (MK v rv D.replies M wr ck))
     (fun _ i wr => l.length - (intOf i).toNat)
  case atStart => exact ⟨0, c, [], Nat.zero_le _, rfl, rfl, by simpa using hn, HZ0.out, HS0.out, HM0.out⟩
  case round =>
    clear HZ0 HS0 HM0
    obtain ⟨k, ck, out, hk, rfl, rfl, hno, HZ, HS, HM⟩ := hrel
    have hso := size_bs out
    by_cases hlt : k < l.length
    · have hlw := HLV.out.grown HS.out.g (fun k h => h)
      have hpw := HPV.out.grown HS.out.g (fun k h => h)
      obtain ⟨A', c', hA', -, -, hop⟩ := elems_open hlw
      injection hA' with q1 q2 q3
      subst q1 q3
      obtain ⟨b, off, rfl, hFb, hop⟩ := hop (by rintro rfl; simp at hlt)
      obtain ⟨Ak, ckk, hE⟩ := hop k hlt
      have e0 := hE.c0
      have e1 := hE.c1
      have e2 := hE.c2
      have e3 := hE.c3
      have e4 := hE.c4
      have e5 := hE.c5
      have e6 := hE.c6
      have HKI := Lib.hid hE.kids
      have HPW := Lib.hid hpw
      have H1 := Lib.hid (HONE.out k hlt)
      have HZ2 : Hid (Z = rowF D tk sub n out (l[k] :: l.drop (k + 1)) ck) := by rw [Hid, HZ.out, List.drop_eq_getElem_cons hlt]
      rw [rowF_cons] at HZ2
      have hk1 : (0 : Int) ≤ (k : Int) := by omega
      have hk2 : (k : Int) < (l.length : Int) := by omega
      clear hE hop hlw hpw q2 HZ hFb
      generalize l[k] = x at *
      go_upto_region 5 with (fail)
      have hX := Blk.new wr 74 (eCells x (.slice Ak x.kids.length ckk)).toArray
      have hal : Below wr.heap.size wr (wr.alloc (.cells (eCells x (.slice Ak x.kids.length ckk)).toArray 74)) := (Below.refl _ _).alloc (Nat.le_refl _) _
      have HS5 := Lib.hid (HS.out.below hal)
      have HM5 := Lib.hid (HM.out.below hal)
      have HK5 := Lib.hid (HKI.out.below hal)
      have HP5 := Lib.hid (HPW.out.below hal)
      change Code.wp _ _ _ _ (wr.alloc (.cells (eCells x (.slice Ak x.kids.length ckk)).toArray 74))
      generalize wr.alloc (.cells (eCells x (.slice Ak x.kids.length ckk)).toArray 74) = w5 at *
      clear e0 e1 e2 e3 e4 e5 e6 hal HKI HPW HS HM
      generalize wr.heap.size = X at *
      have x0 := hX.cell 0
      have x1 := hX.cell 1
      have x2 := hX.cell 2
      have x3 := hX.cell 3
      have x4 := hX.cell 4
      have x5 := hX.cell 5
      have x6 := hX.cell 6
      have p0 := HS5.out.hP.cell 0
      have p1 := HS5.out.hP.cell 1
      have p2 := HS5.out.hP.cell 2
      simp [eCells] at x0 x1 x2 x3 x4 x5 x6 p0 p1 p2
      clear hX
      have HRC := Lib.hid (H1.out _ _ sub (n + out.length) ck w5 HM5.out HP5.out HK5.out hno)
      generalize oneF D tk sub (n + out.length) x ck = O at *
      obtain ⟨r, c2⟩ := O
      rw [Int.natCast_add] at HRC
      simp only [eVal] at HRC
      simp only at HZ2
      have hno2 : (n : Int) + (out.length : Int) ≤ 20000 := by omega
      go_wp2_with fail
      refine HRC.out.mono ?_
      rintro e w6 ⟨rfl, hg6, hm6, hl6⟩
      have HS6 := Lib.hid (HS5.out.grown hg6)
      have HM6 := Lib.hid hm6
      have hl6 : r.out.length ≤ 100000000 := hl6
      clear hg6 hm6 HS5 HM5 HK5 HP5 x0 x1 x2 x3 x4 x5 x6 p0 p1 p2 HRC
      simp only [Res.val]
      have hal := ((Below.refl w6.heap.size w6).alloc (Nat.le_refl _) (.cells (rCells r) 31))
      have hY := Blk.new w6 31 (rCells r)
      have HS7 := Lib.hid (HS6.out.below hal)
      have HM7 := Lib.hid (HM6.out.below hal)
      have hYP : P + 1 < w6.heap.size := HS6.out.hR.lt
      go_upto_region 6 with (fail)
      change Code.wp _ _ _ _ (w6.alloc (.cells (rCells r) 31))
      generalize w6.alloc (.cells (rCells r) 31) = w7 at *
      generalize w6.heap.size = Y at *
      have HY := Lib.hid hY
      have HYP := Lib.hid hYP
      clear hal hY hYP HS6 HM6
      have y0 := HY.out.cell 0
      have y1 := HY.out.cell 1
      have y2 := HY.out.cell 2
      have y3 := HY.out.cell 3
      simp [rCells] at y0 y1 y2 y3
      have hsr := size_bs r.out
      by_cases hlong : 20000 < n + out.length + r.out.length
      · have hli : (20000 : Int) < (n : Int) + (out.length : Int) + (r.out.length : Int) := by omega
        have HZ3 : Hid (Z = (failR out 2, c2)) := by rw [Hid, HZ2.out, if_pos hlong]
        clear hlong HZ2
        go_wp2_with fail
        refine (fail_calls19 out 2 w7).mono ?_
        rintro e w9 ⟨rfl, hb9⟩
        have HSX := Lib.hid (HS7.out.below hb9)
        have HMX := Lib.hid (HM7.out.below hb9)
        have HOL : Hid (out.length ≤ 20000) := by rw [Hid]; omega
        clear hb9 HS7 HM7
        simp only [Res.val, failR]
        have r0 := HSX.out.hR.cell 0
        have r1 := HSX.out.hR.cell 1
        have r2 := HSX.out.hR.cell 2
        have r3 := HSX.out.hR.cell 3
        simp [rCells] at r0 r1 r2 r3
        have f0 := HSX.out.hR.frozen 0
        have f1 := HSX.out.hR.frozen 1
        have f2 := HSX.out.hR.frozen 2
        have f3 := HSX.out.hR.frozen 3
        go_wp2_with fail
        obtain ⟨q1, q2⟩ := HSX.out.fin HMX.out (z := Z) HZ3.out (show out.length ≤ 100000000 by have := HOL.out; omega)
        change bodyPost _ _ _ _ _ (fill4 w9 (P + 1) (failR out 2))
        exact bodyPost_ret (row_results rfl q1) rfl q2
      · have hli : ¬ (20000 : Int) < (n : Int) + (out.length : Int) + (r.out.length : Int) := by omega
        have HZ3 : Hid (Z = if r.state ≠ 0 then (r.behind out, c2) else rowF D tk sub n (out ++ r.out) (l.drop (k + 1)) c2) := by rw [Hid, HZ2.out, if_neg hlong]
        have hsum : (bs out).size + (bs r.out).size ≤ 1000000 := by omega
        have hba : bs out ++ bs r.out = bs (out ++ r.out) := bs_append _ _
        have HLL : Hid (n + (out ++ r.out).length ≤ 20000) := by rw [Hid, List.length_append]; omega
        clear hlong HZ2
        by_cases hst : r.state = 0
        · have bst : (r.state != 0) = false := by rw [hst]; rfl
          have HZ4 : Hid (Z = rowF D tk sub n (out ++ r.out) (l.drop (k + 1)) c2) := by rw [Hid, HZ3.out, if_neg (by simpa using hst)]
          have HBA := Lib.hid hba
          clear hst HZ3
          go_wp2_with fail
          go_roundw
          case rel => exact ⟨k + 1, c2, out ++ r.out, hlt, by go_num, rfl, HLL.out, HZ4.out, HS7.out, HM7.out⟩
          case measure => simp [intOf]; omega
        · have bst : (r.state != 0) = true := by rw [bne_iff_ne]; exact hst
          have HZ4 : Hid (Z = (r.behind out, c2)) := by rw [Hid, HZ3.out, if_pos hst]
          have g0 := HY.out.frozen 0
          clear hst HZ3
          go_upto_region 11 with (fail)
          have hg8 : w7.grownBy (w7.setCell ⟨Y, 0, none⟩ (.string (bs (out ++ r.out)))) (some Y) := grown_setCell (grown_refl _ _) (.inl rfl) _
          have HSX := Lib.hid (HS7.out.other hg8 HYP.out)
          have HMX := Lib.hid (HM7.out.other hg8 (by have h1 := HS7.out.hMw; have h2 := HS7.out.eqP; have h3 := HYP.out; omega))
          have HY8 := Lib.hid (HY.out.set_ 0 (.string (bs (out ++ r.out))))
          change Code.wp _ _ _ _ (w7.setCell ⟨Y, 0, none⟩ (.string (bs (out ++ r.out))))
          generalize w7.setCell ⟨Y, 0, none⟩ (.string (bs (out ++ r.out))) = w8 at *
          clear hg8 HS7 HM7 y0 y1 y2 y3 g0 HY
          have y0 : w8.cell? ⟨Y, 0, none⟩ = some (.string (bs (out ++ r.out))) := HY8.out.cell 0
          have y1 : w8.cell? ⟨Y, 1, none⟩ = some (.int .i64 r.state) := HY8.out.cell 1
          have y2 : w8.cell? ⟨Y, 2, none⟩ = some (.int .i64 r.bad) := HY8.out.cell 2
          have y3 : w8.cell? ⟨Y, 3, none⟩ = some (.string (bs r.want)) := HY8.out.cell 3
          have r0 := HSX.out.hR.cell 0
          have r1 := HSX.out.hR.cell 1
          have r2 := HSX.out.hR.cell 2
          have r3 := HSX.out.hR.cell 3
          simp [rCells] at r0 r1 r2 r3
          have f0 := HSX.out.hR.frozen 0
          have f1 := HSX.out.hR.frozen 1
          have f2 := HSX.out.hR.frozen 2
          have f3 := HSX.out.hR.frozen 3
          go_wp2_with fail
          obtain ⟨q1, q2⟩ := HSX.out.fin HMX.out (z := Z) HZ4.out (show (out ++ r.out).length ≤ 100000000 by have := HLL.out; omega)
          change bodyPost _ _ _ _ _ (fill4 w8 (P + 1) (r.behind out))
          exact bodyPost_ret (row_results rfl q1) rfl q2
    · have hkl : k = l.length := by omega
      have HZ3 : Hid (Z = (doneR out, ck)) := by rw [Hid, HZ.out, hkl, List.drop_length, rowF]
      have HSX := HS
      have HMX := HM
      have HOL : Hid (out.length ≤ 20000) := by rw [Hid]; omega
      subst hkl
      clear HZ HS HM
      have r0 := HSX.out.hR.cell 0
      have r1 := HSX.out.hR.cell 1
      have r2 := HSX.out.hR.cell 2
      have r3 := HSX.out.hR.cell 3
      simp [rCells] at r0 r1 r2 r3
      have f0 := HSX.out.hR.frozen 0
      have f1 := HSX.out.hR.frozen 1
      have f2 := HSX.out.hR.frozen 2
      have f3 := HSX.out.hR.frozen 3
      go_wp2_with fail
      obtain ⟨q1, q2⟩ := HSX.out.fin HMX.out (z := Z) HZ3.out (show out.length ≤ 100000000 by have := HOL.out; omega)
      change bodyPost _ _ _ _ _ (fill4 wr (P + 1) (doneR out))
      exact bodyPost_ret (row_results rfl q1) rfl q2
end Go.Proofs.YtijpfcjlochahaaGreatDoor
