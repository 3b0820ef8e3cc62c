/- The walk of eval's take, where the rows of pages one deeper are walked. -/
import Derived.Test.YtijpfcjlochahaaGreatDoorEvW
set_option linter.unusedVariables false
set_option linter.unusedSimpArgs false
namespace Go.Proofs.YtijpfcjlochahaaGreatDoor
open Go Go.RowKit
set_option linter.unusedVariables false
set_option linter.unusedSimpArgs false

set_option maxRecDepth 20000 in
set_option maxHeartbeats 2000000 in
theorem within_deep (v : EnvD) (rv : Value) (reps : List Rep) (M : Nat) (base : List UInt8) (A B : Option Addr) (n m cA cB : Nat) (c : Nat) (w : World) (hm : MK v rv reps M w c) :
    Calls Tryz.prog 194 #[.pointer (some ⟨M, 0, none⟩), .agg #[.string (bs base), .slice A n cA, .int .i64 5], .slice B m cB] w (EvPost v rv reps M w (failR [] 5, c)) := by
  have HS := Lib.hid (TSt.start w hm.blk.lt base (.slice A n cA) 5)
  have hal : Below w.heap.size w ((w.alloc (.cells #[.string (bs base), .slice A n cA, .int .i64 5] 104)).alloc (.cells (rCells res0) 31)) := ((Below.refl _ _).alloc (Nat.le_refl _) _).alloc (by rw [size_alloc]; omega) _
  have HMK := Lib.hid (hm.below hal)
  clear hm hal
  go_enter Tryz.func194, Tryz.ntmps194
  go_wp2_with fail
  refine (fail_calls19 [] 5 _).mono ?_
  rintro e w2 ⟨rfl, hb2⟩
  have HSX := Lib.hid (HS.out.below hb2)
  have HM2 := Lib.hid (HMK.out.below hb2)
  clear hb2 HS HMK
  generalize w.heap.size = P at *
  have r0 := HSX.out.hR.cell 0
  have r1 := HSX.out.hR.cell 1
  have r2 := HSX.out.hR.cell 2
  have r3 := HSX.out.hR.cell 3
  simp [rCells] at r0 r1 r2 r3
  have f0 := HSX.out.hR.frozen 0
  have f1 := HSX.out.hR.frozen 1
  have f2 := HSX.out.hR.frozen 2
  have f3 := HSX.out.hR.frozen 3
  simp only [Res.val, failR]
  go_wp2_with fail
  obtain ⟨q1, q2⟩ := HSX.out.fin HM2.out (z := (failR [] 5, c)) rfl (by simp [failR])
  change bodyPost _ _ _ _ _ (fill4 w2 (P + 1) (failR [] 5))
  exact bodyPost_ret (within_results rfl q1) rfl q2
theorem takeD_eq (D : Dep) (d : Nat) (base : List UInt8) (el : List Elem) (s : List UInt8) (c : Nat) : takeD D d base el s c =
    match inlineF (D.sub s) el with
    | some kids =>
      if 20 ≤ c then (failR [] 4, c)
      else if d = 0 then (failR [] 5, c + 1)
      else (lessR (rowF D (takeD D (d - 1) base el) false 0 [] kids (c + 1)).1, (rowF D (takeD D (d - 1) base el) false 0 [] kids (c + 1)).2)
    | none =>
      if (addressF base (D.sub s)).2 ≠ 0 then (failR [] (addressF base (D.sub s)).2, c)
      else if 20 ≤ c then (failR [] 4, c)
      else match goodF D.replies (addressF base (D.sub s)).1 with
        | none => (waitR (addressF base (D.sub s)).1, c + 1)
        | some r =>
          if repBad r ≠ 0 then (failR [] (repBad r), c + 1)
          else if r.esi = false then (doneR r.body, c + 1)
          else if d = 0 then (failR [] 5, c + 1)
          else (lessR (wholeC D (d - 1) (addressF base (D.sub s)).1 r.body (c + 1)).1, (wholeC D (d - 1) (addressF base (D.sub s)).1 r.body (c + 1)).2) := by
  cases d with
  | zero =>
    show takeStep D true _ base el s c = _
    unfold takeStep
    cases inlineF (D.sub s) el with
    | some kids => rfl
    | none =>
      simp only
      split
      · rfl
      · split
        · rfl
        · cases goodF D.replies (addressF base (D.sub s)).1 with
          | none => rfl
          | some r => rfl
  | succ d =>
    show takeStep D false _ base el s c = _
    unfold takeStep
    cases inlineF (D.sub s) el with
    | some kids => rfl
    | none =>
      simp only
      split
      · rfl
      · split
        · rfl
        · cases goodF D.replies (addressF base (D.sub s)).1 with
          | none => rfl
          | some r =>
            simp only [wholeC, Nat.add_sub_cancel]
            split
            · rfl
            · split
              · rfl
              · simp only [Bool.false_eq_true, if_false, Nat.succ_ne_zero]
                split
                · simp [lessR, failR]
                · rfl
theorem MK.count2 {v : EnvD} {rv : Value} {reps : List Rep} {M c : Nat} {W : World} (h : MK v rv reps M W c) (hc : ¬ 20 ≤ c) : MK v rv reps M (W.setCell ⟨M, 7, none⟩ (.int .i64 ((c : Int) + 1))) (c + 1) := h.count (by omega)
theorem good_url {l : List Rep} {u : List UInt8} {r : Rep} (h : goodF l u = some r) : r ∈ l ∧ r.url = u := by
  unfold goodF at h
  exact ⟨List.mem_of_find?_eq_some h, by have := List.find?_some h; simpa using this⟩
set_option maxRecDepth 20000 in
set_option maxHeartbeats 8000000 in
theorem take_calls (v : EnvD) (D : Dep) (rv : Value) (M d : Nat) (hd : d ≤ 4) (hrow : d ≠ 0 → ∀ l, RowOk v D rv M (d - 1) l) (hreps : RepsOk v D) (base : List UInt8) (el : List Elem) (pv : Value) (s : List UInt8) (c : Nat) (w : World)
    (hbp : ParseOk base) (hel : okL v D el) (hs : TakeOk v D s) (hm : MK v rv D.replies M w c) (hpv : GR w (fun k => k ≠ M) (.row 7 (el.map Elem.gv)) [pv]) :
    Calls Tryz.prog 178 #[.pointer (some ⟨M, 0, none⟩), .agg #[.string (bs base), pv, .int .i64 (4 - (d : Int))], .string (bs s)] w (EvPost v rv D.replies M w (takeD D d base el s c)) := by
  obtain ⟨Ap, cp, rfl, -⟩ := elems_open hpv
  have HZ := Lib.hid (takeD_eq D d base el s c)
  generalize takeD D d base el s c = Z at *
  obtain ⟨⟨hsl, hsub⟩, hps⟩ := hs
  have HSUB := Lib.hid hsub
  have HPS := Lib.hid hps
  have HBP := Lib.hid hbp
  generalize D.sub s = t at *
  have HROW := Lib.hid hrow
  have HREP := Lib.hid hreps
  have HEL := Lib.hid hel
  have HCL := Lib.hid hm.hc
  obtain ⟨dep, hdep⟩ : ∃ dep : Int, dep = 4 - (d : Int) := ⟨_, rfl⟩
  rw [← hdep]
  have HDEP := Lib.hid hdep
  have hdp0 : 0 ≤ dep := by omega
  have hdp1 : dep ≤ 4 := by omega
  have hal : Below w.heap.size w ((w.alloc (.cells #[.string (bs base), .slice Ap el.length cp, .int .i64 dep] 104)).alloc (.cells (rCells res0) 31)) := ((Below.refl _ _).alloc (Nat.le_refl _) _).alloc (by rw [size_alloc]; omega) _
  have HS := Lib.hid (TSt.start w hm.blk.lt base (.slice Ap el.length cp) dep)
  have HMK := Lib.hid (hm.below hal)
  have HPV := Lib.hid (hpv.below hal)
  have c0 := HMK.out.blk.cell 0
  have c1 := HMK.out.blk.cell 1
  have c2 := HMK.out.blk.cell 2
  have c3 := HMK.out.blk.cell 3
  have c4 := HMK.out.blk.cell 4
  have c5 := HMK.out.blk.cell 5
  simp [mCells] at c0 c1 c2 c3 c4 c5
  have hc20 : (c : Int) ≤ 20 := by have := hm.hc; omega
  clear hrow hreps hel hbp hps hsub hm hpv hdep
  go_enter Tryz.func178, Tryz.ntmps178
  go_upto_region 1 with (fail)
  change Code.wp _ _ _ _ ((w.alloc (.cells #[.string (bs base), .slice Ap el.length cp, .int .i64 dep] 104)).alloc (.cells (rCells res0) 31))
  generalize (w.alloc (.cells #[.string (bs base), .slice Ap el.length cp, .int .i64 dep] 104)).alloc (.cells (rCells res0) 31) = w0 at *
  generalize w.heap.size = P at *
  go_wp2_with fail
  refine (HSUB.out w0 HMK.out.glob).mono ?_
  rintro e w1 ⟨rfl, hb1⟩
  have HS1 := Lib.hid (HS.out.below hb1)
  have HM1 := Lib.hid (HMK.out.below hb1)
  have HP1 := Lib.hid (HPV.out.below hb1)
  clear hb1 HS HMK HPV HSUB c0 c1 c2 c3 c4 c5
  have p0 := HS1.out.hP.cell 0
  have p1 := HS1.out.hP.cell 1
  have p2 := HS1.out.hP.cell 2
  simp at p0 p1 p2
  go_wp2_with fail
  refine (einline_calls t _ el _ _ w1 (Nat.le_refl _) HP1.out).mono ?_
  rintro e w2 ⟨hio, hb2⟩
  have HS2 := Lib.hid (HS1.out.below hb2)
  have HM2 := Lib.hid (HM1.out.below hb2)
  have HP2 := Lib.hid (HP1.out.below hb2)
  clear hb2 HS1 HM1 HP1 p0 p1 p2
  rcases hio with ⟨hno, rfl⟩ | ⟨kids, kv, hso, rfl, hkg⟩
  · have HZ2 : Hid (Z = if (addressF base t).2 ≠ 0 then (failR [] (addressF base t).2, c)
      else if 20 ≤ c then (failR [] 4, c)
      else match goodF D.replies (addressF base t).1 with
        | none => (waitR (addressF base t).1, c + 1)
        | some r =>
          if repBad r ≠ 0 then (failR [] (repBad r), c + 1)
          else if r.esi = false then (doneR r.body, c + 1)
          else if d = 0 then (failR [] 5, c + 1)
          else (lessR (wholeC D (d - 1) (addressF base t).1 r.body (c + 1)).1, (wholeC D (d - 1) (addressF base t).1 r.body (c + 1)).2)) := by rw [Hid, HZ.out, hno]
    have HAC := Lib.hid (fun W hg => address_calls base t HBP.out HPS.out W hg)
    generalize addressF base t = AF at *
    obtain ⟨url, bad⟩ := AF
    simp only at HZ2 HAC
    have p0 := HS2.out.hP.cell 0
    simp at p0
    clear hno HZ
    go_wp2_with fail
    refine (HAC.out w2 HM2.out.glob).mono ?_
    rintro e w3 ⟨rfl, hb3⟩
    have HSY := Lib.hid (HS2.out.below hb3)
    have HMY := Lib.hid (HM2.out.below hb3)
    clear hb3 HS2 HM2 HP2 p0 HAC
    have m7 := HMY.out.blk.cell 7
    simp [mCells] at m7
    by_cases hbad : bad = 0
    · have bb : (bad == 0) = true := by rw [hbad]; rfl
      have bb2 : (bad != 0) = false := by rw [hbad]; rfl
      have HZ3 : Hid (Z = if 20 ≤ c then (failR [] 4, c)
        else match goodF D.replies url with
          | none => (waitR url, c + 1)
          | some r =>
            if repBad r ≠ 0 then (failR [] (repBad r), c + 1)
            else if r.esi = false then (doneR r.body, c + 1)
            else if d = 0 then (failR [] 5, c + 1)
            else (lessR (wholeC D (d - 1) url r.body (c + 1)).1, (wholeC D (d - 1) url r.body (c + 1)).2)) := by rw [Hid, HZ2.out, if_neg (by simpa using hbad)]
      clear hbad HZ2
      by_cases hc : 20 ≤ c
      · have hci : (20 : Int) ≤ (c : Int) := by omega
        have HZ4 : Hid (Z = (failR [] 4, c)) := by rw [Hid, HZ3.out, if_pos hc]
        clear hc HZ3
        go_wp2_with fail
        refine (fail_calls19 [] 4 w3).mono ?_
        rintro e w9 ⟨rfl, hb9⟩
        have HSX := Lib.hid (HSY.out.below hb9)
        have HMX := Lib.hid (HMY.out.below hb9)
        clear hb9 HSY HMY
        simp only [Res.val, failR]
        have r0 := HSX.out.hR.cell 0
        have r1 := HSX.out.hR.cell 1
        have r2 := HSX.out.hR.cell 2
        have r3 := HSX.out.hR.cell 3
        simp [rCells] at r0 r1 r2 r3
        have f0 := HSX.out.hR.frozen 0
        have f1 := HSX.out.hR.frozen 1
        have f2 := HSX.out.hR.frozen 2
        have f3 := HSX.out.hR.frozen 3
        go_wp2_with fail
        obtain ⟨q1, q2⟩ := HSX.out.fin HMX.out (z := Z) HZ4.out (by simp [failR])
        change bodyPost _ _ _ _ _ (fill4 w9 (P + 1) (failR [] 4))
        exact bodyPost_ret (take_results rfl q1) rfl q2
      · have hci : ¬ (20 : Int) ≤ (c : Int) := by omega
        have g7 := HMY.out.blk.frozen 7
        go_upto_region 11 with (fail)
        have hg4 : w3.grownBy (w3.setCell ⟨M, 7, none⟩ (.int .i64 ((c : Int) + 1))) (some M) := grown_setCell (grown_refl _ _) (.inl rfl) _
        have HS4 := Lib.hid (HSY.out.grown hg4)
        have HM4 := Lib.hid (HMY.out.count2 hc)
        change Code.wp _ _ _ _ (w3.setCell ⟨M, 7, none⟩ (.int .i64 ((c : Int) + 1)))
        generalize w3.setCell ⟨M, 7, none⟩ (.int .i64 ((c : Int) + 1)) = w4 at *
        clear hg4 HSY HMY m7 g7
        have HZ4 : Hid (Z = match goodF D.replies url with
            | none => (waitR url, c + 1)
            | some r =>
              if repBad r ≠ 0 then (failR [] (repBad r), c + 1)
              else if r.esi = false then (doneR r.body, c + 1)
              else if d = 0 then (failR [] 5, c + 1)
              else (lessR (wholeC D (d - 1) url r.body (c + 1)).1, (wholeC D (d - 1) url r.body (c + 1)).2)) := by rw [Hid, HZ3.out, if_neg hc]
        clear hc HZ3
        have m6 := HM4.out.blk.cell 6
        simp [mCells] at m6
        have HGC := Lib.hid (good_calls D.replies rv _ url w4 HM4.out.reps)
        have HGU := Lib.hid (fun r => good_url (l := D.replies) (u := url) (r := r))
        go_wp2_with fail
        refine HGC.out.mono ?_
        rintro e w5 ⟨rfl, hb5⟩
        have HS5 := Lib.hid (HS4.out.below hb5)
        have HM5 := Lib.hid (HM4.out.below hb5)
        clear hb5 HS4 HM4 m6 HGC
        generalize goodF D.replies url = GF at *
        rcases GF with _ | r
        · have HZ5 : Hid (Z = (waitR url, c + 1)) := by rw [Hid, HZ4.out]
          clear HZ4
          simp only [goodV, Rep.val, rep0]
          have hal := ((Below.refl w5.heap.size w5).alloc (Nat.le_refl _) (.cells (repCells rep0) 41))
          have HSX := Lib.hid (HS5.out.below hal)
          have HMX := Lib.hid (HM5.out.below hal)
          go_upto_region 14 with (fail)
          change Code.wp _ _ _ _ (w5.alloc (.cells (repCells rep0) 41))
          generalize w5.alloc (.cells (repCells rep0) 41) = w6 at *
          clear hal HS5 HM5
          have r0 := HSX.out.hR.cell 0
          have r1 := HSX.out.hR.cell 1
          have r2 := HSX.out.hR.cell 2
          have r3 := HSX.out.hR.cell 3
          simp [rCells] at r0 r1 r2 r3
          have f0 := HSX.out.hR.frozen 0
          have f1 := HSX.out.hR.frozen 1
          have f2 := HSX.out.hR.frozen 2
          have f3 := HSX.out.hR.frozen 3
          go_wp2_with fail
          obtain ⟨q1, q2⟩ := HSX.out.fin HMX.out (z := Z) HZ5.out (by simp [waitR])
          change bodyPost _ _ _ _ _ (fill4 w6 (P + 1) (waitR url))
          exact bodyPost_ret (take_results rfl q1) rfl q2
        · obtain ⟨hmem, hurl⟩ := HGU.out r rfl
          have HZ5 : Hid (Z = if repBad r ≠ 0 then (failR [] (repBad r), c + 1)
                else if r.esi = false then (doneR r.body, c + 1)
                else if d = 0 then (failR [] 5, c + 1)
                else (lessR (wholeC D (d - 1) url r.body (c + 1)).1, (wholeC D (d - 1) url r.body (c + 1)).2)) := by rw [Hid, HZ4.out]
          clear HZ4 HGU
          have HMEM := Lib.hid hmem
          have HURL := Lib.hid hurl
          clear hmem hurl
          have hblen : repBad r = 0 → r.body.length ≤ 20000 := fun h => by
            unfold repBad at h
            split at h
            · rename_i h1; exact absurd h h1
            · split at h
              · exact absurd h (by decide)
              · rename_i h2
                have : ¬ 20000 < r.body.length := fun h3 => h2 (.inr h3)
                omega
          have HBL := Lib.hid hblen
          clear hblen
          simp only [goodV, Rep.val]
          have hal := ((Below.refl w5.heap.size w5).alloc (Nat.le_refl _) (.cells (repCells r) 41))
          have hX := Blk.new w5 41 (repCells r)
          have HSY := Lib.hid (HS5.out.below hal)
          have HMY := Lib.hid (HM5.out.below hal)
          go_upto_region 14 with (fail)
          change Code.wp _ _ _ _ (w5.alloc (.cells (repCells r) 41))
          generalize w5.alloc (.cells (repCells r) 41) = w6 at *
          generalize w5.heap.size = X at *
          have HX := Lib.hid hX
          clear hal HS5 HM5 hX
          by_cases hrb : repBad r = 0
          · have rb : (repBad r != 0) = false := by rw [hrb]; rfl
            have HZ6 : Hid (Z = if r.esi = false then (doneR r.body, c + 1)
                else if d = 0 then (failR [] 5, c + 1)
                else (lessR (wholeC D (d - 1) url r.body (c + 1)).1, (wholeC D (d - 1) url r.body (c + 1)).2)) := by rw [Hid, HZ5.out, if_neg (by simpa using hrb)]
            have HBL2 : Hid (r.body.length ≤ 20000) := HBL.out hrb
            clear hrb HZ5 HBL
            have x2 := HX.out.cell 2
            have x3 := HX.out.cell 3
            simp [repCells] at x2 x3
            by_cases hesi : r.esi = false
            · have HZ7 : Hid (Z = (doneR r.body, c + 1)) := by rw [Hid, HZ6.out, if_pos hesi]
              rw [hesi] at x2
              clear HZ6 hesi
              have HSX := HSY
              have HMX := HMY
              clear HSY HMY
              have r0 := HSX.out.hR.cell 0
              have r1 := HSX.out.hR.cell 1
              have r2 := HSX.out.hR.cell 2
              have r3 := HSX.out.hR.cell 3
              simp [rCells] at r0 r1 r2 r3
              have f0 := HSX.out.hR.frozen 0
              have f1 := HSX.out.hR.frozen 1
              have f2 := HSX.out.hR.frozen 2
              have f3 := HSX.out.hR.frozen 3
              go_wp2_with fail
              obtain ⟨q1, q2⟩ := HSX.out.fin HMX.out (z := Z) HZ7.out (by have := HBL2.out; simp [doneR]; omega)
              change bodyPost _ _ _ _ _ (fill4 w6 (P + 1) (doneR r.body))
              exact bodyPost_ret (take_results rfl q1) rfl q2
            · have hesi2 : r.esi = true := by simpa using hesi
              have HZ7 : Hid (Z = if d = 0 then (failR [] 5, c + 1)
                    else (lessR (wholeC D (d - 1) url r.body (c + 1)).1, (wholeC D (d - 1) url r.body (c + 1)).2)) := by rw [Hid, HZ6.out, if_neg hesi]
              obtain ⟨hpu, hok⟩ := HREP.out r HMEM.out hesi2
              rw [HURL.out] at hpu
              have HPU := Lib.hid hpu
              have HOK := Lib.hid hok
              rw [hesi2] at x2
              clear HZ6 hesi hesi2 hpu hok
              have p2 := HSY.out.hP.cell 2
              simp at p2
              by_cases h0 : d = 0
              · have HZ8 : Hid (Z = (failR [] 5, c + 1)) := by rw [Hid, HZ7.out, if_pos h0]
                have hd5 : dep + 1 = 5 := by have := HDEP.out; omega
                clear h0 HZ7
                go_wp2_with fail
                refine (whole_deep v rv D.replies M url r.body (c + 1) w6 HMY.out).mono ?_
                rintro e w7 ⟨rfl, hg7, hm7, -⟩
                have HS7 := Lib.hid (HSY.out.grown hg7)
                have HM7 := Lib.hid hm7
                clear hg7 hm7 HSY HMY p2 x2 x3
                simp only [Res.val, failR]
                go_wp2_with fail
                refine (less_calls (failR [] 5) w7).mono ?_
                rintro e w8 ⟨rfl, hb8⟩
                have HSX := Lib.hid (HS7.out.below hb8)
                have HMX := Lib.hid (HM7.out.below hb8)
                clear hb8 HS7 HM7
                have hlf : lessR (failR [] 5) = failR [] 5 := by simp [lessR, failR]
                rw [hlf]
                simp only [Res.val, failR]
                have r0 := HSX.out.hR.cell 0
                have r1 := HSX.out.hR.cell 1
                have r2 := HSX.out.hR.cell 2
                have r3 := HSX.out.hR.cell 3
                simp [rCells] at r0 r1 r2 r3
                have f0 := HSX.out.hR.frozen 0
                have f1 := HSX.out.hR.frozen 1
                have f2 := HSX.out.hR.frozen 2
                have f3 := HSX.out.hR.frozen 3
                go_wp2_with fail
                obtain ⟨q1, q2⟩ := HSX.out.fin HMX.out (z := Z) HZ8.out (by simp [failR])
                change bodyPost _ _ _ _ _ (fill4 w8 (P + 1) (failR [] 5))
                exact bodyPost_ret (take_results rfl q1) rfl q2
              · obtain ⟨d1, hd1⟩ : ∃ d1, d = d1 + 1 := ⟨d - 1, by omega⟩
                have HZ8 : Hid (Z = (lessR (wholeC D d1 url r.body (c + 1)).1, (wholeC D d1 url r.body (c + 1)).2)) := by rw [Hid, HZ7.out, if_neg h0, hd1, Nat.add_sub_cancel]
                have hd5 : dep + 1 = 4 - (d1 : Int) := by have := HDEP.out; omega
                have HRW := Lib.hid (HROW.out h0)
                rw [hd1, Nat.add_sub_cancel] at HRW
                have HWC := Lib.hid (whole_calls v D rv M d1 url r.body (fun _ => HRW.out _) (c + 1) w6 HPU.out HOK.out HMY.out (by omega) (by have := HBL2.out; omega))
                generalize wholeC D d1 url r.body (c + 1) = WC at *
                have HD5 := Lib.hid hd5
                clear h0 HZ7 hd1 hd5
                go_wp2_with fail
                rw [HD5.out]
                refine HWC.out.mono ?_
                rintro e w7 ⟨rfl, hg7, hm7, hl7⟩
                have HS7 := Lib.hid (HSY.out.grown hg7)
                have HM7 := Lib.hid hm7
                have HL7 := Lib.hid (less_len WC.1 hl7)
                clear hg7 hm7 hl7 HSY HMY p2 x2 x3 HWC
                go_wp2_with fail
                refine (less_calls WC.1 w7).mono ?_
                rintro e w8 ⟨rfl, hb8⟩
                have HSX := Lib.hid (HS7.out.below hb8)
                have HMX := Lib.hid (HM7.out.below hb8)
                clear hb8 HS7 HM7
                generalize lessR WC.1 = rr at *
                simp only [Res.val]
                have r0 := HSX.out.hR.cell 0
                have r1 := HSX.out.hR.cell 1
                have r2 := HSX.out.hR.cell 2
                have r3 := HSX.out.hR.cell 3
                simp [rCells] at r0 r1 r2 r3
                have f0 := HSX.out.hR.frozen 0
                have f1 := HSX.out.hR.frozen 1
                have f2 := HSX.out.hR.frozen 2
                have f3 := HSX.out.hR.frozen 3
                go_wp2_with fail
                obtain ⟨q1, q2⟩ := HSX.out.fin HMX.out (z := Z) HZ8.out HL7.out
                change bodyPost _ _ _ _ _ (fill4 w8 (P + 1) rr)
                exact bodyPost_ret (take_results rfl q1) rfl q2
          · have rb : (repBad r != 0) = true := by rw [bne_iff_ne]; exact hrb
            have HZ6 : Hid (Z = (failR [] (repBad r), c + 1)) := by rw [Hid, HZ5.out, if_pos hrb]
            clear hrb HZ5
            go_wp2_with fail
            refine (fail_calls19 [] (repBad r) w6).mono ?_
            rintro e w9 ⟨rfl, hb9⟩
            have HSX := Lib.hid (HSY.out.below hb9)
            have HMX := Lib.hid (HMY.out.below hb9)
            clear hb9 HSY HMY
            simp only [Res.val, failR]
            have r0 := HSX.out.hR.cell 0
            have r1 := HSX.out.hR.cell 1
            have r2 := HSX.out.hR.cell 2
            have r3 := HSX.out.hR.cell 3
            simp [rCells] at r0 r1 r2 r3
            have f0 := HSX.out.hR.frozen 0
            have f1 := HSX.out.hR.frozen 1
            have f2 := HSX.out.hR.frozen 2
            have f3 := HSX.out.hR.frozen 3
            go_wp2_with fail
            obtain ⟨q1, q2⟩ := HSX.out.fin HMX.out (z := Z) HZ6.out (by simp [failR])
            change bodyPost _ _ _ _ _ (fill4 w9 (P + 1) (failR [] (repBad r)))
            exact bodyPost_ret (take_results rfl q1) rfl q2
    · have bb : (bad == 0) = false := by rw [beq_eq_false_iff_ne]; exact hbad
      have bb2 : (bad != 0) = true := by rw [bne_iff_ne]; exact hbad
      have HZ3 : Hid (Z = (failR [] bad, c)) := by rw [Hid, HZ2.out, if_pos hbad]
      clear hbad HZ2
      go_wp2_with fail
      refine (fail_calls19 [] bad w3).mono ?_
      rintro e w9 ⟨rfl, hb9⟩
      have HSX := Lib.hid (HSY.out.below hb9)
      have HMX := Lib.hid (HMY.out.below hb9)
      clear hb9 HSY HMY
      simp only [Res.val, failR]
      have r0 := HSX.out.hR.cell 0
      have r1 := HSX.out.hR.cell 1
      have r2 := HSX.out.hR.cell 2
      have r3 := HSX.out.hR.cell 3
      simp [rCells] at r0 r1 r2 r3
      have f0 := HSX.out.hR.frozen 0
      have f1 := HSX.out.hR.frozen 1
      have f2 := HSX.out.hR.frozen 2
      have f3 := HSX.out.hR.frozen 3
      go_wp2_with fail
      obtain ⟨q1, q2⟩ := HSX.out.fin HMX.out (z := Z) HZ3.out (by simp [failR])
      change bodyPost _ _ _ _ _ (fill4 w9 (P + 1) (failR [] bad))
      exact bodyPost_ret (take_results rfl q1) rfl q2
  · have HZ2 : Hid (Z = if 20 ≤ c then (failR [] 4, c)
      else if d = 0 then (failR [] 5, c + 1)
      else (lessR (rowF D (takeD D (d - 1) base el) false 0 [] kids (c + 1)).1, (rowF D (takeD D (d - 1) base el) false 0 [] kids (c + 1)).2)) := by rw [Hid, HZ.out, hso]
    have hkok := inlineF_ok el HEL.out hso
    obtain ⟨Ak, ck, rfl, -⟩ := elems_open hkg
    have HKG := Lib.hid hkg
    have HKO := Lib.hid hkok
    clear hso HZ hkg hkok
    have HSY := HS2
    have HMY := HM2
    clear HS2 HM2
    have m7 := HMY.out.blk.cell 7
    simp [mCells] at m7
    by_cases hc : 20 ≤ c
    · have hci : (20 : Int) ≤ (c : Int) := by omega
      have HZ4 : Hid (Z = (failR [] 4, c)) := by rw [Hid, HZ2.out, if_pos hc]
      clear hc HZ2
      go_wp2_with fail
      refine (fail_calls19 [] 4 w2).mono ?_
      rintro e w9 ⟨rfl, hb9⟩
      have HSX := Lib.hid (HSY.out.below hb9)
      have HMX := Lib.hid (HMY.out.below hb9)
      clear hb9 HSY HMY
      simp only [Res.val, failR]
      have r0 := HSX.out.hR.cell 0
      have r1 := HSX.out.hR.cell 1
      have r2 := HSX.out.hR.cell 2
      have r3 := HSX.out.hR.cell 3
      simp [rCells] at r0 r1 r2 r3
      have f0 := HSX.out.hR.frozen 0
      have f1 := HSX.out.hR.frozen 1
      have f2 := HSX.out.hR.frozen 2
      have f3 := HSX.out.hR.frozen 3
      go_wp2_with fail
      obtain ⟨q1, q2⟩ := HSX.out.fin HMX.out (z := Z) HZ4.out (by simp [failR])
      change bodyPost _ _ _ _ _ (fill4 w9 (P + 1) (failR [] 4))
      exact bodyPost_ret (take_results rfl q1) rfl q2
    · have hci : ¬ (20 : Int) ≤ (c : Int) := by omega
      have g7 := HMY.out.blk.frozen 7
      go_upto_region 11 with (fail)
      have hg4 : w2.grownBy (w2.setCell ⟨M, 7, none⟩ (.int .i64 ((c : Int) + 1))) (some M) := grown_setCell (grown_refl _ _) (.inl rfl) _
      have HS4 := Lib.hid (HSY.out.grown hg4)
      have HM4 := Lib.hid (HMY.out.count2 hc)
      have HP4 := Lib.hid (HP2.out.grown hg4 (fun k h => h))
      have HK4 := Lib.hid (HKG.out.grown hg4 (fun k h => h))
      change Code.wp _ _ _ _ (w2.setCell ⟨M, 7, none⟩ (.int .i64 ((c : Int) + 1)))
      generalize w2.setCell ⟨M, 7, none⟩ (.int .i64 ((c : Int) + 1)) = w4 at *
      clear hg4 HSY HMY m7 g7 HP2 HKG
      have HZ3 : Hid (Z = if d = 0 then (failR [] 5, c + 1)
        else (lessR (rowF D (takeD D (d - 1) base el) false 0 [] kids (c + 1)).1, (rowF D (takeD D (d - 1) base el) false 0 [] kids (c + 1)).2)) := by rw [Hid, HZ2.out, if_neg hc]
      clear hc HZ2
      have p0 := HS4.out.hP.cell 0
      have p1 := HS4.out.hP.cell 1
      have p2 := HS4.out.hP.cell 2
      simp at p0 p1 p2
      by_cases h0 : d = 0
      · have HZ8 : Hid (Z = (failR [] 5, c + 1)) := by rw [Hid, HZ3.out, if_pos h0]
        have hd5 : dep + 1 = 5 := by have := HDEP.out; omega
        clear h0 HZ3
        go_wp2_with fail
        refine (within_deep v rv D.replies M base _ _ _ _ _ _ (c + 1) w4 HM4.out).mono ?_
        rintro e w7 ⟨rfl, hg7, hm7, -⟩
        have HSX := Lib.hid (HS4.out.grown hg7)
        have HMX := Lib.hid hm7
        clear hg7 hm7 HS4 HM4 p0 p1 p2
        simp only [Res.val, failR]
        have r0 := HSX.out.hR.cell 0
        have r1 := HSX.out.hR.cell 1
        have r2 := HSX.out.hR.cell 2
        have r3 := HSX.out.hR.cell 3
        simp [rCells] at r0 r1 r2 r3
        have f0 := HSX.out.hR.frozen 0
        have f1 := HSX.out.hR.frozen 1
        have f2 := HSX.out.hR.frozen 2
        have f3 := HSX.out.hR.frozen 3
        go_wp2_with fail
        obtain ⟨q1, q2⟩ := HSX.out.fin HMX.out (z := Z) HZ8.out (by simp [failR])
        change bodyPost _ _ _ _ _ (fill4 w7 (P + 1) (failR [] 5))
        exact bodyPost_ret (take_results rfl q1) rfl q2
      · obtain ⟨d1, hd1⟩ : ∃ d1, d = d1 + 1 := ⟨d - 1, by omega⟩
        have HZ8 : Hid (Z = (lessR (rowF D (takeD D d1 base el) false 0 [] kids (c + 1)).1, (rowF D (takeD D d1 base el) false 0 [] kids (c + 1)).2)) := by rw [Hid, HZ3.out, if_neg h0, hd1, Nat.add_sub_cancel]
        have hd5 : dep + 1 = 4 - (d1 : Int) := by have := HDEP.out; omega
        have HRW := Lib.hid (HROW.out h0)
        rw [hd1, Nat.add_sub_cancel] at HRW
        have HWC := Lib.hid (within_calls v D rv M d1 kids el (HRW.out _) base _ _ (c + 1) w4 HBP.out HEL.out HKO.out HM4.out (by omega) HP4.out HK4.out)
        rw [← HZ8.out] at HWC
        have HD5 := Lib.hid hd5
        clear h0 HZ3 hd1 hd5 HRW
        go_wp2_with fail
        rw [HD5.out]
        refine HWC.out.mono ?_
        rintro e w7 ⟨rfl, hg7, hm7, hl7⟩
        have HSX := Lib.hid (HS4.out.grown hg7)
        have HMX := Lib.hid hm7
        have HL7 := Lib.hid hl7
        clear hg7 hm7 hl7 HS4 HM4 p0 p1 p2 HWC HZ8
        obtain ⟨rr, cz⟩ := Z
        simp only [Res.val] at *
        have r0 := HSX.out.hR.cell 0
        have r1 := HSX.out.hR.cell 1
        have r2 := HSX.out.hR.cell 2
        have r3 := HSX.out.hR.cell 3
        simp [rCells] at r0 r1 r2 r3
        have f0 := HSX.out.hR.frozen 0
        have f1 := HSX.out.hR.frozen 1
        have f2 := HSX.out.hR.frozen 2
        have f3 := HSX.out.hR.frozen 3
        go_wp2_with fail
        obtain ⟨q1, q2⟩ := HSX.out.fin HMX.out (z := (rr, cz)) rfl HL7.out
        change bodyPost _ _ _ _ _ (fill4 w7 (P + 1) rr)
        exact bodyPost_ret (take_results rfl q1) rfl q2
end Go.Proofs.YtijpfcjlochahaaGreatDoor
