/- Pages without choices and tries are walked at every depth; the walks of eval's Right and Run. -/
import Derived.Test.YtijpfcjlochahaaGreatDoorEvR
import Derived.Test.YtijpfcjlochahaaGreatDoorVSub
namespace Go.Proofs.YtijpfcjlochahaaGreatDoor
open Go Go.RowKit
set_option linter.unusedVariables false
set_option linter.unusedSimpArgs false

theorem rows_flat (v : EnvD) (D : Dep) (rv : Value) (M : Nat) (hf : D.full = false) (hreps : RepsOk v D) : ∀ d, d ≤ 4 → ∀ l, RowOk v D rv M d l := by
  intro d
  induction d with
  | zero =>
    intro hd l base el pv lv sub n c W hbp hel hl hm hpv hlv hn
    have htk : TkOk v D rv M base el (4 - ((0 : Nat) : Int)) (takeD D 0 base el) := fun pv s c W hs hm hpv => take_calls v D rv M 0 hd (fun h => absurd rfl h) hreps base el pv s c W hbp hel hs hm hpv
    have key : ∀ (k : Nat) (l : List Elem), sizeF l ≤ k → okL v D l → RowAt v D rv M base el (4 - ((0 : Nat) : Int)) (takeD D 0 base el) l := by
      intro k
      induction k using Nat.strongRecOn with
      | ind k ih =>
        intro l hk hl
        refine row_step v D rv M base el _ _ l fun j hj => ?_
        have hx := okL_at hl j hj
        have hx2 := (okE_eq _).1 hx
        refine eone_calls v D rv M base el _ _ htk l[j] hx (fun _ => ih (sizeF l[j].kids) ?_ _ (Nat.le_refl _) hx2.2.2.2.2.2.2) (fun h => ?_) (fun h => ?_)
        · have h1 := sizeE_mem hj
          have h2 := sizeE_eq l[j]
          omega
        · have := (hx2.2.2.2.2.2.1 h).1
          rw [hf] at this
          cases this
        · have := (hx2.2.2.2.2.1 h).1
          rw [hf] at this
          cases this
    exact key _ l (Nat.le_refl _) hl pv lv sub n c W hm hpv hlv hn
  | succ d ihd =>
    intro hd l base el pv lv sub n c W hbp hel hl hm hpv hlv hn
    have htk : TkOk v D rv M base el (4 - ((d + 1 : Nat) : Int)) (takeD D (d + 1) base el) := fun pv s c W hs hm hpv => take_calls v D rv M (d + 1) hd (fun _ l => ihd (by omega) l) hreps base el pv s c W hbp hel hs hm hpv
    have key : ∀ (k : Nat) (l : List Elem), sizeF l ≤ k → okL v D l → RowAt v D rv M base el (4 - ((d + 1 : Nat) : Int)) (takeD D (d + 1) base el) l := by
      intro k
      induction k using Nat.strongRecOn with
      | ind k ih =>
        intro l hk hl
        refine row_step v D rv M base el _ _ l fun j hj => ?_
        have hx := okL_at hl j hj
        have hx2 := (okE_eq _).1 hx
        refine eone_calls v D rv M base el _ _ htk l[j] hx (fun _ => ih (sizeF l[j].kids) ?_ _ (Nat.le_refl _) hx2.2.2.2.2.2.2) (fun h => ?_) (fun h => ?_)
        · have h1 := sizeE_mem hj
          have h2 := sizeE_eq l[j]
          omega
        · have := (hx2.2.2.2.2.2.1 h).1
          rw [hf] at this
          cases this
        · have := (hx2.2.2.2.2.1 h).1
          rw [hf] at this
          cases this
    exact key _ l (Nat.le_refl _) hl pv lv sub n c W hm hpv hlv hn
/-- A page as an argument. -/
def pageV (v : EnvD) (base body : List UInt8) (esi : Bool) : Value := .agg #[.string (bs v.e0), .string (bs v.e1), .string (bs v.e2), .string (bs v.e3), .string (bs v.e4), .string (bs v.e5), .string (bs base), .string (bs body), .bool esi]
def pageRight (base body : List UInt8) : Bool := decide ((parseF base).2 = 0) && ((parseF base).1.abs && decide (body.length ≤ 20000))
def pgCells (v : EnvD) (base body : List UInt8) (esi : Bool) : Array Value := #[.string (bs v.e0), .string (bs v.e1), .string (bs v.e2), .string (bs v.e3), .string (bs v.e4), .string (bs v.e5), .string (bs base), .string (bs body), .bool esi]
set_option maxRecDepth 20000 in
set_option maxHeartbeats 2000000 in
theorem eright_calls (v : EnvD) (base body : List UInt8) (esi : Bool) (hb : ParseOk base) (w : World) (hg : Glob w) :
    Calls Tryz.prog 31 #[pageV v base body esi] w fun e w' => e = .returned (.bool (pageRight base body)) ∧ Below w.heap.size w w' := by
  have HP := Lib.hid hb
  have HR : Hid (pageRight base body = (decide ((parseF base).2 = 0) && ((parseF base).1.abs && decide (body.length ≤ 20000)))) := rfl
  unfold ParseOk at HP
  generalize pageRight base body = R at *
  generalize parseF base = PB at *
  obtain ⟨u, eu⟩ := PB
  simp only at HR HP
  have hal : Below w.heap.size w (w.alloc (.cells (pgCells v base body esi) 25)) := (Below.refl _ _).alloc (Nat.le_refl _) _
  have HX := Lib.hid (Blk.new w 25 (pgCells v base body esi))
  have HB := Lib.hid hal
  have HG := Lib.hid (hg.below hal)
  have hsz := size_bs body
  clear hal hg hb
  simp only [pageV]
  go_enter Tryz.func31, Tryz.ntmps31
  go_wp2_with fail
  refine (HP.out _ HG.out).mono ?_
  rintro e w1 ⟨rfl, hb1⟩
  have hX1 := HX.out.below hb1 HX.out.lt
  have hB1 := HB.out.trans (hb1.mono HB.out.size)
  have hal := ((Below.refl w1.heap.size w1).alloc (Nat.le_refl _) (.cells (uCells u) 94))
  have HU := Lib.hid (Blk.new w1 94 (uCells u))
  have HX2 := Lib.hid (hX1.below hal hX1.lt)
  have HB2 := Lib.hid (hB1.trans (hal.mono hB1.size))
  clear hb1 HX HB HG hX1 hB1 hal
  simp only [UriD.val]
  go_upto_region 2 with (fail)
  change Code.wp _ _ _ _ (w1.alloc (.cells (uCells u) 94))
  generalize w1.alloc (.cells (uCells u) 94) = w2 at *
  generalize w1.heap.size = Y at *
  have y0 := HU.out.cell 0
  have x7 := HX2.out.cell 7
  simp [uCells, pgCells] at y0 x7
  by_cases he : eu = 0
  · have be : (eu == 0) = true := by rw [he]; rfl
    cases hab : u.abs with
    | true =>
      rw [hab] at y0
      have HR2 : Hid (R = decide (body.length ≤ 20000)) := by rw [Hid, HR.out, hab, decide_eq_true he]; rfl
      clear he hab HR
      by_cases hl : body.length ≤ 20000
      · have hli : (body.length : Int) ≤ 20000 := by omega
        have HR3 : Hid (R = true) := by rw [Hid, HR2.out, decide_eq_true hl]
        clear hl HR2
        go_wp2_with fail
        go_ret
        exact ⟨ret_bool HR3.out.symm, HB2.out⟩
      · have hli : ¬ (body.length : Int) ≤ 20000 := by omega
        have HR3 : Hid (R = false) := by rw [Hid, HR2.out, decide_eq_false hl]
        clear hl HR2
        go_wp2_with fail
        go_ret
        exact ⟨ret_bool HR3.out.symm, HB2.out⟩
    | false =>
      rw [hab] at y0
      have HR2 : Hid (R = false) := by rw [Hid, HR.out, hab]; simp
      clear he hab HR
      go_wp2_with fail
      go_ret
      exact ⟨ret_bool HR2.out.symm, HB2.out⟩
  · have be : (eu == 0) = false := by rw [beq_eq_false_iff_ne]; exact he
    have HR2 : Hid (R = false) := by rw [Hid, HR.out, decide_eq_false he]; rfl
    clear he HR
    go_wp2_with fail
    go_ret
    exact ⟨ret_bool HR2.out.symm, HB2.out⟩
theorem run_results {w : World} {X : Nat} {tmps : Array Value} {r : Res} {b : Value} (h4 : tmps[4]?.getD undef = .pointer (some ⟨X, 0, none⟩)) (h5 : tmps[5]?.getD undef = b) (B0 : Blk w X 31 (rCells r)) :
    (results Tryz.f10 tmps).run Tryz.prog w = .ok (.tuple #[r.val, b]) w := by
  have a0 := B0.cell 0
  have a1 := B0.cell 1
  have a2 := B0.cell 2
  have a3 := B0.cell 3
  simp [rCells] at a0 a1 a2 a3
  simp [results, Tryz.results10, go_sem, h4, h5, a0, a1, a2, a3, Res.val]
def erunF (D : Dep) (base body : List UInt8) (esi : Bool) : Res × Int :=
  if pageRight base body then (if esi then (wholeF D base body, 0) else (doneR body, 0)) else (res0, 1)
theorem tab_lt {w : World} {name : String} {k : IntKind} {zs : List Int} (h : Lib.TabIs Tryz.prog w name k zs) {g : Nat} (hg : Tryz.prog.globalNamed name = some g) : g < w.heap.size := by
  unfold Lib.TabIs World.var? at h
  rw [hg] at h
  rcases Nat.lt_or_ge g w.heap.size with h1 | h1
  · exact h1
  · simp [Array.getElem?_eq_none h1] at h
theorem MK.new {v : EnvD} {rv : Value} {reps : List Rep} {w : World} {F : Nat → Prop} (hr : GR w F (.row 5 (reps.map Rep.gv)) [rv]) (hg : Glob w) : MK v rv reps w.heap.size (w.alloc (.cells (mCells v rv 0) 69)) 0 := by
  have hal : Below w.heap.size w (w.alloc (.cells (mCells v rv 0) 69)) := (Below.refl _ _).alloc (Nat.le_refl _) _
  refine ⟨Blk.new w 69 (mCells v rv 0), ((GR.lt_heap _ _ hr).weaken (fun k hk => hk.2)).below hal, hg.below hal, ⟨?_, fun g hgn => tab_lt hg.2 hgn⟩, by omega⟩
  obtain ⟨m, hm⟩ := hg.1
  exact World.block_lt_of_cell? w _ hm
set_option maxRecDepth 20000 in
set_option maxHeartbeats 4000000 in
theorem erun_calls (v : EnvD) (D : Dep) (base body : List UInt8) (esi : Bool) (rv : Value) (F : Nat → Prop) (hb : ParseOk base) (hf : D.full = false) (hreps : RepsOk v D) (hok : (readF body).2 = 0 → okL v D (readF body).1) (hbl : body.length ≤ 90000)
    (w : World) (hg : Glob w) (hrv : GR w F (.row 5 (D.replies.map Rep.gv)) [rv]) :
    Calls Tryz.prog 10 #[pageV v base body esi, rv] w fun e w' => e = .returned (.tuple #[(erunF D base body esi).1.val, .int .i64 (erunF D base body esi).2]) ∧ Below w.heap.size w w' := by
  obtain ⟨Ar, cr, rfl, -⟩ := reps_open hrv
  have HZ : Hid (erunF D base body esi = if pageRight base body then (if esi then (wholeF D base body, 0) else (doneR body, 0)) else (res0, 1)) := rfl
  have HER := Lib.hid (fun W hg => eright_calls v base body esi hb W hg)
  have HWH := Lib.hid (fun M c w rv hm => whole_calls v D rv M 4 base body (fun _ => rows_flat v D rv M hf hreps 4 (Nat.le_refl _) _) c w hb hok hm (Nat.le_refl _) hbl)
  have hal0 : Below w.heap.size w (w.alloc (.cells (pgCells v base body esi) 25)) := (Below.refl _ _).alloc (Nat.le_refl _) _
  have hal := hal0.alloc hal0.size (.cells (rCells res0) 31)
  have h1 := Blk.new w 25 (pgCells v base body esi)
  have h2 := Blk.new (w.alloc (.cells (pgCells v base body esi) 25)) 31 (rCells res0)
  rw [size_alloc] at h2
  have HX := Lib.hid (h1.alloc (.cells (rCells res0) 31))
  have HR := Lib.hid h2
  have HB := Lib.hid hal
  have HG := Lib.hid (hg.below hal)
  have HRV := Lib.hid (hrv.below hal)
  clear hal0 hal h1 h2 hg hrv hok hreps hb
  generalize erunF D base body esi = Z at *
  simp only [pageV] at *
  go_enter Tryz.func10, Tryz.ntmps10
  go_upto_region 1 with (fail)
  change Code.wp _ _ _ _ ((w.alloc (.cells (pgCells v base body esi) 25)).alloc (.cells (rCells res0) 31))
  generalize (w.alloc (.cells (pgCells v base body esi) 25)).alloc (.cells (rCells res0) 31) = w0 at *
  generalize hPP : w.heap.size = P at *
  have HPP := Lib.hid hPP
  clear hPP
  have HR : Hid (Blk w0 (P + 1) 31 (rCells res0)) := HR
  have x0 := HX.out.cell 0
  have x1 := HX.out.cell 1
  have x2 := HX.out.cell 2
  have x3 := HX.out.cell 3
  have x4 := HX.out.cell 4
  have x5 := HX.out.cell 5
  have x6 := HX.out.cell 6
  have x7 := HX.out.cell 7
  have x8 := HX.out.cell 8
  simp [pgCells] at x0 x1 x2 x3 x4 x5 x6 x7 x8
  go_wp2_with fail
  refine (HER.out w0 HG.out).mono ?_
  rintro e w1 ⟨rfl, hb1⟩
  have hx := HX.out.below hb1 HX.out.lt
  have hr := HR.out.below hb1 HR.out.lt
  have hbb := HB.out.trans (hb1.mono (by have := HB.out.size; rw [HPP.out] at this; exact this))
  have hgg := HG.out.below hb1
  have hrv := HRV.out.below hb1
  clear x0 x1 x2 x3 x4 x5 x6 x7 x8 HX HR HB HG HRV hb1
  have HX := Lib.hid hx
  have HR := Lib.hid hr
  have HB := Lib.hid hbb
  have HG := Lib.hid hgg
  have HRV := Lib.hid hrv
  clear hx hr hbb hgg hrv
  cases hpr : pageRight base body with
  | false =>
    have HZ2 : Hid (Z = (res0, 1)) := by rw [Hid, HZ.out, hpr]; rfl
    have r0 := HR.out.cell 0
    have r1 := HR.out.cell 1
    have r2 := HR.out.cell 2
    have r3 := HR.out.cell 3
    simp [rCells] at r0 r1 r2 r3
    have f0 := HR.out.frozen 0
    have f1 := HR.out.frozen 1
    have f2 := HR.out.frozen 2
    have f3 := HR.out.frozen 3
    go_wp2_with fail
    have q1 := fill4_blk HR.out res0
    have q2 := fill4_below HB.out (show P ≤ P + 1 by omega) res0
    change bodyPost _ _ _ _ _ (fill4 w1 (P + 1) res0)
    refine bodyPost_ret (run_results rfl rfl q1) rfl ⟨?_, by rw [HPP.out]; exact q2⟩
    rw [HZ2.out]
    rfl
  | true =>
    have x0 := HX.out.cell 0
    have x1 := HX.out.cell 1
    have x2 := HX.out.cell 2
    have x3 := HX.out.cell 3
    have x4 := HX.out.cell 4
    have x5 := HX.out.cell 5
    have x6 := HX.out.cell 6
    have x7 := HX.out.cell 7
    have x8 := HX.out.cell 8
    simp [pgCells] at x0 x1 x2 x3 x4 x5 x6 x7 x8
    cases esi with
    | false =>
      have HZ2 : Hid (Z = (doneR body, 0)) := by rw [Hid, HZ.out, hpr]; rfl
      have r0 := HR.out.cell 0
      have r1 := HR.out.cell 1
      have r2 := HR.out.cell 2
      have r3 := HR.out.cell 3
      simp [rCells] at r0 r1 r2 r3
      have f0 := HR.out.frozen 0
      have f1 := HR.out.frozen 1
      have f2 := HR.out.frozen 2
      have f3 := HR.out.frozen 3
      go_wp2_with fail
      have q1 := fill4_blk HR.out (doneR body)
      have q2 := fill4_below HB.out (show P ≤ P + 1 by omega) (doneR body)
      change bodyPost _ _ _ _ _ (fill4 w1 (P + 1) (doneR body))
      refine bodyPost_ret (run_results rfl rfl q1) rfl ⟨?_, by rw [HPP.out]; exact q2⟩
      rw [HZ2.out]
      rfl
    | true =>
      have HZ2 : Hid (Z = (wholeF D base body, 0)) := by rw [Hid, HZ.out, hpr]; rfl
      go_upto_region 6 with (fail)
      have hmk := MK.new (v := v) HRV.out HG.out
      have hal : Below w1.heap.size w1 (w1.alloc (.cells (mCells v (.slice Ar D.replies.length cr) 0) 69)) := (Below.refl _ _).alloc (Nat.le_refl _) _
      have hx := HX.out.below hal HX.out.lt
      have hr := HR.out.below hal HR.out.lt
      have hbb := HB.out.trans (hal.mono (by have := HB.out.size; rw [HPP.out] at this; exact this))
      have hMP : P + 1 < w1.heap.size := HR.out.lt
      change Code.wp _ _ _ _ (w1.alloc (.cells (mCells v (.slice Ar D.replies.length cr) 0) 69))
      generalize w1.alloc (.cells (mCells v (.slice Ar D.replies.length cr) 0) 69) = w2 at *
      generalize w1.heap.size = M at *
      clear x0 x1 x2 x3 x4 x5 x6 x7 x8 HX HR HB HG HRV hal
      have HX := Lib.hid hx
      have HR := Lib.hid hr
      have HB := Lib.hid hbb
      have HM := Lib.hid hmk
      have HMP := Lib.hid hMP
      clear hx hr hbb hmk hMP
      have x0 := HX.out.cell 0
      have x1 := HX.out.cell 1
      have x2 := HX.out.cell 2
      have x3 := HX.out.cell 3
      have x4 := HX.out.cell 4
      have x5 := HX.out.cell 5
      have x6 := HX.out.cell 6
      have x7 := HX.out.cell 7
      have x8 := HX.out.cell 8
      simp [pgCells] at x0 x1 x2 x3 x4 x5 x6 x7 x8
      have HWC := Lib.hid (HWH.out M 0 w2 _ HM.out)
      rw [show (4 - ((4 : Nat) : Int)) = 0 from rfl] at HWC
      have HWF : Hid (wholeF D base body = (wholeC D 4 base body 0).1) := by
        rw [Hid]
        unfold wholeF wholeC
        split <;> rfl
      generalize wholeC D 4 base body 0 = WC at *
      clear HWH
      go_wp2_with fail
      refine HWC.out.mono ?_
      rintro e w3 ⟨rfl, hg3, hm3, -⟩
      have hr3 := HR.out.grown hg3 (by have := HMP.out; simp; omega)
      have hb3 := HB.out.trans (below_of_grown hg3 (show P ≤ w2.heap.size by have := HMP.out; have := HM.out.blk.lt; omega) (fun k hk => by injection hk with hk; have := HMP.out; omega))
      clear hg3 hm3 HR HB x0 x1 x2 x3 x4 x5 x6 x7 x8
      have HR := Lib.hid hr3
      have HB := Lib.hid hb3
      clear hr3 hb3
      obtain ⟨r, c3⟩ := WC
      simp only [Res.val]
      have r0 := HR.out.cell 0
      have r1 := HR.out.cell 1
      have r2 := HR.out.cell 2
      have r3 := HR.out.cell 3
      simp [rCells] at r0 r1 r2 r3
      have f0 := HR.out.frozen 0
      have f1 := HR.out.frozen 1
      have f2 := HR.out.frozen 2
      have f3 := HR.out.frozen 3
      go_wp2_with fail
      have q1 := fill4_blk HR.out r
      have q2 := fill4_below HB.out (show P ≤ P + 1 by omega) r
      change bodyPost _ _ _ _ _ (fill4 w3 (P + 1) r)
      refine bodyPost_ret (run_results rfl rfl q1) rfl ⟨?_, by rw [HPP.out]; exact q2⟩
      rw [HZ2.out, HWF.out]
      rfl
end Go.Proofs.YtijpfcjlochahaaGreatDoor
