/- The walk of eval's take, where the pages one deeper are walked. The walks of eval's whole and take, where the rows of pages one deeper are walked. -/
import Derived.Test.YtijpfcjlochahaaGreatDoorEvI
import Derived.Test.YtijpfcjlochahaaGreatDoorDocL
set_option linter.unusedVariables false
set_option linter.unusedSimpArgs false
namespace Go.Proofs.YtijpfcjlochahaaGreatDoor
open Go Go.RowKit
set_option linter.unusedVariables false
set_option linter.unusedSimpArgs false

/-- The variables in a text are known. -/
def SubOk (v : EnvD) (D : Dep) (s : List UInt8) : Prop := (D.sub s).length ≤ 10000000 ∧ ∀ W, Glob W → Calls Tryz.prog 144 #[v.val, .string (bs s)] W fun e W' => e = .returned (.string (bs (D.sub s))) ∧ Below W.heap.size W W'
def TakeOk (v : EnvD) (D : Dep) (s : List UInt8) : Prop := SubOk v D s ∧ ParseOk (D.sub s)
def TestOk (v : EnvD) (D : Dep) (s : List UInt8) : Prop := ∀ W, Glob W → Calls Tryz.prog 181 #[v.val, .string (bs s)] W fun e W' => e = .returned (.tuple #[.bool (D.test s).1, .int .i64 (D.test s).2]) ∧ Below W.heap.size W W'
mutual
def okE (v : EnvD) (D : Dep) : Elem → Prop
  | .mk k t s a b u l => t.length ≤ 100000 ∧ SubOk v D t ∧ (k = 2 → TakeOk v D s ∧ (a ≠ [] → TakeOk v D a)) ∧ (k = 8 → TestOk v D u) ∧ (k = 4 → D.full = true ∧ 2 ≤ l.length) ∧ (k = 7 → D.full = true ∧ ∀ x ∈ l, x.kind = 8 ∨ x.kind = 9) ∧ okL v D l
def okL (v : EnvD) (D : Dep) : List Elem → Prop
  | [] => True
  | e :: l => okE v D e ∧ okL v D l
end
theorem okE_eq {v : EnvD} {D : Dep} (e : Elem) : okE v D e ↔ e.text.length ≤ 100000 ∧ SubOk v D e.text ∧ (e.kind = 2 → TakeOk v D e.src ∧ (e.alt ≠ [] → TakeOk v D e.alt)) ∧ (e.kind = 8 → TestOk v D e.test) ∧ (e.kind = 4 → D.full = true ∧ 2 ≤ e.kids.length) ∧ (e.kind = 7 → D.full = true ∧ ∀ x ∈ e.kids, x.kind = 8 ∨ x.kind = 9) ∧ okL v D e.kids := by
  cases e
  rw [okE]
  rfl
theorem okL_at {v : EnvD} {D : Dep} : ∀ {l : List Elem} (_ : okL v D l) (i : Nat) (hi : i < l.length), okE v D l[i]
  | [], _, i, hi => absurd hi (by simp)
  | e :: l, h, 0, _ => by rw [okL] at h; exact h.1
  | e :: l, h, i + 1, hi => by rw [okL] at h; exact okL_at h.2 i (by simpa using hi)
mutual
theorem inlineE_ok {v : EnvD} {D : Dep} {nm : List UInt8} : ∀ (e : Elem) {ks : List Elem}, okE v D e → inlineE nm e = some ks → okL v D ks
  | .mk k t s a b u l, ks, h, he => by
    rw [inlineE] at he
    rw [okE] at h
    split at he
    · injection he with he
      subst he
      exact h.2.2.2.2.2.2
    · exact inlineF_ok l h.2.2.2.2.2.2 he
theorem inlineF_ok {v : EnvD} {D : Dep} {nm : List UInt8} : ∀ (l : List Elem) {ks : List Elem}, okL v D l → inlineF nm l = some ks → okL v D ks
  | [], ks, _, he => by rw [inlineF] at he; cases he
  | e :: l, ks, h, he => by
    rw [okL] at h
    rw [inlineF_cons] at he
    cases hi : inlineE nm e with
    | some x =>
      rw [hi] at he
      have he : some x = some ks := he
      injection he with he
      subst he
      exact inlineE_ok e h.1 hi
    | none =>
      rw [hi] at he
      exact inlineF_ok l h.2 he
end
/-- What is asked of replies that are pages to be put together. -/
def RepsOk (v : EnvD) (D : Dep) : Prop := ∀ r ∈ D.replies, r.esi = true → ParseOk r.url ∧ ((readF r.body).2 = 0 → okL v D (readF r.body).1)
/-- A row of a page that may have d pages within itself. -/
def RowOk (v : EnvD) (D : Dep) (rv : Value) (M : Nat) (d : Nat) (l : List Elem) : Prop := ∀ (base : List UInt8) (el : List Elem) (pv lv : Value) (sub : Bool) (n c : Nat) (W : World), ParseOk base → okL v D el → okL v D l → MK v rv D.replies M W c →
  GR W (fun k => k ≠ M) (.row 7 (el.map Elem.gv)) [pv] → GR W (fun k => k ≠ M) (.row 7 (l.map Elem.gv)) [lv] → n ≤ 20000 →
  Calls Tryz.prog 53 #[.pointer (some ⟨M, 0, none⟩), .agg #[.string (bs base), pv, .int .i64 (4 - (d : Int))], lv, .bool sub, .int .i64 (n : Int)] W (EvPost v rv D.replies M W (rowF D (takeD D d base el) sub n [] l c))
theorem less_len (r : Res) (h : r.out.length ≤ 100000000) : (lessR r).out.length ≤ 100000000 := by
  unfold lessR
  split
  · simp
  · exact h
def resText (f : String) : Prop := True
theorem within_results {w : World} {X : Nat} {tmps : Array Value} {r : Res} (h4 : tmps[6]?.getD undef = .pointer (some ⟨X, 0, none⟩)) (B0 : Blk w X 31 (rCells r)) :
    (results Tryz.f194 tmps).run Tryz.prog w = .ok r.val w := by
  have a0 := B0.cell 0
  have a1 := B0.cell 1
  have a2 := B0.cell 2
  have a3 := B0.cell 3
  simp [rCells] at a0 a1 a2 a3
  simp [results, Tryz.results194, go_sem, h4, a0, a1, a2, a3, Res.val]
/-- Memory within a method: what it was given, its result's place. -/
structure TSt (w W : World) (M P : Nat) (base : List UInt8) (pv : Value) (dep : Int) : Prop where
  hP : Blk W P 104 #[.string (bs base), pv, .int .i64 dep]
  hR : Blk W (P + 1) 31 (rCells res0)
  g : w.grownBy W (some M)
  hMw : M < w.heap.size
  eqP : w.heap.size = P
section
variable {w W W' : World} {M P : Nat} {base : List UInt8} {pv : Value} {dep : Int}
theorem TSt.below (h : TSt w W M P base pv dep) (hb : Below W.heap.size W W') : TSt w W' M P base pv dep :=
  ⟨h.hP.below hb h.hP.lt, h.hR.below hb h.hR.lt, grown_below h.g hb, h.hMw, h.eqP⟩
theorem TSt.grown (h : TSt w W M P base pv dep) (hg : W.grownBy W' (some M)) : TSt w W' M P base pv dep := by
  have h1 := h.hMw
  have h2 := h.eqP
  exact ⟨h.hP.grown hg (by simp; omega), h.hR.grown hg (by simp; omega), grown_trans h.g hg, h1, h2⟩
theorem TSt.start (w : World) (hM : M < w.heap.size) (base : List UInt8) (pv : Value) (dep : Int) :
    TSt w ((w.alloc (.cells #[.string (bs base), pv, .int .i64 dep] 104)).alloc (.cells (rCells res0) 31)) M w.heap.size base pv dep := by
  have h1 := Blk.new w 104 #[.string (bs base), pv, .int .i64 dep]
  have h2 := Blk.new (w.alloc (.cells #[.string (bs base), pv, .int .i64 dep] 104)) 31 (rCells res0)
  rw [size_alloc] at h2
  exact ⟨h1.alloc _, h2, grown_alloc (grown_alloc (grown_refl _ _) _) _, hM, rfl⟩
theorem TSt.fin {v : EnvD} {rv : Value} {reps : List Rep} {z : Res × Nat} {r : Res} {c : Nat} (h : TSt w W M P base pv dep) (hm : MK v rv reps M W c) (hz : z = (r, c)) (hl : r.out.length ≤ 100000000) :
    Blk (fill4 W (P + 1) r) (P + 1) 31 (rCells r) ∧ EvPost v rv reps M w z (.returned r.val) (fill4 W (P + 1) r) :=
  ⟨fill4_blk h.hR r, EvPost.fin h.g hm h.hMw (by have := h.eqP; omega) hz hl⟩
end
set_option maxRecDepth 20000 in
set_option maxHeartbeats 4000000 in
theorem within_calls (v : EnvD) (D : Dep) (rv : Value) (M d : Nat) (l el : List Elem) (hrow : RowOk v D rv M d l) (base : List UInt8) (pv lv : Value) (c : Nat) (w : World) (hbp : ParseOk base) (hel : okL v D el) (hl : okL v D l) (hm : MK v rv D.replies M w c) (hd : d ≤ 4)
    (hpv : GR w (fun k => k ≠ M) (.row 7 (el.map Elem.gv)) [pv]) (hlv : GR w (fun k => k ≠ M) (.row 7 (l.map Elem.gv)) [lv]) :
    Calls Tryz.prog 194 #[.pointer (some ⟨M, 0, none⟩), .agg #[.string (bs base), pv, .int .i64 (4 - (d : Int))], lv] w
      (EvPost v rv D.replies M w (lessR (rowF D (takeD D d base el) false 0 [] l c).1, (rowF D (takeD D d base el) false 0 [] l c).2)) := by
  obtain ⟨Ap, cp, rfl, -⟩ := elems_open hpv
  obtain ⟨Al, cl, rfl, -⟩ := elems_open hlv
  have HS := Lib.hid (TSt.start w hm.blk.lt base (.slice Ap el.length cp) (4 - (d : Int)))
  have hal : Below w.heap.size w ((w.alloc (.cells #[.string (bs base), .slice Ap el.length cp, .int .i64 (4 - (d : Int))] 104)).alloc (.cells (rCells res0) 31)) := ((Below.refl _ _).alloc (Nat.le_refl _) _).alloc (by rw [size_alloc]; omega) _
  have HMK := Lib.hid (hm.below hal)
  have HRC := Lib.hid (hrow base el _ _ false 0 c _ hbp hel hl HMK.out (hpv.below hal) (hlv.below hal) (Nat.zero_le _))
  generalize rowF D (takeD D d base el) false 0 [] l c = Z at *
  have hd4 : ¬ 4 < (4 - (d : Int)) := by omega
  clear hrow hbp hel hl hm hpv hlv hal
  go_enter Tryz.func194, Tryz.ntmps194
  go_wp2_with fail
  refine HRC.out.mono ?_
  rintro e w1 ⟨rfl, hg1, hm1, hl1⟩
  have HS1 := Lib.hid (HS.out.grown hg1)
  have HM1 := Lib.hid hm1
  have HL1 := Lib.hid hl1
  clear hg1 hm1 hl1 HS HMK HRC
  generalize w.heap.size = P at *
  go_wp2_with fail
  refine (less_calls Z.1 w1).mono ?_
  rintro e w2 ⟨rfl, hb2⟩
  have HS2 := Lib.hid (HS1.out.below hb2)
  have HM2 := Lib.hid (HM1.out.below hb2)
  have HLL := Lib.hid (less_len Z.1 HL1.out)
  clear hb2 HS1 HM1
  simp only [Res.val]
  generalize lessR Z.1 = r at *
  have r0 := HS2.out.hR.cell 0
  have r1 := HS2.out.hR.cell 1
  have r2 := HS2.out.hR.cell 2
  have r3 := HS2.out.hR.cell 3
  simp [rCells] at r0 r1 r2 r3
  have f0 := HS2.out.hR.frozen 0
  have f1 := HS2.out.hR.frozen 1
  have f2 := HS2.out.hR.frozen 2
  have f3 := HS2.out.hR.frozen 3
  go_wp2_with fail
  obtain ⟨q1, q2⟩ := HS2.out.fin HM2.out (z := (r, Z.2)) rfl HLL.out
  change bodyPost _ _ _ _ _ (fill4 w2 (P + 1) r)
  exact bodyPost_ret (within_results rfl q1) rfl q2
end Go.Proofs.YtijpfcjlochahaaGreatDoor
namespace Go.Proofs.YtijpfcjlochahaaGreatDoor
open Go Go.RowKit
set_option linter.unusedVariables false
set_option linter.unusedSimpArgs false

theorem whole_results {w : World} {X : Nat} {tmps : Array Value} {r : Res} (h4 : tmps[8]?.getD undef = .pointer (some ⟨X, 0, none⟩)) (B0 : Blk w X 31 (rCells r)) :
    (results Tryz.f32 tmps).run Tryz.prog w = .ok r.val w := by
  have a0 := B0.cell 0
  have a1 := B0.cell 1
  have a2 := B0.cell 2
  have a3 := B0.cell 3
  simp [rCells] at a0 a1 a2 a3
  simp [results, Tryz.results32, go_sem, h4, a0, a1, a2, a3, Res.val]
theorem take_results {w : World} {X : Nat} {tmps : Array Value} {r : Res} (h4 : tmps[6]?.getD undef = .pointer (some ⟨X, 0, none⟩)) (B0 : Blk w X 31 (rCells r)) :
    (results Tryz.f178 tmps).run Tryz.prog w = .ok r.val w := by
  have a0 := B0.cell 0
  have a1 := B0.cell 1
  have a2 := B0.cell 2
  have a3 := B0.cell 3
  simp [rCells] at a0 a1 a2 a3
  simp [results, Tryz.results178, go_sem, h4, a0, a1, a2, a3, Res.val]
def wholeC (D : Dep) (d : Nat) (base body : List UInt8) (c : Nat) : Res × Nat :=
  if (readF body).2 ≠ 0 then (failR [] (readF body).2, c) else rowF D (takeD D d base (readF body).1) false 0 [] (readF body).1 c
/-- Memory within 'whole': its result's place. -/
structure WSt (w W : World) (M R : Nat) : Prop where
  hR : Blk W R 31 (rCells res0)
  g : w.grownBy W (some M)
  hMw : M < w.heap.size
  eqR : w.heap.size = R
section
variable {w W W' : World} {M R : Nat}
theorem WSt.below (h : WSt w W M R) (hb : Below W.heap.size W W') : WSt w W' M R := ⟨h.hR.below hb h.hR.lt, grown_below h.g hb, h.hMw, h.eqR⟩
theorem WSt.grown (h : WSt w W M R) (hg : W.grownBy W' (some M)) : WSt w W' M R := by
  have h1 := h.hMw
  have h2 := h.eqR
  exact ⟨h.hR.grown hg (by simp; omega), grown_trans h.g hg, h1, h2⟩
theorem WSt.start (w : World) (hM : M < w.heap.size) : WSt w (w.alloc (.cells (rCells res0) 31)) M w.heap.size :=
  ⟨Blk.new w 31 (rCells res0), grown_alloc (grown_refl _ _) _, hM, rfl⟩
theorem WSt.fin {v : EnvD} {rv : Value} {reps : List Rep} {z : Res × Nat} {r : Res} {c : Nat} (h : WSt w W M R) (hm : MK v rv reps M W c) (hz : z = (r, c)) (hl : r.out.length ≤ 100000000) :
    Blk (fill4 W R r) R 31 (rCells r) ∧ EvPost v rv reps M w z (.returned r.val) (fill4 W R r) :=
  ⟨fill4_blk h.hR r, EvPost.fin h.g hm h.hMw (by have := h.eqR; omega) hz hl⟩
end
set_option maxRecDepth 20000 in
set_option maxHeartbeats 4000000 in
theorem whole_calls (v : EnvD) (D : Dep) (rv : Value) (M d : Nat) (base body : List UInt8) (hrow : (readF body).2 = 0 → RowOk v D rv M d (readF body).1) (c : Nat) (w : World) (hbp : ParseOk base) (hl : (readF body).2 = 0 → okL v D (readF body).1) (hm : MK v rv D.replies M w c) (hd : d ≤ 4) (hbl : body.length ≤ 90000) :
    Calls Tryz.prog 32 #[.pointer (some ⟨M, 0, none⟩), .string (bs base), .string (bs body), .int .i64 (4 - (d : Int))] w (EvPost v rv D.replies M w (wholeC D d base body c)) := by
  have HS := Lib.hid (WSt.start w hm.blk.lt)
  have hal : Below w.heap.size w (w.alloc (.cells (rCells res0) 31)) := ((Below.refl _ _).alloc (Nat.le_refl _) _)
  have HMK := Lib.hid (hm.below hal)
  have HRD := Lib.hid (read_calls (bs body) (w.alloc (.cells (rCells res0) 31)) (by rw [size_bs]; exact hbl))
  rw [L_bs] at HRD
  have HW : Hid (wholeC D d base body c = if (readF body).2 ≠ 0 then (failR [] (readF body).2, c) else rowF D (takeD D d base (readF body).1) false 0 [] (readF body).1 c) := rfl
  have HRC := Lib.hid (fun h0 pv W (hm : MK v rv D.replies M W c) hp => hrow h0 base (readF body).1 pv pv false 0 c W hbp (hl h0) (hl h0) hm hp hp (Nat.zero_le _))
  generalize wholeC D d base body c = Z at *
  generalize readF body = RF at *
  obtain ⟨l, err⟩ := RF
  have hMlt := hm.blk.lt
  have HML : Hid (M < (w.alloc (.cells (rCells res0) 31)).heap.size) := by rw [Hid, size_alloc]; omega
  simp only at HRD HW HRC
  unfold BuildPost at HRD
  simp only at HRD
  have hd4 : ¬ 4 < (4 - (d : Int)) := by omega
  clear hrow hbp hl hm hal hMlt
  go_enter Tryz.func32, Tryz.ntmps32
  go_wp2_with fail
  refine HRD.out.mono ?_
  rintro e w1 ⟨pv, rfl, hgr, hb1⟩
  obtain ⟨A, cc, rfl, -⟩ := elems_open hgr
  have HS1 := Lib.hid (HS.out.below hb1)
  have HM1 := Lib.hid (HMK.out.below hb1)
  have HGR := Lib.hid (hgr.weaken (F' := fun k => k ≠ M) (fun k hk => by have hk : _ ≤ k := hk; have := HML.out; omega))
  clear hgr hb1 HS HMK HRD HML
  generalize w.heap.size = R at *
  by_cases he : err = 0
  · have be : (err != 0) = false := by rw [he]; rfl
    have HZ : Hid (Z = rowF D (takeD D d base l) false 0 [] l c) := by rw [Hid, HW.out, if_neg (by simpa using he)]
    have HRR := Lib.hid (HRC.out he _ w1 HM1.out HGR.out)
    clear he HW HRC
    rw [← HZ.out] at HRR
    go_wp2_with fail
    refine HRR.out.mono ?_
    rintro e w2 ⟨rfl, hg2, hm2, hl2⟩
    have HSX := Lib.hid (HS1.out.grown hg2)
    have HM2 := Lib.hid hm2
    have HL2 := Lib.hid hl2
    clear hg2 hm2 hl2 HS1 HM1 HRR
    obtain ⟨r, c2⟩ := Z
    simp only [Res.val] at *
    have r0 := HSX.out.hR.cell 0
    have r1 := HSX.out.hR.cell 1
    have r2 := HSX.out.hR.cell 2
    have r3 := HSX.out.hR.cell 3
    simp [rCells] at r0 r1 r2 r3
    have f0 := HSX.out.hR.frozen 0
    have f1 := HSX.out.hR.frozen 1
    have f2 := HSX.out.hR.frozen 2
    have f3 := HSX.out.hR.frozen 3
    go_wp2_with fail
    obtain ⟨q1, q2⟩ := HSX.out.fin HM2.out (z := (r, c2)) rfl HL2.out
    change bodyPost _ _ _ _ _ (fill4 w2 R r)
    exact bodyPost_ret (whole_results rfl q1) rfl q2
  · have be : (err != 0) = true := by rw [bne_iff_ne]; exact he
    have HZ : Hid (Z = (failR [] err, c)) := by rw [Hid, HW.out, if_pos he]
    clear he HW HRC
    go_wp2_with fail
    refine (fail_calls19 [] err w1).mono ?_
    rintro e w2 ⟨rfl, hb2⟩
    have HSX := Lib.hid (HS1.out.below hb2)
    have HM2 := Lib.hid (HM1.out.below hb2)
    clear hb2 HS1 HM1
    have r0 := HSX.out.hR.cell 0
    have r1 := HSX.out.hR.cell 1
    have r2 := HSX.out.hR.cell 2
    have r3 := HSX.out.hR.cell 3
    simp [rCells] at r0 r1 r2 r3
    have f0 := HSX.out.hR.frozen 0
    have f1 := HSX.out.hR.frozen 1
    have f2 := HSX.out.hR.frozen 2
    have f3 := HSX.out.hR.frozen 3
    simp only [Res.val, failR]
    go_wp2_with fail
    obtain ⟨q1, q2⟩ := HSX.out.fin HM2.out (z := Z) HZ.out (by simp [failR])
    change bodyPost _ _ _ _ _ (fill4 w2 R (failR [] err))
    exact bodyPost_ret (whole_results rfl q1) rfl q2
set_option maxRecDepth 20000 in
set_option maxHeartbeats 2000000 in
theorem whole_deep (v : EnvD) (rv : Value) (reps : List Rep) (M : Nat) (base body : List UInt8) (c : Nat) (w : World) (hm : MK v rv reps M w c) :
    Calls Tryz.prog 32 #[.pointer (some ⟨M, 0, none⟩), .string (bs base), .string (bs body), .int .i64 5] w (EvPost v rv reps M w (failR [] 5, c)) := by
  have HS := Lib.hid (WSt.start w hm.blk.lt)
  have hal : Below w.heap.size w (w.alloc (.cells (rCells res0) 31)) := ((Below.refl _ _).alloc (Nat.le_refl _) _)
  have HMK := Lib.hid (hm.below hal)
  clear hm hal
  go_enter Tryz.func32, Tryz.ntmps32
  go_wp2_with fail
  refine (fail_calls19 [] 5 _).mono ?_
  rintro e w2 ⟨rfl, hb2⟩
  have HSX := Lib.hid (HS.out.below hb2)
  have HM2 := Lib.hid (HMK.out.below hb2)
  clear hb2 HS HMK
  generalize w.heap.size = R at *
  have r0 := HSX.out.hR.cell 0
  have r1 := HSX.out.hR.cell 1
  have r2 := HSX.out.hR.cell 2
  have r3 := HSX.out.hR.cell 3
  simp [rCells] at r0 r1 r2 r3
  have f0 := HSX.out.hR.frozen 0
  have f1 := HSX.out.hR.frozen 1
  have f2 := HSX.out.hR.frozen 2
  have f3 := HSX.out.hR.frozen 3
  simp only [Res.val, failR]
  go_wp2_with fail
  obtain ⟨q1, q2⟩ := HSX.out.fin HM2.out (z := (failR [] 5, c)) rfl (by simp [failR])
  change bodyPost _ _ _ _ _ (fill4 w2 R (failR [] 5))
  exact bodyPost_ret (whole_results rfl q1) rfl q2
end Go.Proofs.YtijpfcjlochahaaGreatDoor
