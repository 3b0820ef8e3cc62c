/- The walk of begin. -/
import Derived.Test.YtijpfcjlochahaaGreatDoorDocI
import Derived.Test.YtijpfcjlochahaaGreatDoorElem
import Derived.Test.YtijpfcjlochahaaGreatDoorDocN
set_option linter.unusedVariables false
set_option linter.unusedSimpArgs false
namespace Go.Proofs.YtijpfcjlochahaaGreatDoor
open Go Go.RowKit
set_option linter.unusedVariables false
set_option linter.unusedSimpArgs false

theorem beginF_1 {u : Level} {r : List Level} {t : Token} {q : Rule} (h : ruleF t.text = some q) (ha : ¬ q.alone = decide (t.kind = 3)) : beginF (u :: r) t = (u :: r, 40) := by
  unfold beginF; simp only [h]; rw [if_pos ha]
theorem beginF_2 {u : Level} {r : List Level} {t : Token} {q : Rule} (h : ruleF t.text = some q) (ha : q.alone = decide (t.kind = 3)) (he : attrsF q.kind (elem0 q.kind) [] t.attrs = none) : beginF (u :: r) t = (u :: r, 41) := by
  unfold beginF; simp only [h]; rw [if_neg (fun e => e ha), he]
theorem beginF_3 {u : Level} {r : List Level} {t : Token} {q : Rule} {e : Elem} (h : ruleF t.text = some q) (ha : q.alone = decide (t.kind = 3)) (he : attrsF q.kind (elem0 q.kind) [] t.attrs = some e) (hn : needsF q.kind e = false) : beginF (u :: r) t = (u :: r, 41) := by
  unfold beginF; simp only [h]; rw [if_neg (fun e => e ha), he]; simp only; rw [if_pos hn]
theorem beginF_4 {u : Level} {r : List Level} {t : Token} {q : Rule} {e : Elem} (h : ruleF t.text = some q) (ha : q.alone = decide (t.kind = 3)) (he : attrsF q.kind (elem0 q.kind) [] t.attrs = some e) (hn : needsF q.kind e = true) (hf : fitsF u.e q.kind q.inn = false) : beginF (u :: r) t = (u :: r, 42) := by
  unfold beginF; simp only [h]; rw [if_neg (fun e => e ha), he]; simp only; rw [if_neg (by simp [hn]), if_pos hf]
theorem beginF_5 {u : Level} {r : List Level} {t : Token} {q : Rule} {e : Elem} (h : ruleF t.text = some q) (ha : q.alone = decide (t.kind = 3)) (he : attrsF q.kind (elem0 q.kind) [] t.attrs = some e) (hn : needsF q.kind e = true) (hf : fitsF u.e q.kind q.inn = true) (hal : q.alone = true) : beginF (u :: r) t = (putF (u :: r) (hardF q.kind e), 0) := by
  unfold beginF; simp only [h]; rw [if_neg (fun e => e ha), he]; simp only; rw [if_neg (by simp [hn]), if_neg (by simp [hf]), if_pos hal]
theorem beginF_6 {u : Level} {r : List Level} {t : Token} {q : Rule} {e : Elem} (h : ruleF t.text = some q) (ha : q.alone = decide (t.kind = 3)) (he : attrsF q.kind (elem0 q.kind) [] t.attrs = some e) (hn : needsF q.kind e = true) (hf : fitsF u.e q.kind q.inn = true) (hal : q.alone = false) (hl : 16 < (u :: r).length) : beginF (u :: r) t = (u :: r, 5) := by
  unfold beginF; simp only [h]; rw [if_neg (fun e => e ha), he]; simp only; rw [if_neg (by simp [hn]), if_neg (by simp [hf]), if_neg (by simp [hal]), if_pos hl]
theorem beginF_7 {u : Level} {r : List Level} {t : Token} {q : Rule} {e : Elem} (h : ruleF t.text = some q) (ha : q.alone = decide (t.kind = 3)) (he : attrsF q.kind (elem0 q.kind) [] t.attrs = some e) (hn : needsF q.kind e = true) (hf : fitsF u.e q.kind q.inn = true) (hal : q.alone = false) (hl : ¬ 16 < (u :: r).length) : beginF (u :: r) t = (⟨hardF q.kind e, t.text⟩ :: u :: r, 0) := by
  unfold beginF; simp only [h]; rw [if_neg (fun e => e ha), he]; simp only; rw [if_neg (by simp [hn]), if_neg (by simp [hf]), if_neg (by simp [hal]), if_neg hl]
theorem levTy : ElemTy Tryz.prog 84 90 8 120 := by
  obtain ⟨i0, hi, hz0, hz1, hz2⟩ := info_parts (show (Tryz.prog.info? 90).map (fun i => (i.zero, i.size, i.bytes)) = some (some (.agg #[.int .i64 0, .string ⟨#[]⟩, .string ⟨#[]⟩, .string ⟨#[]⟩, .bool false, .string ⟨#[]⟩, .slice none 0 0, .string ⟨#[]⟩]), 8, 120) by kernel_rfl)
  exact ⟨i0, _, Tryz.underlying84, hi, hz0, hz1, hz2, rfl, by omega⟩
theorem hard_kids {k : Int} {l : List Pair} {e : Elem} (h : attrsF k (elem0 k) [] l = some e) : (hardF k e).kids = [] := by
  unfold hardF
  rw [Elem.kids_setSoft, (attrsF_kind h).2]
  rfl
/-- A new element is open. -/
theorem push_end {w wf w4 w5 : World} {base B sb cap g capk : Nat} {r : List Level} {u x : Level} {kvs : List Value} {own : Nat → Option Nat}
    (hbase : base ≤ w.heap.size) (hB : base ≤ B) (hW : Below w.heap.size w wf) (h : Bld wf base B (.slice (some ⟨sb, 0, none⟩) (r.length + 1) cap) (r.reverse ++ [u]) kvs own) (hx : x.e.kids = [])
    (hb : Below wf.heap.size wf w4) (hrow : w5.ownsRow base 90 8 (.slice (some ⟨g, 0, none⟩) (r.length + 1 + 1) capk) (r.length + 1 + 1) (stkCells (r.reverse ++ [u]) kvs ++ levCells x (.slice none 0 0)))
    (hgr : w4.grownBy w5 (some sb)) (hor : some sb = some g ∨ g = w4.heap.size) : StepPost base B (.slice (some ⟨sb, 0, none⟩) (r.length + 1) cap) own (x :: u :: r, 0) w (.returned (.int .i64 0)) (w5.setCell ⟨B, 0, none⟩ (.slice (some ⟨g, 0, none⟩) (r.length + 1 + 1) capk)) := by
  have hlen : (r.reverse ++ [u]).length = r.length + 1 := by simp
  have hstk4 := h.stk.below hb
  have hs := hb.size
  have hBl := h.blk.lt
  have hsb : sb ≠ B := fun e => h.ne (by rw [e]; rfl)
  have hsbl := (h.stk.row.lt sb rfl)
  have hgB : g ≠ B := by
    rcases hor with e | e
    · injection e with e; subst e; exact hsb
    · omega
  have hp := Stk.push (x := x) hstk4 hx hgr (by rw [hlen]; exact hrow) hor
  rw [hlen] at hp
  have hg5 : w5.grownBy (w5.setCell ⟨B, 0, none⟩ (.slice (some ⟨g, 0, none⟩) (r.length + 1 + 1) capk)) (some B) := grown_setCell (p := ⟨B, 0, none⟩) (grown_refl _ _) (.inl rfl) _
  have hp2 := hp.kept hg5 (fun k hk => by injection hk with hk; subst hk; exact ⟨h.free, fun e => hgB (Option.some.inj e)⟩)
  have hblk := ((h.blk.below hb hBl).grown hgr (fun e => hsb (Option.some.inj e).symm)).set_ 0 (.slice (some ⟨g, 0, none⟩) (r.length + 1 + 1) capk)
  refine ⟨rfl, ⟨_, kvs ++ [.slice none 0 0], own, ⟨hblk, ?_, h.free, fun e => hgB (Option.some.inj e)⟩, ?_⟩, ?_⟩
  · have e : (x :: u :: r, (0 : Int)).1.reverse = r.reverse ++ [u] ++ [x] := by simp
    rw [e]
    exact hp2
  · intro k hk hm _
    obtain ⟨m1, m2, m3⟩ := not_mine hm
    have hks : k ≠ sb := fun e => m2 (by rw [e]; rfl)
    have hkf := Nat.lt_of_lt_of_le hk hW.size
    refine ⟨(Below.heap_setCell w5 ⟨B, 0, none⟩ _ k m3).trans ((hgr.block k (Nat.lt_of_lt_of_le hkf hb.size) (fun e => hks (Option.some.inj e))).trans ((hb.block k hkf).trans (hW.block k hk))), ?_⟩
    rintro (e | e | e)
    · exact e m1
    · have e : g = k := Option.some.inj e
      rcases hor with e2 | e2
      · have e2 : sb = g := Option.some.inj e2
        omega
      · omega
    · exact m3 e
  · have h1 : Below base w w4 := (hW.mono hbase).trans (hb.mono (by have := hW.size; omega))
    have h2 : Below base w4 w5 := below_of_grown hgr (by have := hW.size; omega) (fun k hk => by injection hk with hk; omega)
    exact (h1.trans h2).setCell (p := ⟨B, 0, none⟩) hB _
theorem run_takes (k : Int) (args : Array Value) (W : World) : (callFunc (takesOf k) args).run Tryz.prog W = .ok (.enter (takesOf k) args) W := by
  unfold takesOf
  repeat' split
  all_goals kernel_rfl
theorem run_needs (k : Int) (args : Array Value) (W : World) : (callFunc (needsOf k) args).run Tryz.prog W = .ok (.enter (needsOf k) args) W := by
  unfold needsOf
  repeat' split
  all_goals kernel_rfl
theorem attrsF_twice {kd : Int} {el : Elem} {seen l : List Pair} {p : Pair} (h : seen.any (fun x => x.name == p.name) = true) : attrsF kd el seen (p :: l) = none := by
  unfold attrsF; rw [if_pos h]
theorem attrsF_no {kd : Int} {el : Elem} {seen l : List Pair} {p : Pair} (h : seen.any (fun x => x.name == p.name) = false) (ht : takeF kd el p.name p.value = none) : attrsF kd el seen (p :: l) = none := by
  unfold attrsF; rw [if_neg (by rw [h]; decide), ht]
theorem attrsF_yes {kd : Int} {el e2 : Elem} {seen l : List Pair} {p : Pair} (h : seen.any (fun x => x.name == p.name) = false) (ht : takeF kd el p.name p.value = some e2) : attrsF kd el seen (p :: l) = attrsF kd e2 (seen ++ [p]) l := by
  rw [attrsF, if_neg (by rw [h]; decide), ht]
theorem bld_grown {w w' : World} {base B : Nat} {v : Value} {st : List Level} {kvs : List Value} {own : Nat → Option Nat} (h : Bld w base B v st kvs own) (hb : Below w.heap.size w w') : Bld w' base B v st kvs own := h.below hb
set_option maxRecDepth 100000 in
set_option maxHeartbeats 8000000 in
theorem begin_calls {base B : Nat} {v : Value} {r : List Level} {u : Level} {kvs : List Value} {own : Nat → Option Nat} {F : Nat → Prop} (t : Token) (av : Value) (w : World) (h : Bld w base B v (r.reverse ++ [u]) kvs own) (hr : r.length ≤ 100)
    (hk : u.e.kids.length ≤ 10000) (hB : base ≤ B) (ht : t.text.length ≤ 100000000) (hav : GR w F (.row 2 (t.attrs.map Pair.gv)) [av]) (hal : t.attrs.length ≤ 100000) :
    Calls Tryz.prog 44 #[.pointer (some ⟨B, 0, none⟩), .agg #[.int .i64 t.kind, .string (bs t.text), av]] w (StepPost base B v own (beginF (u :: r) t) w) := by
  have hs : t.text.length ≤ maxLen := by unfold maxLen; omega
  obtain ⟨AA, ac, rfl, -, -, -⟩ := pairs_open hav
  have HAV := Lib.hid hav
  clear hav
  obtain ⟨av, hAV⟩ : ∃ av, av = Value.slice AA t.attrs.length ac := ⟨_, rfl⟩
  rw [← hAV]
  have HAVE := Lib.hid hAV
  clear hAV
  obtain ⟨rk, ra, ri, rf, rg, hRV, hf1, hg1, hRQ⟩ := ruleV_form t.text
  obtain ⟨w0, hw0⟩ : ∃ w0, w0 = w.alloc (.cells #[.int .i64 t.kind, .string (bs t.text), av] 80) := ⟨_, rfl⟩
  have hx : Blk w0 w.heap.size 80 #[.int .i64 t.kind, .string (bs t.text), av] := by rw [hw0]; exact Blk.new w _ _
  have x1 := hx.cell 1
  have hs0 : w0.heap.size = w.heap.size + 1 := by rw [hw0, size_alloc]
  have HW0 := Lib.hid hw0
  have hx0 := Lib.hid hs0
  have HRQ := Lib.hid hRQ
  have HRV := Lib.hid hRV
  have HH := Lib.hid h
  clear hRQ hRV h
  go_enter Tryz.func44, Tryz.ntmps44
  clear hw0
  go_upto_region 1 with (fail)
  rw [← HW0.out]
  go_cut [5, 6] from 11 to 104 (fun rv iv wx => ∃ R : Nat, rv = .pointer (some ⟨R, 0, none⟩) ∧ iv = .bool (ruleF t.text).isSome ∧ Hid (Blk wx R 125 #[.int .i64 rk, .bool ra, .int .i64 ri, rf, rg]) ∧ Hid (Below w0.heap.size w0 wx))
  case first =>
    have hS0 : Blk w0.drew w.heap.size 80 #[.int .i64 t.kind, .string (bs t.text), av] := hx
    refine wp_region_held (S := (fun w' => Blk w' w.heap.size 80 #[.int .i64 t.kind, .string (bs t.text), av])) (by kernel_rfl) ?_
    change wpAnyH _ _ _ _ _ _ _ _ (World.drew _)
    refine wpAnyH_take (i := 1) (v := ?_) rfl (by kernel_rfl) (by kernel_rfl) (by kernel_rfl) (fun _ _ _ h => h) (Or.inl ⟨by rfl, ?_⟩) hS0 ?_
    rotate_left
    · (intro w_ hS_; have s1 := Blk.cell hS_ 1; go_simp; try with_reducible rfl)
    refine wpAnyH_take (i := 2) (v := ?_) rfl (by kernel_rfl) (by kernel_rfl) (by kernel_rfl) (fun _ _ _ h => h) (Or.inl ⟨by rfl, ?_⟩) hS0 ?_
    rotate_left
    · (intro w_ hS_; have s1 := Blk.cell hS_ 1; go_simp; try with_reducible rfl)
    refine wpAnyH_ready (rs := [0, 7]) (by kernel_rfl) (by simp) ?_
    refine AllReadyH.cons rfl (fun K_ hK_ => ?_) (AllReadyH.cons rfl (fun K_ hK_ => ?_) AllReadyH.nil)
    · go_simp
      refine (rules_calls w0.drew).mono ?_
      rintro en w1 ⟨rfl, hM, h1⟩
      have hs1 : w0.drew.heap.size = w.heap.size + 1 := hx0.out
      rw [hs1] at hM ⊢
      obtain ⟨mb, hmb⟩ : ∃ mb, mb = w.heap.size + 1 := ⟨_, rfl⟩
      rw [← hmb] at hM ⊢
      have hS1 : Blk w1 w.heap.size 80 #[.int .i64 t.kind, .string (bs t.text), av] := Blk.below hS0 h1 (Blk.lt hS0)
      refine hK_.out _ _ (by exact hS1) fun _ => ?_
      clear hK_ K_
      clear hmb
      refine wpAnyH_more (S' := fun w' => Blk w' w.heap.size 80 #[.int .i64 t.kind, .string (bs t.text), av] ∧ w'.ownsMap Tryz.prog 9 selfR mb 11 rulesD) (fun _ h => h.1) _ _ _ _ ?_
      refine wpAnyH_take (i := 3) (v := ?_) rfl (by kernel_rfl) (by kernel_rfl) (by kernel_rfl) (fun _ _ _ h => h) (Or.inl ⟨by rfl, ?_⟩) ⟨hS1, hM⟩ ?_
      rotate_left
      · (intro w_ hS_; have hl : (Instr.lookup 127 (.map (some mb)) (.string (bs t.text)) true).run Tryz.prog w_ = .ok (.tuple #[.agg #[.int .i64 rk, .bool ra, .int .i64 ri, rf, rg], .bool (ruleF t.text).isSome]) w_ := by (rw [← HRV.out]; exact rules_look hS_.2 hs true)
         go_simp; try with_reducible rfl)
      go_simp
      refine wpAnyH_take (i := 4) (v := ?_) rfl (by kernel_rfl) (by kernel_rfl) (by kernel_rfl) (fun _ _ _ h => h) (Or.inl ⟨by rfl, ?_⟩) ⟨hS1, hM⟩ ?_
      rotate_left
      · (intro w_ hS_; obtain _s := hS_; go_simp; try with_reducible rfl)
      refine wpAnyH_take (i := 5) (v := ?_) rfl (by kernel_rfl) (by kernel_rfl) (by kernel_rfl) (fun _ _ _ h => h) (Or.inl ⟨by rfl, ?_⟩) ⟨hS1, hM⟩ ?_
      rotate_left
      · (intro w_ hS_; obtain _s := hS_; go_simp; try with_reducible rfl)
      refine wpAnyH_take (i := 6) (v := ?_) rfl (by kernel_rfl) (by kernel_rfl) (by kernel_rfl) (fun _ _ _ h => h) (Or.inl ⟨by rfl, ?_⟩) ⟨hS1, hM⟩ ?_
      rotate_left
      · (intro w_ hS_; obtain _s := hS_; go_simp; try with_reducible rfl)
      have hal : Below w1.heap.size w1 (w1.alloc (.cells #[.int .i64 0, .bool false, .int .i64 0, .nilFunc, .nilFunc] 125)) := (Below.refl _ _).alloc (Nat.le_refl _) _
      have hS2 := hS1.below hal hS1.lt
      have hM2 := hM.alloc (.cells #[.int .i64 0, .bool false, .int .i64 0, .nilFunc, .nilFunc] 125)
      refine wpAnyH_ready (rs := [7]) (by kernel_rfl) (by simp) ?_
      refine AllReadyH.cons rfl (fun K_ hK_ => ?_) AllReadyH.nil
      go_simp
      refine hK_.out _ _ (by exact ⟨hS2, hM2⟩) fun _ => ?_
      clear hK_ K_
      have zb : Blk (w1.alloc (.cells #[.int .i64 0, .bool false, .int .i64 0, .nilFunc, .nilFunc] 125)) w1.heap.size 125 #[.int .i64 0, .bool false, .int .i64 0, .nilFunc, .nilFunc] := Blk.new w1 _ _
      have sf : ∀ (W : World) (a : Addr) (m : Mode), (store a rf m).run Tryz.prog W = stored Tryz.prog W a rf m := fun W a m => run_store _ W a rf m hf1
      have sg : ∀ (W : World) (a : Addr) (m : Mode), (store a rg m).run Tryz.prog W = stored Tryz.prog W a rg m := fun W a m => run_store _ W a rg m hg1
      have z0 := zb.cell 0
      have z1 := zb.cell 1
      have z2 := zb.cell 2
      have z3 := zb.cell 3
      have z4 := zb.cell 4
      have y0 := zb.frozen 0
      have y1 := zb.frozen 1
      have y2 := zb.frozen 2
      have y3 := zb.frozen 3
      have y4 := zb.frozen 4
      refine wpAnyH_ready (rs := [8]) (by kernel_rfl) (by simp) ?_
      refine AllReadyH.cons rfl (fun K_ hK_ => ?_) AllReadyH.nil
      go_simp
      have hal2 : Below w1.heap.size w1 (w1.alloc (.cells #[.int .i64 rk, .bool ra, .int .i64 ri, rf, rg] 125)) := (Below.refl _ _).alloc (Nat.le_refl _) _
      have hS3 := hS1.below hal2 hS1.lt
      have hM3 := hM.alloc (.cells #[.int .i64 rk, .bool ra, .int .i64 ri, rf, rg] 125)
      refine hK_.out _ _ (by exact ⟨hS3, hM3⟩) fun _ => ?_
      clear hK_ K_
      refine wpAnyH_take (i := 9) (v := ?_) rfl (by kernel_rfl) (by kernel_rfl) (by kernel_rfl) (fun _ _ _ h => h) (Or.inl ⟨by rfl, ?_⟩) (by exact ⟨hS3, hM3⟩) ?_
      rotate_left
      · (intro w_ hS_; clear hS_; go_simp; try with_reducible rfl)
      refine wpAnyH_done (by kernel_rfl) ?_ _
      go_wp2_with fail
      go_meet
      case rel => exact ⟨_, rfl, rfl, Blk.new w1 _ _, (below_drewN (Below.refl _ _) 1).trans ((h1.mono (by rw [hx0.out]; exact Nat.le_of_eq hs1.symm)).trans (hal2.mono (by have := h1.size; omega)))⟩
    · go_simp
      have hal0 : Below w0.heap.size w0 (w0.alloc (.cells #[.int .i64 0, .bool false, .int .i64 0, .nilFunc, .nilFunc] 125)).drew := ((Below.refl _ _).alloc (Nat.le_refl _) _).drew
      have hA := Blk.below (B := w0.heap.size) hx hal0 hx.lt
      have zb0 : Blk (w0.alloc (.cells #[.int .i64 0, .bool false, .int .i64 0, .nilFunc, .nilFunc] 125)).drew (w.heap.size + 1) 125 #[.int .i64 0, .bool false, .int .i64 0, .nilFunc, .nilFunc] := by
        rw [← hx0.out]; exact Blk.new w0 _ _
      have hsz : (w0.alloc (.cells #[.int .i64 0, .bool false, .int .i64 0, .nilFunc, .nilFunc] 125)).drew.heap.size = w.heap.size + 1 + 1 := by
        show (w0.alloc _).heap.size = _
        rw [size_alloc, hx0.out]
      have HSZ := Lib.hid hsz
      clear hsz
      refine hK_.out _ _ (by exact hA) fun _ => ?_
      clear hK_ K_
      generalize (w0.alloc (.cells #[.int .i64 0, .bool false, .int .i64 0, .nilFunc, .nilFunc] 125)).drew = wa at *
      refine wpAnyH_ready (rs := [0]) (by kernel_rfl) (by simp) ?_
      refine AllReadyH.cons rfl (fun K_ hK_ => ?_) AllReadyH.nil
      go_simp
      refine (rules_calls wa).mono ?_
      rintro en w1 ⟨rfl, hM, h1⟩
      obtain ⟨mb, hmb⟩ : ∃ mb, mb = wa.heap.size := ⟨_, rfl⟩
      rw [← hmb] at hM ⊢
      have HMB : Hid (mb ≠ w.heap.size + 1) := by have := HSZ.out; rw [Hid, hmb]; omega
      clear hmb
      have hS1 : Blk w1 w.heap.size 80 #[.int .i64 t.kind, .string (bs t.text), av] := Blk.below hA h1 (Blk.lt hA)
      have zb : Blk w1 (w.heap.size + 1) 125 #[.int .i64 0, .bool false, .int .i64 0, .nilFunc, .nilFunc] := Blk.below zb0 h1 (Blk.lt zb0)
      refine hK_.out _ _ (by exact hS1) fun _ => ?_
      clear hK_ K_
      refine wpAnyH_more (S' := fun w' => Blk w' w.heap.size 80 #[.int .i64 t.kind, .string (bs t.text), av] ∧ w'.ownsMap Tryz.prog 9 selfR mb 11 rulesD) (fun _ h => h.1) _ _ _ _ ?_
      refine wpAnyH_take (i := 3) (v := ?_) rfl (by kernel_rfl) (by kernel_rfl) (by kernel_rfl) (fun _ _ _ h => h) (Or.inl ⟨by rfl, ?_⟩) ⟨hS1, hM⟩ ?_
      rotate_left
      · (intro w_ hS_; have hl : (Instr.lookup 127 (.map (some mb)) (.string (bs t.text)) true).run Tryz.prog w_ = .ok (.tuple #[.agg #[.int .i64 rk, .bool ra, .int .i64 ri, rf, rg], .bool (ruleF t.text).isSome]) w_ := by (rw [← HRV.out]; exact rules_look hS_.2 hs true)
         go_simp; try with_reducible rfl)
      go_simp
      refine wpAnyH_take (i := 4) (v := ?_) rfl (by kernel_rfl) (by kernel_rfl) (by kernel_rfl) (fun _ _ _ h => h) (Or.inl ⟨by rfl, ?_⟩) ⟨hS1, hM⟩ ?_
      rotate_left
      · (intro w_ hS_; obtain _s := hS_; go_simp; try with_reducible rfl)
      refine wpAnyH_take (i := 5) (v := ?_) rfl (by kernel_rfl) (by kernel_rfl) (by kernel_rfl) (fun _ _ _ h => h) (Or.inl ⟨by rfl, ?_⟩) ⟨hS1, hM⟩ ?_
      rotate_left
      · (intro w_ hS_; obtain _s := hS_; go_simp; try with_reducible rfl)
      refine wpAnyH_take (i := 6) (v := ?_) rfl (by kernel_rfl) (by kernel_rfl) (by kernel_rfl) (fun _ _ _ h => h) (Or.inl ⟨by rfl, ?_⟩) ⟨hS1, hM⟩ ?_
      rotate_left
      · (intro w_ hS_; obtain _s := hS_; go_simp; try with_reducible rfl)
      have sf : ∀ (W : World) (a : Addr) (m : Mode), (store a rf m).run Tryz.prog W = stored Tryz.prog W a rf m := fun W a m => run_store _ W a rf m hf1
      have sg : ∀ (W : World) (a : Addr) (m : Mode), (store a rg m).run Tryz.prog W = stored Tryz.prog W a rg m := fun W a m => run_store _ W a rg m hg1
      have z0 := zb.cell 0
      have z1 := zb.cell 1
      have z2 := zb.cell 2
      have z3 := zb.cell 3
      have z4 := zb.cell 4
      have y0 := zb.frozen 0
      have y1 := zb.frozen 1
      have y2 := zb.frozen 2
      have y3 := zb.frozen 3
      have y4 := zb.frozen 4
      refine wpAnyH_ready (rs := [8]) (by kernel_rfl) (by simp) ?_
      refine AllReadyH.cons rfl (fun K_ hK_ => ?_) AllReadyH.nil
      go_simp
      have hS3 : Blk (set5 w1 (w.heap.size + 1) (.int .i64 rk) (.bool ra) (.int .i64 ri) rf rg) w.heap.size 80 #[.int .i64 t.kind, .string (bs t.text), av] := set5_far hS1 (by omega) _ _ _ _ _
      have hM3 : (set5 w1 (w.heap.size + 1) (.int .i64 rk) (.bool ra) (.int .i64 ri) rf rg).ownsMap Tryz.prog 9 selfR mb 11 rulesD := set5_map hM HMB.out _ _ _ _ _
      have hZ3 : Blk (set5 w1 (w.heap.size + 1) (.int .i64 rk) (.bool ra) (.int .i64 ri) rf rg) (w.heap.size + 1) 125 #[.int .i64 rk, .bool ra, .int .i64 ri, rf, rg] := ((((zb.set_ 0 _).set_ 1 _).set_ 2 _).set_ 3 _).set_ 4 _
      have hB3 : Below w0.heap.size w0 (set5 w1 (w.heap.size + 1) (.int .i64 rk) (.bool ra) (.int .i64 ri) rf rg) := set5_below (hal0.trans (h1.mono hal0.size)) (by rw [hx0.out]; omega) _ _ _ _ _
      unfold set5 at hS3 hM3 hZ3 hB3
      refine hK_.out _ _ (by exact ⟨hS3, hM3⟩) fun _ => ?_
      clear hK_ K_ z0 z1 z2 z3 z4 y0 y1 y2 y3 y4
      refine wpAnyH_take (i := 9) (v := ?_) rfl (by kernel_rfl) (by kernel_rfl) (by kernel_rfl) (fun _ _ _ h => h) (Or.inl ⟨by rfl, ?_⟩) (by exact ⟨hS3, hM3⟩) ?_
      rotate_left
      · (intro w_ hS_; clear hS_; go_simp; try with_reducible rfl)
      refine wpAnyH_done (by kernel_rfl) ?_ _
      have HZ3 := Lib.hid hZ3
      have HB3 := Lib.hid hB3
      clear hZ3 hB3 hS3 hM3
      go_wp2_with fail
      go_meet
      case rel => exact ⟨_, rfl, rfl, HZ3.out, HB3.out⟩
  case rest =>
    obtain ⟨R, rfl, hiv, HR, HB⟩ := hcut
    have hw0b : Below w.heap.size w w0 := by rw [HW0.out]; exact (Below.refl _ _).alloc (Nat.le_refl _) _
    have hBw := hw0b.trans (HB.out.mono (by rw [hx0.out]; omega))
    have hX : Blk wc w.heap.size 80 #[.int .i64 t.kind, .string (bs t.text), av] := Blk.below hx HB.out hx.lt
    have hbase : base ≤ w.heap.size := Nat.le_trans hB (Nat.le_of_lt HH.out.blk.lt)
    have hRlt := HR.out.lt
    have hRX : Hid (w.heap.size < wc.heap.size ∧ R < wc.heap.size ∧ R ≠ w.heap.size) := ⟨hX.lt, hRlt, fun e => by
      have e1 := HR.out
      rw [e] at e1
      have e2 := e1.symm.trans hX
      simp at e2⟩
    have HBW := Lib.hid hBw
    have HX := Lib.hid hX
    clear x1 hx hs0 hBw hw0b hX hRlt
    cases hq : ruleF t.text with
    | none =>
      have HF : Hid (beginF (u :: r) t = (u :: r, 40)) := by unfold Hid beginF; rw [hq]
      rw [hq] at hiv
      have hiv : u6 = .bool false := hiv
      subst hiv
      clear hq
      go_wp2_with fail
      go_ret
      rw [HF.out]
      exact step_same (HH.out.below HBW.out) (Below.refl _ _) HBW.out hbase
    | some q =>
      obtain ⟨rfl, rfl, rfl, rfl, rfl⟩ := HRQ.out q hq
      have HQ := Lib.hid hq
      rw [hq] at hiv
      have hiv : u6 = .bool true := hiv
      subst hiv
      clear hq
      have y0 := HX.out.cell 0
      have y1 := HX.out.cell 1
      have y2 := HX.out.cell 2
      have r0 := HR.out.cell 0
      have r1 := HR.out.cell 1
      by_cases ha : q.alone = decide (t.kind = 3)
      · have hb : (q.alone == (t.kind == 3)) = true := by
          rw [ha, beq_iff_eq]
          by_cases h3 : t.kind = 3 <;> simp [h3]
        have HA := Lib.hid ha
        clear ha
        go_upto_region 5 with (fail)
        obtain ⟨w3, hw3⟩ : ∃ w3, w3 = wc.alloc (.cells #[.int .i64 q.kind, .string ⟨#[]⟩, .string ⟨#[]⟩, .string ⟨#[]⟩, .bool false, .string ⟨#[]⟩, .slice none 0 0] 74) := ⟨_, rfl⟩
        have hE : ElemAt w3 wc.heap.size (elem0 q.kind) := by rw [hw3]; exact Blk.new wc _ _
        have hB3 : Below wc.heap.size wc w3 := by rw [hw3]; exact (Below.refl _ _).alloc (Nat.le_refl _) _
        rw [← hw3]
        have HX3 := Lib.hid (HX.out.below hB3 HX.out.lt)
        have HR3 := Lib.hid (HR.out.below hB3 HR.out.lt)
        have HBW3 := Lib.hid (HBW.out.trans (hB3.mono HBW.out.size))
        have HNE : Hid (w.heap.size < wc.heap.size ∧ R < wc.heap.size) := ⟨hRX.out.1, hRX.out.2.1⟩
        have HE := Lib.hid hE
        clear hw3 hE hB3 HX HR HBW y0 y1 y2 r0 r1 hRX
        generalize wc.heap.size = E at *
        have y2 := HX3.out.cell 2
        rw [HAVE.out] at y2
        clear hb
        go_wp2_with fail
        go_loopw [34] (fun i wr => ∃ (k : Nat) (el : Elem), k ≤ t.attrs.length ∧ i = .int .i64 k ∧ Hid (attrsF q.kind (elem0 q.kind) [] t.attrs = attrsF q.kind el (t.attrs.take k) (t.attrs.drop k)) ∧ Hid (ElemAt wr E el) ∧ Hid (w3.grownBy wr (some E)))
          (fun i wr => t.attrs.length - (intOf i).toNat)
        case atStart => exact ⟨0, elem0 q.kind, Nat.zero_le _, rfl, rfl, HE, grown_refl _ _⟩
        case round =>
          obtain ⟨k, el, hk0, rfl, HAT, HEL, HG⟩ := hrel
          have hBr : Below w.heap.size w wr := HBW3.out.trans (below_of_grown HG.out HBW3.out.size (fun k hk => by injection hk with hk; have := HNE.out.1; omega))
          have hXr := HX3.out.grown HG.out (fun e => by have e := Option.some.inj e; have := HNE.out.1; omega)
          have hRr := HR3.out.grown HG.out (fun e => by have e := Option.some.inj e; have := HNE.out.2; omega)
          have hgr := HAV.out.below hBr
          by_cases hlt : k < t.attrs.length
          · obtain ⟨A', c', hv', hcap, hmax, hop⟩ := pairs_open hgr
            injection hv' with e1 e2 e3
            subst e1 e3
            obtain ⟨b, off, rfl, -, hop⟩ := hop (by rintro e; rw [e] at hlt; simp at hlt)
            obtain ⟨p0, p1⟩ := hop k hlt
            have hdr : t.attrs.drop k = t.attrs[k] :: t.attrs.drop (k + 1) := List.drop_eq_getElem_cons hlt
            have htk : t.attrs.take (k + 1) = t.attrs.take k ++ [t.attrs[k]] := List.take_succ_eq_append_getElem hlt
            rw [hdr] at HAT
            have hgt := row_take hgr k (by rw [List.length_map]; omega)
            rw [← List.map_take] at hgt
            have HTK := Lib.hid htk
            clear htk
            generalize t.attrs[k] = p at *
            have hk1 : (0 : Int) ≤ (k : Int) := by omega
            have hk2 : (k : Int) ≤ (ac : Int) := by omega
            have HGT := Lib.hid hgt
            have HRr := Lib.hid hRr
            have HXr := Lib.hid hXr
            have HBr := Lib.hid hBr
            clear hdr hgr hop hgt hRr hXr hBr
            go_upto_region 8 with (fail)
            obtain ⟨w5, hw5⟩ : ∃ w5, w5 = wr.alloc (.cells #[.string (bs p.name), .string (bs p.value)] 130) := ⟨_, rfl⟩
            have hP : Blk w5 wr.heap.size 130 #[.string (bs p.name), .string (bs p.value)] := by rw [hw5]; exact Blk.new wr _ _
            have hB5 : Below wr.heap.size wr w5 := by rw [hw5]; exact (Below.refl _ _).alloc (Nat.le_refl _) _
            rw [← hw5]
            have x2 := (HXr.out.below hB5 HXr.out.lt).cell 2
            rw [HAVE.out] at x2
            have HGT5 := Lib.hid (HGT.out.below hB5)
            have HR5 := Lib.hid (HRr.out.below hB5 HRr.out.lt)
            have HP := Lib.hid hP
            have HB5 := Lib.hid hB5
            clear hw5 hP hB5 p0 p1 HRr
            go_upto_region 9 with (refine (containsFunc_calls wr.heap.size p (t.attrs.take k) _ F w5 (HP.out.cell 0) HGT5.out (by rw [List.length_take]; omega)).mono ?_; rintro en w6 ⟨rfl, h6⟩)
            obtain ⟨tw, htw⟩ : ∃ tw, tw = (t.attrs.take k).any (fun x => x.name == p.name) := ⟨_, rfl⟩
            rw [← htw]
            have HTW := Lib.hid htw.symm
            clear htw
            have hB6 : Below w.heap.size w w6 := HBr.out.trans ((HB5.out.mono HBr.out.size).trans (h6.mono (Nat.le_trans HBr.out.size HB5.out.size)))
            have HB6 := Lib.hid hB6
            have HW6 : Hid (wr.heap.size ≤ w5.heap.size ∧ Below wr.heap.size wr w6) := ⟨HB5.out.size, HB5.out.trans (h6.mono HB5.out.size)⟩
            cases tw with
            | true =>
              have HF2 := Lib.hid (beginF_2 (u := u) (r := r) HQ.out HA.out (HAT.out.trans (attrsF_twice HTW.out)))
              clear x2 y2 hB6 h6
              go_wp2_with fail
              go_ret
              rw [HF2.out]
              exact step_same (HH.out.below HB6.out) (Below.refl _ _) HB6.out hbase
            | false =>
              have hP6 := HP.out.below h6 HP.out.lt
              have hR6 := HR5.out.below h6 HR5.out.lt
              have hE6 : ElemAt w6 E el := Blk.below HEL.out HW6.out.2 (Blk.lt HEL.out)
              have p0 := hP6.cell 0
              have p1 := hP6.cell 1
              have r3 := hR6.cell 3
              have hct := run_takes q.kind
              have HE6 := Lib.hid hE6
              clear x2 y2 hB6 h6 hP6 hR6 hE6 HP HR5
              go_wp2_with fail
              refine (takes_calls q.kind E el p.name p.value w6 HE6.out).mono ?_
              rintro en w7 ⟨rfl, h7, hg7⟩
              cases htf : takeF q.kind el p.name p.value with
              | none =>
                have HF2 := Lib.hid (beginF_2 (u := u) (r := r) HQ.out HA.out (HAT.out.trans (attrsF_no HTW.out htf)))
                have HB7 : Hid (Below w.heap.size w w7) := HB6.out.trans (below_of_grown hg7 HB6.out.size (fun k hk => by injection hk with hk; have := HNE.out.1; omega))
                have hsn : (none : Option Elem).isSome = false := rfl
                clear htf h7 hg7
                go_wp2_with fail
                go_ret
                rw [HF2.out]
                exact step_same (HH.out.below HB7.out) (Below.refl _ _) HB7.out hbase
              | some e2 =>
                have HAT2 := Lib.hid (HAT.out.trans (attrsF_yes HTW.out htf))
                have HE7 := Lib.hid (h7 e2 htf)
                have hsn : (some e2).isSome = true := rfl
                have HG7 : Hid (w3.grownBy w7 (some E)) := grown_trans (grown_below HG.out HW6.out.2) hg7
                clear htf h7 hg7
                go_wp2_with fail
                go_roundw
                case rel => exact ⟨k + 1, e2, hlt, by go_num, by rw [HTK.out]; exact HAT2.out, HE7.out, HG7.out⟩
                case measure => simp [intOf]; omega
          · have hkl : k = t.attrs.length := by omega
            subst hkl
            have hat : attrsF q.kind (elem0 q.kind) [] t.attrs = some el := by
              rw [HAT.out, List.drop_length]
              rfl
            have HAS := Lib.hid hat
            clear hat hgr
            have r4 := hRr.cell 4
            have hcn := run_needs q.kind
            have HXr := Lib.hid hXr
            have HRr := Lib.hid hRr
            have HBr := Lib.hid hBr
            clear hXr hRr hBr y2
            have e0 := HEL.out.cell 0
            have e1 := HEL.out.cell 1
            have e2 := HEL.out.cell 2
            have e3 := HEL.out.cell 3
            have e4 := HEL.out.cell 4
            have e5 := HEL.out.cell 5
            have e6 := HEL.out.cell 6
            go_wp2_with fail
            refine (needs_calls q.kind el (.slice none 0 0) wr).mono ?_
            rintro en w8 ⟨rfl, h8⟩
            have hX8 := HXr.out.below h8 HXr.out.lt
            have hR8 := HRr.out.below h8 HRr.out.lt
            have hE8 : ElemAt w8 E el := Blk.below HEL.out h8 (Blk.lt HEL.out)
            have HB8 : Hid (Below w.heap.size w w8) := HBr.out.trans (h8.mono HBr.out.size)
            have HX8 := Lib.hid hX8
            have HR8 := Lib.hid hR8
            have HE8 := Lib.hid hE8
            clear hX8 hR8 hE8 h8 e0 e1 e2 e3 e4 e5 e6 hcn r4 HXr HRr HEL HBr HG
            cases hn : needsF q.kind el with
            | false =>
              have HF2 := Lib.hid (beginF_3 (u := u) (r := r) HQ.out HA.out HAS.out hn)
              clear hn
              go_wp2_with fail
              go_ret
              rw [HF2.out]
              exact step_same (HH.out.below HB8.out) (Below.refl _ _) HB8.out hbase
            | true =>
              have HN := Lib.hid hn
              clear hn
              have e4 := HE8.out.cell 4
              have z4 := HE8.out.frozen 4
              have r0 := HR8.out.cell 0
              go_upto_region 14 with (fail)
              go_cut [69] from 57 to 70 (fun v wx => v = .pointer (some ⟨E, 4, none⟩) ∧ wx = w8.setCell ⟨E, 4, none⟩ (.bool (el.soft && decide (q.kind = 2))))
              case first =>
                cases hsf : el.soft with
                | false =>
                  rw [hsf] at e4
                  have HSF := Lib.hid hsf
                  clear hsf
                  go_wp2_with fail
                  go_meet
                  case rel => exact ⟨rfl, by rw [HSF.out]; rfl⟩
                | true =>
                  rw [hsf] at e4
                  have HSF := Lib.hid hsf
                  clear hsf
                  by_cases h2 : q.kind = 2
                  · have hb2 : (q.kind == 2) = true := by rw [h2]; rfl
                    have hd2 : decide (q.kind = 2) = true := by rw [h2]; rfl
                    have HD2 := Lib.hid hd2
                    clear h2 hd2
                    go_wp2_with fail
                    go_meet
                    case rel => exact ⟨rfl, by rw [HSF.out, HD2.out]; rfl⟩
                  · have hb2 : (q.kind == 2) = false := by rw [beq_eq_false_iff_ne]; exact h2
                    have hd2 : decide (q.kind = 2) = false := by simpa using h2
                    have HD2 := Lib.hid hd2
                    clear h2 hd2
                    go_wp2_with fail
                    go_meet
                    case rel => exact ⟨rfl, by rw [HSF.out, HD2.out]; rfl⟩
              case rest =>
                obtain ⟨rfl, hwc⟩ := hcut
                have hg9 : w8.grownBy wc (some E) := by rw [hwc]; exact grown_setCell (p := ⟨E, 4, none⟩) (grown_refl _ _) (.inl rfl) _
                have hE9 : ElemAt wc E (hardF q.kind el) := by
                  rw [hwc]
                  have := HE8.out.set_ 4 (.bool (el.soft && decide (q.kind = 2)))
                  unfold ElemAt hardF
                  obtain ⟨a1, a2, a3, a4, a5, a6, a7⟩ := el
                  exact this
                have HB9 : Hid (Below w.heap.size w wc) := HB8.out.trans (below_of_grown hg9 HB8.out.size (fun k hk => by injection hk with hk; have := HNE.out.1; omega))
                have hR9 := HR8.out.grown hg9 (fun e => by have e := Option.some.inj e; have := HNE.out.2; omega)
                have HX9 := Lib.hid (HX8.out.grown hg9 (fun e => by have e := Option.some.inj e; have := HNE.out.1; omega))
                have HBD9 := Lib.hid (HH.out.below HB9.out)
                have HE9 := Lib.hid hE9
                have HR9 := Lib.hid hR9
                have r0 := hR9.cell 0
                have r2 := hR9.cell 2
                clear hwc hg9 hE9 hR9 e4 z4 HX8 HR8 HE8 HB8
                go_wp2_with fail
                refine (fits_calls q.kind q.inn wc HBD9.out (by rw [List.length_reverse]; omega) hk).mono ?_
                rintro en wf ⟨rfl, mf, hwf⟩
                have hBf : Below wc.heap.size wc wf := by rw [hwf]; exact below_drewN (Below.refl _ _) mf
                have HB10 : Hid (Below w.heap.size w wf) := HB9.out.trans (hBf.mono HB9.out.size)
                have HBD10 := Lib.hid (HBD9.out.below hBf)
                have hE10 : ElemAt wf E (hardF q.kind el) := Blk.below HE9.out hBf (Blk.lt HE9.out)
                have hR10 := HR9.out.below hBf HR9.out.lt
                have HX10 := Lib.hid (HX9.out.below hBf HX9.out.lt)
                have r1 := hR10.cell 1
                have HE10 := Lib.hid hE10
                clear hwf hBf hE10 hR10 HBD9 HE9 HR9 HX9 HB9 r0 r2
                cases hf : fitsF u.e q.kind q.inn with
                | false =>
                  have HF2 := Lib.hid (beginF_4 (u := u) (r := r) HQ.out HA.out HAS.out HN.out hf)
                  clear hf
                  go_wp2_with fail
                  go_ret
                  rw [HF2.out]
                  exact step_same HBD10.out (Below.refl _ _) HB10.out hbase
                | true =>
                  have HFT := Lib.hid hf
                  clear hf
                  cases hqa : q.alone with
                  | true =>
                    have HF2 := Lib.hid (beginF_5 (u := u) (r := r) HQ.out HA.out HAS.out HN.out HFT.out hqa)
                    rw [hqa] at r1
                    clear hqa
                    have e0 := HE10.out.cell 0
                    have e1 := HE10.out.cell 1
                    have e2 := HE10.out.cell 2
                    have e3 := HE10.out.cell 3
                    have e4 := HE10.out.cell 4
                    have e5 := HE10.out.cell 5
                    have e6 := HE10.out.cell 6
                    have hkk : (hardF q.kind el).kids = [] := hard_kids HAS.out
                    have HKK := Lib.hid hkk
                    clear hkk
                    generalize hardF q.kind el = eh at *
                    go_wp2_with fail
                    refine (put_calls eh (.slice none 0 0) wf HBD10.out (by rw [List.length_reverse]; omega) hk (T := fun _ => False) (by rw [HKK.out]; exact gr_nil) (fun _ h => h.elim) hB).mono ?_
                    rintro en w11 ⟨rfl, h1, h2⟩
                    have H1 := Lib.hid h1
                    have H2 := Lib.hid h2
                    clear h1 h2
                    go_wp2_with fail
                    go_ret
                    rw [HF2.out]
                    refine ⟨rfl, ?_, (HB10.out.mono hbase).trans H2.out⟩
                    rw [putF_rev]
                    obtain ⟨v6, kvs6, own6, b6, f6⟩ := H1.out
                    exact ⟨v6, kvs6, own6, b6, (fr_below HB10.out).trans f6 HB10.out.size (fun _ _ h => h)⟩
                  | false =>
                    have HQA := Lib.hid hqa
                    rw [hqa] at r1
                    clear hqa
                    obtain ⟨sb, cap, rfl, hcap, hcm, hsb, hbs⟩ := HBD10.out.form
                    rw [List.length_reverse] at *
                    have b0 := HBD10.out.blk.cell 0
                    by_cases h16 : 16 < r.length + 1
                    · have HF2 := Lib.hid (beginF_6 (u := u) (r := r) HQ.out HA.out HAS.out HN.out HFT.out HQA.out (by rw [List.length_cons]; exact h16))
                      have hd : decide ((16 : Int) < (r.length : Int) + 1) = true := by rw [decide_eq_true_iff]; omega
                      go_wp2_with fail
                      go_ret
                      rw [HF2.out]
                      exact step_same HBD10.out (Below.refl _ _) HB10.out hbase
                    · have HF2 := Lib.hid (beginF_7 (u := u) (r := r) HQ.out HA.out HAS.out HN.out HFT.out HQA.out (by rw [List.length_cons]; exact h16))
                      have hd : decide ((16 : Int) < (r.length : Int) + 1) = false := by rw [decide_eq_false_iff_not]; omega
                      have hkk : (hardF q.kind el).kids = [] := hard_kids HAS.out
                      have HKK := Lib.hid hkk
                      clear hkk
                      generalize hardF q.kind el = eh at *
                      go_wp2_with fail
                      obtain ⟨w4, hw4⟩ : ∃ w4, w4 = (wf.alloc (.cells #[.int .i64 eh.kind, .string (bs eh.text), .string (bs eh.src), .string (bs eh.alt), .bool eh.soft, .string (bs eh.test), .slice none 0 0, .string (bs t.text)] 90)).drew := ⟨_, rfl⟩
                      have hb4 : Below wf.heap.size wf w4 := by rw [hw4]; exact ((Below.refl _ _).alloc (Nat.le_refl _) _).drew
                      have hs4 : w4.heap.size = wf.heap.size + 1 := by rw [hw4]; exact size_alloc _ _
                      have hL4 : Blk w4 wf.heap.size 90 #[.int .i64 eh.kind, .string (bs eh.text), .string (bs eh.src), .string (bs eh.alt), .bool eh.soft, .string (bs eh.test), .slice none 0 0, .string (bs t.text)] := by rw [hw4]; exact Blk.new wf _ _
                      have hEl := HE10.out.lt
                      have hXl := HX10.out.lt
                      have hbl := HBD10.out.below hb4
                      have hAR : AppRaw w4 base 90 8 120 (.slice (some ⟨sb, 0, none⟩) (r.length + 1) cap) (r.length + 1) (stkCells (r.reverse ++ [u]) kvs) ⟨wf.heap.size, 0, none⟩ (levCells ⟨eh, t.text⟩ (.slice none 0 0)) := by
                        have hrow := hbl.stk.row
                        rw [show (r.reverse ++ [u]).length = r.length + 1 by simp] at hrow
                        refine ⟨hrow, rfl, fun j x hx => ?_, ?_, by simp only [maxLen]; omega, by omega, by have := HB10.out.size; omega⟩
                        · rw [addr_add, Nat.zero_add, hL4.cell]; simpa [levCells] using hx
                        · intro x hx
                          simp only [levCells, List.mem_cons, List.not_mem_nil, or_false] at hx
                          rcases hx with rfl | rfl | rfl | rfl | rfl | rfl | rfl | rfl <;> rfl
                      have hS0 : ElemAt wf.drew E eh ∧ Blk wf.drew w.heap.size 80 #[.int .i64 t.kind, .string (bs t.text), av] := ⟨HE10.out, HX10.out⟩
                      have hS4 : ElemAt w4 E eh ∧ Blk w4 w.heap.size 80 #[.int .i64 t.kind, .string (bs t.text), av] := ⟨Blk.below HE10.out hb4 hEl, HX10.out.below hb4 hXl⟩
                      have hsne : sb ≠ E ∧ sb ≠ w.heap.size := by have h1 := (HH.out.stk.row.lt sb rfl).2; have h2 := HNE.out.1; exact ⟨by omega, by omega⟩
                      have b04 := hbl.blk.cell 0
                      have HAR := Lib.hid hAR
                      have HW4 := Lib.hid hw4
                      have HBL := Lib.hid hbl
                      have HB4 := Lib.hid hb4
                      clear hAR hw4 hbl hL4
                      refine wp_region_held (S := (fun w' => ElemAt w' E eh ∧ Blk w' w.heap.size 80 #[.int .i64 t.kind, .string (bs t.text), av])) (by kernel_rfl) ?_
                      change wpAnyH _ _ _ _ _ _ _ _ (World.drew _)
                      refine wpAnyH_take (i := 0) (v := ?_) rfl (by kernel_rfl) (by kernel_rfl) (by kernel_rfl) (fun _ _ _ h => h) (Or.inl ⟨by rfl, ?_⟩) hS0 ?_
                      rotate_left
                      · (intro w_ hS_; obtain _s := hS_; go_simp; try with_reducible rfl)
                      refine wpAnyH_take (i := 1) (v := ?_) rfl (by kernel_rfl) (by kernel_rfl) (by kernel_rfl) (fun _ _ _ h => h) (Or.inl ⟨by rfl, ?_⟩) hS0 ?_
                      rotate_left
                      · (intro w_ hS_; obtain _s := hS_; go_simp; try with_reducible rfl)
                      refine wpAnyH_take (i := 2) (v := ?_) rfl (by kernel_rfl) (by kernel_rfl) (by kernel_rfl) (fun _ _ _ h => h) (Or.inl ⟨by rfl, ?_⟩) hS0 ?_
                      rotate_left
                      · (intro w_ hS_; obtain _s := hS_; go_simp; try with_reducible rfl)
                      refine wpAnyH_take (i := 3) (v := ?_) rfl (by kernel_rfl) (by kernel_rfl) (by kernel_rfl) (fun _ _ _ h => h) (Or.inl ⟨by rfl, ?_⟩) hS0 ?_
                      rotate_left
                      · (intro w_ hS_; obtain _s := hS_; go_simp; try with_reducible rfl)
                      refine wpAnyH_take (i := 5) (v := ?_) rfl (by kernel_rfl) (by kernel_rfl) (by kernel_rfl) (fun _ _ _ h => h) (Or.inl ⟨by rfl, ?_⟩) hS0 ?_
                      rotate_left
                      · (intro w_ hS_; have s0 := Blk.cell hS_.1 0; have s1 := Blk.cell hS_.1 1; have s2 := Blk.cell hS_.1 2; have s3 := Blk.cell hS_.1 3; have s4 := Blk.cell hS_.1 4; have s5 := Blk.cell hS_.1 5; have s6 := Blk.cell hS_.1 6; go_simp; try with_reducible rfl)
                      refine wpAnyH_take (i := 6) (v := ?_) rfl (by kernel_rfl) (by kernel_rfl) (by kernel_rfl) (fun _ _ _ h => h) (Or.inl ⟨by rfl, ?_⟩) hS0 ?_
                      rotate_left
                      · (intro w_ hS_; obtain _s := hS_; go_simp; try with_reducible rfl)
                      refine wpAnyH_take (i := 7) (v := ?_) rfl (by kernel_rfl) (by kernel_rfl) (by kernel_rfl) (fun _ _ _ h => h) (Or.inl ⟨by rfl, ?_⟩) hS0 ?_
                      rotate_left
                      · (intro w_ hS_; have s1 := Blk.cell hS_.2 1; go_simp; try with_reducible rfl)
                      refine wpAnyH_take (i := 8) (v := ?_) rfl (by kernel_rfl) (by kernel_rfl) (by kernel_rfl) (fun _ _ _ h => h) (Or.inl ⟨by rfl, ?_⟩) hS0 ?_
                      rotate_left
                      · (intro w_ hS_; obtain _s := hS_; go_simp; try with_reducible rfl)
                      refine wpAnyH_ready (rs := [4, 9]) (by kernel_rfl) (by simp) ?_
                      refine AllReadyH.cons rfl (fun K_ hK_ => ?_) (AllReadyH.cons rfl (fun K_ hK_ => ?_) AllReadyH.nil)
                      · go_simp
                        refine hK_.out _ _ (by exact hS0) fun _ => ?_
                        clear hK_ K_
                        refine wpAnyH_ready (rs := [9]) (by kernel_rfl) (by simp) ?_
                        refine AllReadyH.cons rfl (fun K_ hK_ => ?_) AllReadyH.nil
                        go_simp
                        rw [← HW4.out]
                        refine hK_.out _ _ (by exact hS4) fun _ => ?_
                        clear hK_ K_
                        refine wpAnyH_ready (rs := [10]) (by kernel_rfl) (by simp) ?_
                        refine AllReadyH.cons rfl (fun K_ hK_ => ?_) AllReadyH.nil
                        refine HAR.out.step (by rfl) _ _ _ (by rfl) levTy (by rfl) (by rfl) ?_
                        intro g capk w5 hrow5 hgr5 hor5 hlt5
                        have hgr5 : w4.grownBy w5 (some sb) := hgr5
                        have hor5 : some sb = some g ∨ g = w4.heap.size := hor5
                        have hS5 : ElemAt w5 E eh ∧ Blk w5 w.heap.size 80 #[.int .i64 t.kind, .string (bs t.text), av] := ⟨Blk.grown hS4.1 hgr5 (fun e => hsne.1 (Option.some.inj e).symm), hS4.2.grown hgr5 (fun e => hsne.2 (Option.some.inj e).symm)⟩
                        have hB5 : Blk w5 B 86 #[.slice (some ⟨sb, 0, none⟩) (r.length + 1) cap, .int .i64 0] := HBL.out.blk.grown hgr5 (fun e => HBL.out.ne (by rw [e]; rfl))
                        have hBE : B ≠ E ∧ B ≠ w.heap.size := by have h1 := HH.out.blk.lt; have h2 := HNE.out.1; exact ⟨by omega, by omega⟩
                        have HR5 := Lib.hid hrow5
                        have HG5 := Lib.hid hgr5
                        have HO5 := Lib.hid hor5
                        clear hrow5 hgr5 hor5
                        refine hK_.out _ _ (by exact hS5) fun _ => ?_
                        clear hK_ K_
                        refine wpAnyH_take (i := 11) (v := ?_) rfl (by kernel_rfl) (by kernel_rfl) (by kernel_rfl) (fun _ _ _ h => h) (Or.inl ⟨by rfl, ?_⟩) hS5 ?_
                        rotate_left
                        · (intro w_ hS_; obtain _s := hS_; go_simp; try with_reducible rfl)
                        refine wpAnyH_take (i := 12) (v := ?_) rfl (by kernel_rfl) (by kernel_rfl) (by kernel_rfl) (fun _ _ _ h => h) (Or.inl ⟨by rfl, ?_⟩) hS5 ?_
                        rotate_left
                        · (intro w_ hS_; obtain _s := hS_; go_simp; try with_reducible rfl)
                        have q0 := hB5.cell 0
                        have q1 := hB5.frozen 0
                        refine wpAnyH_ready (rs := [13]) (by kernel_rfl) (by simp) ?_
                        refine AllReadyH.cons rfl (fun K_ hK_ => ?_) AllReadyH.nil
                        go_simp
                        refine hK_.out _ _ (by exact ⟨Blk.far hS5.1 (p := ⟨B, 0, none⟩) (fun e => hBE.1 e.symm) _, hS5.2.far (p := ⟨B, 0, none⟩) (fun e => hBE.2 e.symm) _⟩) fun _ => ?_
                        clear hK_ K_
                        refine wpAnyH_done (by kernel_rfl) ?_ _
                        go_wp2_with fail
                        go_ret
                        rw [HF2.out]
                        exact push_end (x := ⟨eh, t.text⟩) hbase hB HB10.out HBD10.out HKK.out HB4.out HR5.out HG5.out HO5.out
                      · go_simp
                        rw [← HW4.out]
                        refine hK_.out _ _ (by exact hS4) fun _ => ?_
                        clear hK_ K_
                        refine wpAnyH_ready (rs := [4]) (by kernel_rfl) (by simp) ?_
                        refine AllReadyH.cons rfl (fun K_ hK_ => ?_) AllReadyH.nil
                        go_simp
                        refine hK_.out _ _ (by exact hS4) fun _ => ?_
                        clear hK_ K_
                        refine wpAnyH_ready (rs := [10]) (by kernel_rfl) (by simp) ?_
                        refine AllReadyH.cons rfl (fun K_ hK_ => ?_) AllReadyH.nil
                        refine HAR.out.step (by rfl) _ _ _ (by rfl) levTy (by rfl) (by rfl) ?_
                        intro g capk w5 hrow5 hgr5 hor5 hlt5
                        have hgr5 : w4.grownBy w5 (some sb) := hgr5
                        have hor5 : some sb = some g ∨ g = w4.heap.size := hor5
                        have hS5 : ElemAt w5 E eh ∧ Blk w5 w.heap.size 80 #[.int .i64 t.kind, .string (bs t.text), av] := ⟨Blk.grown hS4.1 hgr5 (fun e => hsne.1 (Option.some.inj e).symm), hS4.2.grown hgr5 (fun e => hsne.2 (Option.some.inj e).symm)⟩
                        have hB5 : Blk w5 B 86 #[.slice (some ⟨sb, 0, none⟩) (r.length + 1) cap, .int .i64 0] := HBL.out.blk.grown hgr5 (fun e => HBL.out.ne (by rw [e]; rfl))
                        have hBE : B ≠ E ∧ B ≠ w.heap.size := by have h1 := HH.out.blk.lt; have h2 := HNE.out.1; exact ⟨by omega, by omega⟩
                        have HR5 := Lib.hid hrow5
                        have HG5 := Lib.hid hgr5
                        have HO5 := Lib.hid hor5
                        clear hrow5 hgr5 hor5
                        refine hK_.out _ _ (by exact hS5) fun _ => ?_
                        clear hK_ K_
                        refine wpAnyH_take (i := 11) (v := ?_) rfl (by kernel_rfl) (by kernel_rfl) (by kernel_rfl) (fun _ _ _ h => h) (Or.inl ⟨by rfl, ?_⟩) hS5 ?_
                        rotate_left
                        · (intro w_ hS_; obtain _s := hS_; go_simp; try with_reducible rfl)
                        refine wpAnyH_take (i := 12) (v := ?_) rfl (by kernel_rfl) (by kernel_rfl) (by kernel_rfl) (fun _ _ _ h => h) (Or.inl ⟨by rfl, ?_⟩) hS5 ?_
                        rotate_left
                        · (intro w_ hS_; obtain _s := hS_; go_simp; try with_reducible rfl)
                        have q0 := hB5.cell 0
                        have q1 := hB5.frozen 0
                        refine wpAnyH_ready (rs := [13]) (by kernel_rfl) (by simp) ?_
                        refine AllReadyH.cons rfl (fun K_ hK_ => ?_) AllReadyH.nil
                        go_simp
                        refine hK_.out _ _ (by exact ⟨Blk.far hS5.1 (p := ⟨B, 0, none⟩) (fun e => hBE.1 e.symm) _, hS5.2.far (p := ⟨B, 0, none⟩) (fun e => hBE.2 e.symm) _⟩) fun _ => ?_
                        clear hK_ K_
                        refine wpAnyH_done (by kernel_rfl) ?_ _
                        go_wp2_with fail
                        go_ret
                        rw [HF2.out]
                        exact push_end (x := ⟨eh, t.text⟩) hbase hB HB10.out HBD10.out HKK.out HB4.out HR5.out HG5.out HO5.out
      · have hb : (q.alone == (t.kind == 3)) = false := by
          rw [beq_eq_false_iff_ne]
          intro e
          apply ha
          rw [e]
          by_cases h3 : t.kind = 3 <;> simp [h3]
        have HF2 := Lib.hid (beginF_1 (u := u) (r := r) HQ.out ha)
        clear ha
        go_wp2_with fail
        go_ret
        rw [HF2.out]
        exact step_same (HH.out.below HBW.out) (Below.refl _ _) HBW.out hbase
end Go.Proofs.YtijpfcjlochahaaGreatDoor
