/- The walk of the reference's attr. The walks of the reference's Tag. The walk of the reference's Tag: the method. -/
import Derived.Test.YtijpfcjlochahaaGreatDoorRefC
import Derived.Test.YtijpfcjlochahaaGreatDoorApp
namespace Go.Proofs.YtijpfcjlochahaaGreatDoor
open Go Go.RowKit
set_option linter.unusedVariables false
set_option linter.unusedSimpArgs false

/-- Below block number B, but for block b, the world is as it was. -/
structure Bes (B b : Nat) (w w' : World) : Prop where
  os : w'.os = w.os
  tape : w'.tape = w.tape
  output : w'.output = w.output
  size : w.heap.size ≤ w'.heap.size
  block : ∀ k, k < B → k ≠ b → w'.heap[k]? = w.heap[k]?
theorem Bes.refl (B b : Nat) (w : World) : Bes B b w w := ⟨rfl, rfl, rfl, Nat.le_refl _, fun _ _ _ => rfl⟩
theorem Bes.below {B b : Nat} {w W W' : World} (h : Bes B b w W) (hb : Below B W W') : Bes B b w W' :=
  ⟨hb.os.trans h.os, hb.tape.trans h.tape, hb.output.trans h.output, Nat.le_trans h.size hb.size, fun k hk hne => (hb.block k hk).trans (h.block k hk hne)⟩
theorem Bes.grown {B b : Nat} {w W W' : World} {row : Option Nat} (h : Bes B b w W) (hg : W.grownBy W' row) (hr : ∀ k, row = some k → k = b ∨ B ≤ k) (hB : B ≤ W.heap.size) : Bes B b w W' :=
  ⟨hg.os.trans h.os, hg.tape.trans h.tape, hg.output.trans h.output, Nat.le_trans h.size hg.size, fun k hk hne =>
    (hg.block k (by omega) (fun e => by rcases hr k e.symm with h | h <;> omega)).trans (h.block k hk hne)⟩
theorem bes_grown {B b : Nat} {w w' : World} (h : Bes B b w w') (hB : w.heap.size ≤ B) : w.grownBy w' (some b) :=
  ⟨h.os, h.tape, h.output, h.size, fun k hk hne => h.block k (by omega) (fun e => hne (by rw [e]))⟩

/-- Memory within attr. -/
structure AtSt (w W : World) (base b : Nat) (s : ByteArray) (x : Rs) (X Y : Nat) (kd : Int) (nm : ByteArray) (va : Value) (at_ : List Pair) : Prop where
  rs : RsIn W b s x
  gr : Bes base b w W
  hX : Blk W X 80 #[.int .i64 kd, .string nm, va]
  hY : Blk W Y 80 #[.int .i64 0, .string ⟨#[]⟩, .slice none 0 0]
  own : OwnR W base 130 2 (fun _ => False) va (at_.map Pair.gv)
  lb : b < base
  lX : base ≤ X
  lY : X < Y
  nX : va.ownBlock ≠ some X
  nY : va.ownBlock ≠ some Y
theorem AtSt.step {w W W' : World} {base b : Nat} {s : ByteArray} {x x' : Rs} {X Y : Nat} {kd : Int} {nm : ByteArray} {va : Value} {at_ : List Pair} (h : AtSt w W base b s x X Y kd nm va at_)
    (hg : W.grownBy W' (some b)) (hr : RsIn W' b s x') : AtSt w W' base b s x' X Y kd nm va at_ := by
  have h1 := h.lb
  have h2 := h.lX
  have h3 := h.lY
  have h4 := h.hX.lt
  exact ⟨hr, h.gr.grown hg (fun k hk => .inl (by injection hk with hk; exact hk.symm)) (by omega), h.hX.grown hg (by simp; omega), h.hY.grown hg (by simp; omega), h.own.kept hg (.inr (h.own.ne h1)) (fun _ h => h.elim), h1, h2, h3, h.nX, h.nY⟩
theorem AtSt.below {w W W' : World} {base b : Nat} {s : ByteArray} {x : Rs} {X Y : Nat} {kd : Int} {nm : ByteArray} {va : Value} {at_ : List Pair} (h : AtSt w W base b s x X Y kd nm va at_)
    (hb : Below W.heap.size W W') : AtSt w W' base b s x X Y kd nm va at_ := by
  have h2 := h.lX
  have h4 := h.hX.lt
  exact ⟨h.rs.below hb, h.gr.below (hb.mono (by omega)), h.hX.below hb h.hX.lt, h.hY.below hb h.hY.lt, h.own.below hb, h.lb, h.lX, h.lY, h.nX, h.nY⟩
theorem AtSt.start {w : World} {base b : Nat} {s : ByteArray} {x : Rs} (kd : Int) (nm : ByteArray) {va : Value} {at_ : List Pair} (hr : RsIn w b s x) (ho : OwnR w base 130 2 (fun _ => False) va (at_.map Pair.gv)) (hb : b < base) (hbase : base ≤ w.heap.size) :
    AtSt w ((w.alloc (.cells #[.int .i64 kd, .string nm, va] 80)).alloc (.cells #[.int .i64 0, .string ⟨#[]⟩, .slice none 0 0] 80)) base b s x w.heap.size (w.heap.size + 1) kd nm va at_ := by
  have hb1 : Below w.heap.size w ((w.alloc (.cells #[.int .i64 kd, .string nm, va] 80)).alloc (.cells #[.int .i64 0, .string ⟨#[]⟩, .slice none 0 0] 80)) :=
    ((Below.refl _ _).alloc (Nat.le_refl _) _).alloc (by simp) _
  have hY := Blk.new (w.alloc (.cells #[.int .i64 kd, .string nm, va] 80)) 80 #[.int .i64 0, .string ⟨#[]⟩, .slice none 0 0]
  rw [size_alloc] at hY
  refine ⟨hr.below hb1, (Bes.refl _ _ _).below (hb1.mono hbase), (Blk.new w 80 #[.int .i64 kd, .string nm, va]).alloc _, hY, ho.below hb1, hb, hbase, by omega, ?_, ?_⟩
  · intro e; have := (ho.lt _ e).2; omega
  · intro e; have := (ho.lt _ e).2; omega
theorem fail_idem (x : Rs) (n : Int) : (x.fail n).fail n = x.fail n := by cases x <;> rfl
def dupS (at_ : List Pair) (j : Nat) (v : List UInt8) (x : Rs) : Rs := if (at_.take j).any (fun p => p.name == v) then x.fail 41 else x
theorem dup_zero (at_ : List Pair) (v : List UInt8) (x : Rs) : dupS at_ 0 v x = x := by simp [dupS]
theorem dup_hit {at_ : List Pair} {j : Nat} (hj : j < at_.length) {v : List UInt8} (x : Rs) (h : (at_[j].name == v) = true) : dupS at_ (j + 1) v x = (dupS at_ j v x).fail 41 := by
  unfold dupS
  rw [List.take_succ_eq_append_getElem hj, List.any_append, show ([at_[j]].any fun p => p.name == v) = true by simpa using h, Bool.or_true, if_pos rfl]
  split
  · exact (fail_idem x 41).symm
  · rfl
theorem dup_miss {at_ : List Pair} {j : Nat} (hj : j < at_.length) {v : List UInt8} (x : Rs) (h : (at_[j].name == v) = false) : dupS at_ (j + 1) v x = dupS at_ j v x := by
  unfold dupS
  rw [List.take_succ_eq_append_getElem hj, List.any_append, show ([at_[j]].any fun p => p.name == v) = false by simpa using h, Bool.or_false]
theorem dup_end {at_ : List Pair} {v : List UInt8} {x y : Rs} (h : y = if at_.length = 8 then (dupS at_ at_.length v x).fail 41 else dupS at_ at_.length v x) :
    y = if (at_.any (fun x => x.name == v) || decide (at_.length = 8)) then x.fail 41 else x := by
  rw [h]
  unfold dupS
  rw [List.take_length]
  by_cases h8 : at_.length = 8
  · rw [if_pos h8, decide_eq_true h8, Bool.or_true, if_pos rfl]
    split
    · exact fail_idem x 41
    · rfl
  · rw [if_neg h8, decide_eq_false h8, Bool.or_false]

/-- What attr leaves. -/
def AttrPost (base b : Nat) (s : ByteArray) (w : World) (x : Rs) (kd : Int) (nm : ByteArray) (at_ : List Pair) (e : Ending) (w' : World) : Prop :=
  (∃ va' at2, e = .returned (.agg #[.int .i64 kd, .string nm, va']) ∧ OwnR w' base 130 2 (fun _ => False) va' (at2.map Pair.gv) ∧ at2.length = at_.length + 1 ∧
    ∀ k at3 r k', x = .go k → attrF at_ ((L s).drop k) k = .ok at3 r k' → at3 = at2) ∧ RsIn w' b s (x.after (L s) (attrF at_)) ∧ Bes base b w w'
theorem attr_end {w W w6 : World} {base b : Nat} {s : ByteArray} {x : Rs} {X Y : Nat} {kd : Int} {nm : ByteArray} {va v' : Value} {at_ at2 : List Pair} (st : AtSt w W base b s x X Y kd nm va at_)
    (ho : OwnR w6 base 130 2 (fun _ => False) v' (at2.map Pair.gv)) (hg : W.grownBy w6 va.ownBlock) (hnew : v'.ownBlock = va.ownBlock ∨ v'.ownBlock = some W.heap.size) (x0 x1 x2 : Value) :
    Blk w6 X 80 #[.int .i64 kd, .string nm, va] ∧ Blk (w6.setCell ⟨X, 2, none⟩ v') X 80 #[.int .i64 kd, .string nm, v'] ∧ Blk (w6.setCell ⟨X, 2, none⟩ v') Y 80 #[.int .i64 0, .string ⟨#[]⟩, .slice none 0 0] ∧
      RsIn (set3 (w6.setCell ⟨X, 2, none⟩ v') Y x0 x1 x2) b s x ∧ Bes base b w (set3 (w6.setCell ⟨X, 2, none⟩ v') Y x0 x1 x2) ∧ OwnR (set3 (w6.setCell ⟨X, 2, none⟩ v') Y x0 x1 x2) base 130 2 (fun _ => False) v' (at2.map Pair.gv) := by
  have h1 := st.lb
  have h2 := st.lX
  have h3 := st.lY
  have h4 := st.hX.lt
  have h5 := st.hY.lt
  have hne : ∀ k, k < base ∨ k = X ∨ k = Y → some k ≠ va.ownBlock := fun k hk e => by
    rcases hk with hk | rfl | rfl
    · exact st.own.ne hk e.symm
    · exact st.nX e.symm
    · exact st.nY e.symm
  have nX : v'.ownBlock ≠ some X := fun e => by
    rcases hnew with h | h
    · exact st.nX (h.symm.trans e)
    · rw [h] at e; injection e with e; omega
  have nY : v'.ownBlock ≠ some Y := fun e => by
    rcases hnew with h | h
    · exact st.nY (h.symm.trans e)
    · rw [h] at e; injection e with e; omega
  have hX6 := st.hX.grown hg (hne X (.inr (.inl rfl)))
  have hY6 := st.hY.grown hg (hne Y (.inr (.inr rfl)))
  have g1 : w6.grownBy (w6.setCell ⟨X, 2, none⟩ v') (some X) := grown_setCell (grown_refl _ _) (.inl rfl) _
  have g2 : (w6.setCell ⟨X, 2, none⟩ v').grownBy (set3 (w6.setCell ⟨X, 2, none⟩ v') Y x0 x1 x2) (some Y) := set3_grown (grown_refl _ _) (.inl rfl) _ _ _
  have hs6 := hg.size
  have b1 : Bes base b w w6 := st.gr.grown hg (fun k hk => .inr (st.own.lt k hk).1) (by omega)
  have hsz : (w6.setCell ⟨X, 2, none⟩ v').heap.size = w6.heap.size := by simp [World.setCell]
  have b2 : Bes base b w (w6.setCell ⟨X, 2, none⟩ v') := b1.grown g1 (fun k hk => .inr (by injection hk with hk; omega)) (by omega)
  refine ⟨hX6, hX6.set_ 2 v', hY6.grown g1 (by simp; omega), ?_, b2.grown g2 (fun k hk => .inr (by injection hk with hk; omega)) (by omega), ?_⟩
  · exact ((st.rs.grown hg (hne b (.inl h1))).grown g1 (by simp; omega)).grown g2 (by simp; omega)
  · exact (ho.kept g1 (.inr nX) (fun _ h => h.elim)).kept g2 (.inr nY) (fun _ h => h.elim)
theorem attr_app {w W : World} {base b : Nat} {s : ByteArray} {x : Rs} {X Y : Nat} {kd : Int} {nm : ByteArray} {va : Value} {at_ : List Pair} (st : AtSt w W base b s x X Y kd nm va at_) {N : Nat} (hN : N = at_.length) (hat : N ≤ 8) (v1 v2 : ByteArray) :
    App (W.alloc (.cells #[.string v1, .string v2] 130)) base 130 2 32 (fun _ => False) va (at_.map Pair.gv) (some ⟨W.heap.size, 0, none⟩) 1 [(Pair.mk (L v1) (L v2)).gv] [.string v1, .string v2] (N + 1) := by
  subst hN
  have h2 := st.lX
  have h4 := st.hX.lt
  have hown := st.own.below ((Below.refl _ _).alloc (Nat.le_refl _) (.cells #[.string v1, .string v2] 130))
  have hx := cells_pair (w := W.alloc (.cells #[.string v1, .string v2] 130)) (F := fun k => (fun _ => False) k ∧ some k ≠ va.ownBlock) (Pair.mk (L v1) (L v2))
  simp only [bs_L] at hx
  have key := App.of_new (bytes := 32) (size := 2) hown (Blk.new W 130 #[.string v1, .string v2]) hx rfl (by rw [List.length_map]; omega) (by omega) (by rw [size_alloc]; omega)
  rw [List.length_map] at key
  exact key
set_option maxRecDepth 20000 in
set_option maxHeartbeats 4000000 in
theorem attr_calls (s : ByteArray) (base b : Nat) (x : Rs) (kd : Int) (nm : ByteArray) (va : Value) (at_ : List Pair) (w : World) (h : RsIn w b s x) (ho : OwnR w base 130 2 (fun _ => False) va (at_.map Pair.gv)) (hb : b < base)
    (hbase : base ≤ w.heap.size) (hs : s.size ≤ 10000000) (hat : at_.length ≤ 8) :
    Calls Tryz.prog 153 #[.pointer (some ⟨b, 0, none⟩), .agg #[.int .i64 kd, .string nm, va]] w (AttrPost base b s w x kd nm at_) := by
  have ST0 := Lib.hid (AtSt.start kd nm h ho hb hbase)
  obtain ⟨A, ca, hva⟩ := ho.form
  subst hva
  rw [List.length_map] at ST0 ⊢
  clear h ho hbase
  obtain ⟨N, hN⟩ : ∃ N, N = at_.length := ⟨_, rfl⟩
  rw [← hN] at ST0 ⊢ hat
  have HN := Lib.hid hN
  clear hN
  go_enter Tryz.func153, Tryz.ntmps153
  go_wp2_with fail
  generalize (w.alloc (.cells #[.int .i64 kd, .string nm, .slice A N ca] 80)).alloc (.cells #[.int .i64 0, .string ⟨#[]⟩, .slice none 0 0] 80) = W0 at *
  generalize w.heap.size = X at *
  refine (rname_calls s b x _ ST0.out.rs hs).mono ?_
  rintro e w1 hp1
  obtain ⟨⟨v1, rfl, hv1, hn1⟩, h1, hg1⟩ := hp1
  have ST1 := Lib.hid (ST0.out.step hg1 h1)
  have HN1 := Lib.hid hn1
  generalize hx1 : x.after (L s) nameF = x1 at *
  have HX1 := Lib.hid hx1
  clear h1 hg1 hn1 hx1 ST0
  go_wp2_with fail
  refine (rneed_calls s b x1 61 _ ST1.out.rs hs).mono ?_
  rintro e w2 ⟨rfl, h2, hg2⟩
  have ST2 := Lib.hid (ST1.out.step hg2 h2)
  generalize hx2 : x1.after (L s) (needF [61]) = x2 at *
  have HX2 := Lib.hid hx2
  clear h2 hg2 hx2 ST1
  have t2 := ST2.out.hX.cell 2
  go_wp2_with fail
  clear t2
  go_loopw [7, 16] (fun _ i wr => ∃ j : Nat, j ≤ N ∧ i = .int .i64 j ∧ Hid (AtSt w wr base b s (dupS at_ j (L v1) x2) X (X + 1) kd nm (.slice A N ca) at_))
     (fun _ i wr => N - (intOf i).toNat)
  case atStart => exact ⟨0, Nat.zero_le _, rfl, by rw [Hid, dup_zero]; exact ST2.out⟩
  case round =>
    clear ST2
    obtain ⟨j, hj, rfl, ST⟩ := hrel
    by_cases hlt : j < N
    · have hlt2 : j < at_.length := by rw [← HN.out]; exact hlt
      obtain ⟨A', c', hv, -, -, hop⟩ := pairs_open (ST.out.own.gr (F := fun _ => True) (fun _ h => h.elim) (fun _ _ => trivial))
      obtain ⟨bb, o, hA', _, hop2⟩ := hop (by rintro rfl; simp at hlt2)
      injection hv with hv1 hv2 hv3
      subst hA' hv1
      obtain ⟨c0, c1⟩ := hop2 j hlt2
      have ST' := Lib.hid (ST.out.below ((Below.refl _ _).alloc (Nat.le_refl _) (.cells #[.string (bs at_[j].name), .string (bs at_[j].value)] 130)))
      have HHIT := Lib.hid (dup_hit (v := L v1) hlt2 x2)
      have HMISS := Lib.hid (dup_miss (v := L v1) hlt2 x2)
      clear hop hop2 hv2 hv3
      generalize at_[j] = p at *
      cases hq : (p.name == L v1) with
      | true =>
        have hq2 : ((bs p.name).toList == v1.toList) = true := by rw [toList_bs, toList_L]; exact hq
        have HD := Lib.hid (HHIT.out hq)
        clear HHIT HMISS hq
        go_wp2_with fail
        refine (fail_calls s b _ 41 (by decide) _ ST'.out.rs).mono ?_
        rintro e w4 ⟨rfl, h4, hg4⟩
        have ST4 := Lib.hid (ST'.out.step hg4 h4)
        clear h4 hg4
        go_wp2_with fail
        go_roundw
        case rel => exact ⟨j + 1, by omega, by go_num, by rw [Hid, HD.out]; exact ST4.out⟩
        case measure => simp [intOf]; omega
      | false =>
        have hq2 : ((bs p.name).toList == v1.toList) = false := by rw [toList_bs, toList_L]; exact hq
        have HD := Lib.hid (HMISS.out hq)
        clear HHIT HMISS hq
        go_wp2_with fail
        go_roundw
        case rel => exact ⟨j + 1, by omega, by go_num, by rw [Hid, HD.out]; exact ST'.out⟩
        case measure => simp [intOf]; omega
    · have hjN : j = N := by omega
      subst hjN
      have t2 := ST.out.hX.cell 2
      have HDE := Lib.hid (fun y => dup_end (at_ := at_) (v := L v1) (x := x2) (y := y))
      rw [← HN.out] at HDE
      generalize dupS at_ j (L v1) x2 = x3 at *
      have HHS := Lib.hid hs
      have HB8 : Hid (j = at_.length) := HN.out
      by_cases h8 : j = 8
      · have hb8 : ((j : Int) == 8) = true := by rw [h8]; rfl
        have HX4 := Lib.hid (HDE.out (x3.fail 41) (by rw [if_pos h8]))
        clear HDE h8
        go_wp2_with fail
        refine (fail_calls s b x3 41 (by decide) _ ST.out.rs).mono ?_
        rintro e w4 ⟨rfl, h4, hg4⟩
        have ST4 := Lib.hid (ST.out.step hg4 h4)
        clear h4 hg4 ST t2 hb8
        generalize x3.fail 41 = x4 at *
        go_wp2_with fail
        refine (rneed_calls s b x4 34 _ ST4.out.rs HHS.out).mono ?_
        rintro e w5 ⟨rfl, h5, hg5⟩
        have ST5 := Lib.hid (ST4.out.step hg5 h5)
        clear h5 hg5 ST4
        generalize hx5 : x4.after (L s) (needF [34]) = x5 at *
        have HX5 := Lib.hid hx5
        clear hx5
        go_wp2_with fail
        refine (rvalue_calls s b x5 _ ST5.out.rs HHS.out).mono ?_
        rintro e w6 hp6
        obtain ⟨⟨v2, rfl, hv2, hn2⟩, h6, hg6⟩ := hp6
        have ST6 := Lib.hid (ST5.out.step hg6 h6)
        have HN2 := Lib.hid hn2
        clear h6 hg6 hn2 ST5
        generalize hx6 : x5.after (L s) (runF plainB) = x6 at *
        have HX6 := Lib.hid hx6
        clear hx6
        go_wp2_with fail
        refine (rneed_calls s b x6 34 _ ST6.out.rs HHS.out).mono ?_
        rintro e w7 ⟨rfl, h7, hg7⟩
        have ST7 := Lib.hid (ST6.out.step hg7 h7)
        clear h7 hg7 ST6
        generalize hx7 : x6.after (L s) (needF [34]) = x7 at *
        have HX7 := Lib.hid hx7
        clear hx7
        have HFIN := Lib.hid (attr_states (s := L s) (at_ := at_) HX1.out.symm HN1.out HX2.out.symm rfl (by rw [← HB8.out]; exact HX4.out) HX5.out.symm HX6.out.symm HN2.out HX7.out.symm (by rw [← HB8.out]; exact hat))
        clear HX1 HN1 HX2 HX4 HX5 HX6 HN2 HX7
        have t2 := ST7.out.hX.cell 2
        have HA := Lib.hid (attr_app ST7.out HB8.out hat v1 v2)
        have HST8 := Lib.hid (ST7.out.below ((Below.refl _ _).alloc (Nat.le_refl _) (.cells #[.string v1, .string v2] 130)))
        go_wp2_with (at_builtin; go_loud (refine HA.out.plain rfl _ _ _ rfl pairTy rfl rfl ?_); intro A9 c9 w9 hown hgr hor; go_loud (obtain ⟨hX6, hX7, hY7, hRS, hBE, hOW⟩ := attr_end (at2 := at_ ++ [⟨L v1, L v2⟩]) HST8.out (by rw [List.map_append]; exact hown) hgr hor (.int .i64 kd) (.string nm) (.slice A9 (j + 1) c9)); have HFN := Lib.hid (And.intro hRS (And.intro hBE hOW)); have d0 := hX6.frozen 2; have d1 := hX7.cell 0; have d2 := hX7.cell 1; have d3 := hX7.cell 2; have q0 := hY7.frozen 0; have q1 := hY7.frozen 1; have q2 := hY7.frozen 2; have HYF := Lib.hid (((hY7.set_ 0 (.int .i64 kd)).set_ 1 (.string nm)).set_ 2 (.slice A9 (j + 1) c9)); have d4 := hX6.cell 2; have q3 := hY7.cell 0; have q4 := hY7.cell 1; have q5 := hY7.cell 2; clear hown hgr hor hX6 hX7 hY7 hRS hBE hOW)
        have y0 := HYF.out.cell 0
        have y1 := HYF.out.cell 1
        have y2 := HYF.out.cell 2
        refine bodyPost_ret (v := .agg #[.int .i64 kd, .string nm, .slice A9 (j + 1) c9]) ?_ rfl ⟨⟨_, at_ ++ [Pair.mk (L v1) (L v2)], rfl, HFN.out.2.2, by rw [List.length_append]; rfl, fun k at3 r k' hx h => HFIN.out.2 k at3 r k' hx h⟩, ?_, HFN.out.2.1⟩
        · simp [results, Tryz.results153, go_sem, y0, y1, y2]
        · rw [← HFIN.out.1]; exact HFN.out.1
      · have hb8 : ((j : Int) == 8) = false := by rw [beq_eq_false_iff_ne]; omega
        have HX4 := Lib.hid (HDE.out x3 (by rw [if_neg h8]))
        clear HDE h8
        go_wp2_with fail
        refine (rneed_calls s b x3 34 _ ST.out.rs HHS.out).mono ?_
        rintro e w5 ⟨rfl, h5, hg5⟩
        have ST5 := Lib.hid (ST.out.step hg5 h5)
        clear h5 hg5 ST t2 hb8
        generalize hx5 : x3.after (L s) (needF [34]) = x5 at *
        have HX5 := Lib.hid hx5
        clear hx5
        go_wp2_with fail
        refine (rvalue_calls s b x5 _ ST5.out.rs HHS.out).mono ?_
        rintro e w6 hp6
        obtain ⟨⟨v2, rfl, hv2, hn2⟩, h6, hg6⟩ := hp6
        have ST6 := Lib.hid (ST5.out.step hg6 h6)
        have HN2 := Lib.hid hn2
        clear h6 hg6 hn2 ST5
        generalize hx6 : x5.after (L s) (runF plainB) = x6 at *
        have HX6 := Lib.hid hx6
        clear hx6
        go_wp2_with fail
        refine (rneed_calls s b x6 34 _ ST6.out.rs HHS.out).mono ?_
        rintro e w7 ⟨rfl, h7, hg7⟩
        have ST7 := Lib.hid (ST6.out.step hg7 h7)
        clear h7 hg7 ST6
        generalize hx7 : x6.after (L s) (needF [34]) = x7 at *
        have HX7 := Lib.hid hx7
        clear hx7
        have HFIN := Lib.hid (attr_states (s := L s) (at_ := at_) HX1.out.symm HN1.out HX2.out.symm rfl (by rw [← HB8.out]; exact HX4.out) HX5.out.symm HX6.out.symm HN2.out HX7.out.symm (by rw [← HB8.out]; exact hat))
        clear HX1 HN1 HX2 HX4 HX5 HX6 HN2 HX7
        have t2 := ST7.out.hX.cell 2
        have HA := Lib.hid (attr_app ST7.out HB8.out hat v1 v2)
        have HST8 := Lib.hid (ST7.out.below ((Below.refl _ _).alloc (Nat.le_refl _) (.cells #[.string v1, .string v2] 130)))
        go_wp2_with (at_builtin; go_loud (refine HA.out.plain rfl _ _ _ rfl pairTy rfl rfl ?_); intro A9 c9 w9 hown hgr hor; go_loud (obtain ⟨hX6, hX7, hY7, hRS, hBE, hOW⟩ := attr_end (at2 := at_ ++ [⟨L v1, L v2⟩]) HST8.out (by rw [List.map_append]; exact hown) hgr hor (.int .i64 kd) (.string nm) (.slice A9 (j + 1) c9)); have HFN := Lib.hid (And.intro hRS (And.intro hBE hOW)); have d0 := hX6.frozen 2; have d1 := hX7.cell 0; have d2 := hX7.cell 1; have d3 := hX7.cell 2; have q0 := hY7.frozen 0; have q1 := hY7.frozen 1; have q2 := hY7.frozen 2; have HYF := Lib.hid (((hY7.set_ 0 (.int .i64 kd)).set_ 1 (.string nm)).set_ 2 (.slice A9 (j + 1) c9)); have d4 := hX6.cell 2; have q3 := hY7.cell 0; have q4 := hY7.cell 1; have q5 := hY7.cell 2; clear hown hgr hor hX6 hX7 hY7 hRS hBE hOW)
        have y0 := HYF.out.cell 0
        have y1 := HYF.out.cell 1
        have y2 := HYF.out.cell 2
        refine bodyPost_ret (v := .agg #[.int .i64 kd, .string nm, .slice A9 (j + 1) c9]) ?_ rfl ⟨⟨_, at_ ++ [Pair.mk (L v1) (L v2)], rfl, HFN.out.2.2, by rw [List.length_append]; rfl, fun k at3 r k' hx h => HFIN.out.2 k at3 r k' hx h⟩, ?_, HFN.out.2.1⟩
        · simp [results, Tryz.results153, go_sem, y0, y1, y2]
        · rw [← HFIN.out.1]; exact HFN.out.1
end Go.Proofs.YtijpfcjlochahaaGreatDoor
namespace Go.Proofs.YtijpfcjlochahaaGreatDoor
set_option linter.unusedVariables false
set_option linter.unusedSimpArgs false
open Go Go.RowKit

/-! ### Plain: its states -/
theorem after_of_live {α : Type} {s : List UInt8} {x : Rs} {f : List UInt8 → Nat → Out α} (hk : ∀ k, Keeps s (f (s.drop k) k)) {k1 : Nat} (h : x.after s f = .go k1) : ∃ k a, x = .go k ∧ f (s.drop k) k = .ok a (s.drop k1) k1 := by
  cases x with
  | go k =>
    rw [Rs.after] at h
    cases ho : f (s.drop k) k with
    | ok a r k2 =>
      rw [ho] at h
      injection h with h
      subst h
      obtain rfl := hk k _ _ _ ho
      exact ⟨k, a, rfl, ho⟩
    | short => rw [ho] at h; cases h
    | bad e => rw [ho] at h; cases h
  | short => cases h
  | bad e => cases h
/-- A bind's state: where the first part is dead, it is that; else the second's. -/
theorem of_bind {α β : Type} {s : List UInt8} {k : Nat} {f : List UInt8 → Nat → Out α} {g : α → List UInt8 → Nat → Out β} (h : ((Rs.go k).after s f).live = false) : Rs.of ((f (s.drop k) k).bind g) = (Rs.go k).after s f := by
  rw [Rs.after] at h ⊢
  cases ho : f (s.drop k) k with
  | ok a r k2 => rw [ho] at h; cases h
  | short => rfl
  | bad e => rfl
theorem close_states {s : List UInt8} {x1 x2 x3 : Rs} {v1 : List UInt8} (h1 : x1 = (Rs.go 6).after s nameF) (n1 : ∀ k l r k', Rs.go 6 = .go k → nameF (s.drop k) k = .ok l r k' → v1 = l) (h2 : x2 = x1.after s (runF blankB)) (h3 : x3 = x2.after s (needF [62])) :
    x3 = Rs.of (refTagF true s) ∧ ∀ t r k, refTagF true s = .ok t r k → t = ⟨2, v1, []⟩ := by
  unfold refTagF
  rw [if_pos rfl]
  cases hl : x1.live with
  | false =>
    have h2' : x2 = x1 := by rw [h2, dead_after hl]
    have h3' : x3 = x1 := by rw [h3, h2', dead_after hl]
    have e := of_bind (g := fun nm r k => (runF blankB r k).bind fun _ r k => (needF [62] r k).bind fun _ r k => .ok (⟨2, nm, []⟩ : Token) r k) (by rw [← h1]; exact hl)
    refine ⟨by rw [h3', h1]; exact e.symm, fun t r k h => ?_⟩
    rw [h, ← h1] at e
    rw [← e] at hl
    cases hl
  | true =>
    obtain ⟨k1, rfl⟩ := live_go hl
    obtain ⟨k, l, hk, ho⟩ := after_of_live (nameF_keeps s) h1.symm
    injection hk with hk
    subst hk
    obtain rfl := n1 6 l _ _ rfl ho
    rw [ho]
    simp only [Out.bind]
    cases hl2 : x2.live with
    | false =>
      have h3' : x3 = x2 := by rw [h3, dead_after hl2]
      have e := of_bind (s := s) (k := k1) (f := runF blankB) (g := fun _ r k => (needF [62] r k).bind fun _ r k => .ok (⟨2, v1, []⟩ : Token) r k) (by rw [← h2]; exact hl2)
      refine ⟨by rw [h3', h2]; exact e.symm, fun t r k h => ?_⟩
      have h : Out.bind (runF blankB (s.drop k1) k1) (fun _ r k => (needF [62] r k).bind fun _ r k => .ok (⟨2, v1, []⟩ : Token) r k) = .ok t r k := h
      rw [h, ← h2] at e
      rw [← e] at hl2
      cases hl2
    | true =>
      obtain ⟨k2, rfl⟩ := live_go hl2
      obtain ⟨k, l, hk, ho2⟩ := after_of_live (fun k => runF_keeps blankB s _ k rfl) h2.symm
      injection hk with hk
      subst hk
      rw [ho2]
      simp only
      rw [Rs.after] at h3
      cases ho3 : needF [62] (s.drop k2) k2 with
      | ok u r k3 => rw [ho3] at h3; exact ⟨h3, fun t r k h => by injection h with h _ _; exact h.symm⟩
      | short => rw [ho3] at h3; exact ⟨h3, fun t r k h => by cases h⟩
      | bad e => rw [ho3] at h3; exact ⟨h3, fun t r k h => by cases h⟩
theorem open_start {s : List UInt8} {x1 : Rs} {v1 : List UInt8} (h1 : x1 = (Rs.go 5).after s nameF) (n1 : ∀ k l r k', Rs.go 5 = .go k → nameF (s.drop k) k = .ok l r k' → v1 = l) :
    (x1.live = false → Rs.of (refTagF false s) = x1) ∧ ∀ k1, x1 = .go k1 → refTagF false s = tagRest ((s.drop k1).length + 1) v1 [] (s.drop k1) k1 := by
  unfold refTagF
  rw [if_neg (by simp)]
  refine ⟨fun hl => ?_, fun k1 hk => ?_⟩
  · rw [of_bind (by rw [← h1]; exact hl), h1]
  · obtain ⟨k, l, hk2, ho⟩ := after_of_live (nameF_keeps s) (h1.symm.trans hk)
    injection hk2 with hk2
    subst hk2
    obtain rfl := n1 5 l _ _ rfl ho
    rw [ho]
    rfl
theorem rest_peek {s : List UInt8} {n : Nat} {nm : List UInt8} {at_ : List Pair} {k : Nat} {x1 x2 : Rs} {F : Out Token} (hF : F = tagRest (n + 1) nm at_ (s.drop k) k) (h1 : x1 = (Rs.go k).after s (runF blankB)) (h2 : x2 = x1.after s peekF) :
    (x2.live = false → Rs.of F = x2) ∧ ∀ k1, x2 = .go k1 → x1 = .go k1 ∧ ∃ gap, runF blankB (s.drop k) k = .ok gap (s.drop k1) k1 ∧ F = tagTail (fun at_ r k => tagRest n nm at_ r k) nm at_ gap (nextC s x1) (s.drop k1) k1 := by
  subst hF
  rw [tagRest]
  cases hl : x1.live with
  | false =>
    have h2' : x2 = x1 := by rw [h2, dead_after hl]
    refine ⟨fun _ => ?_, fun k1 hk => ?_⟩
    · rw [of_bind (by rw [← h1]; exact hl), h2', h1]
    · rw [h2'] at hk
      rw [hk] at hl
      cases hl
  | true =>
    obtain ⟨k2, rfl⟩ := live_go hl
    obtain ⟨k', gap, hk, ho⟩ := after_of_live (fun k => runF_keeps blankB s _ k rfl) h1.symm
    injection hk with hk
    subst hk
    rw [ho]
    simp only [Out.bind]
    refine ⟨fun hl2 => ?_, fun k1 hk => ?_⟩
    · have e := of_bind (s := s) (k := k2) (f := peekF) (g := fun c r k => tagTail (fun at_ r k => tagRest n nm at_ r k) nm at_ gap c r k) (by rw [← h2]; exact hl2)
      rw [h2]
      exact e
    · obtain ⟨k', c, hk2, ho2⟩ := after_of_live (peekF_keeps s) (h2.symm.trans hk)
      injection hk2 with hk2
      subst hk2
      obtain ⟨-, rfl, -, -⟩ := peekF_inv ho2
      refine ⟨rfl, gap, rfl, ?_⟩
      rw [nextC, ho2]
theorem attrF_pos {at_ at2 : List Pair} {r r' : List UInt8} {k k' : Nat} (h : attrF at_ r k = .ok at2 r' k') : k < k' ∧ at2.length ≤ 8 := by
  unfold attrF at h
  obtain ⟨a, r1, k1, h1, h2⟩ := Out.bind_ok h
  have p1 := nameF_pos h1
  obtain ⟨_, r3, k3, h3, h4⟩ := Out.bind_ok h2
  have p3 := needF_pos h3
  split at h4
  · cases h4
  · rename_i hd
    obtain ⟨_, r5, k5, h5, h6⟩ := Out.bind_ok h4
    have p5 := needF_pos h5
    obtain ⟨v, r7, k7, h7, h8⟩ := Out.bind_ok h6
    have p7 := runF_pos h7
    obtain ⟨_, r9, k9, h9, h10⟩ := Out.bind_ok h8
    have p9 := needF_pos h9
    injection h10 with e1 e2 e3
    subst e1 e3
    simp only [Bool.or_eq_true, decide_eq_true_eq, not_or] at hd
    rw [List.length_append, List.length_singleton]
    omega
theorem rest_attr {s : List UInt8} {n : Nat} {nm : List UInt8} {at_ at2 : List Pair} {k : Nat} {gap : List UInt8} {c : UInt8} {x5 : Rs} {F : Out Token} (hF : F = tagTail (fun at_ r k => tagRest n nm at_ r k) nm at_ gap c (s.drop k) k) (h62 : ¬ c = 62) (h47 : ¬ c = 47) (hg : ¬ gap = [])
    (h5 : x5 = (Rs.go k).after s (attrF at_)) (n5 : ∀ j at3 r k', Rs.go k = .go j → attrF at_ (s.drop j) j = .ok at3 r k' → at3 = at2) :
    (x5.live = false → Rs.of F = x5) ∧ ∀ k5, x5 = .go k5 → k < k5 ∧ at2.length ≤ 8 ∧ F = tagRest n nm at2 (s.drop k5) k5 := by
  subst hF
  rw [tagTail, if_neg h62, if_neg h47, if_neg hg, attr_tail]
  refine ⟨fun hl => ?_, fun k5 hk => ?_⟩
  · rw [of_bind (by rw [← h5]; exact hl), h5]
  · obtain ⟨k', at3, hk2, ho⟩ := after_of_live (attrF_keeps s at_) (h5.symm.trans hk)
    injection hk2 with hk2
    subst hk2
    obtain rfl := n5 k at3 _ _ rfl ho
    obtain ⟨p1, p2⟩ := attrF_pos ho
    rw [ho]
    exact ⟨p1, p2, rfl⟩

/-! ### Memory within Tag -/
structure TgSt (w W : World) (b : Nat) (s : ByteArray) (x : Rs) (Y T : Nat) (kd : Int) (nm : ByteArray) (va : Value) (at_ : List Pair) : Prop where
  rs : RsIn W b s x
  gr : w.grownBy W (some b)
  hY : Blk W Y 80 #[.int .i64 0, .string ⟨#[]⟩, .slice none 0 0]
  hT : Blk W T 80 #[.int .i64 kd, .string nm, va]
  own : OwnR W (T + 1) 130 2 (fun _ => False) va (at_.map Pair.gv)
  lb : b < w.heap.size
  lY : w.heap.size ≤ Y
  lT : Y < T
section
variable {w W W' : World} {b : Nat} {s : ByteArray} {x x' : Rs} {Y T : Nat} {kd : Int} {nm : ByteArray} {va : Value} {at_ : List Pair}
theorem TgSt.step (h : TgSt w W b s x Y T kd nm va at_) (hg : W.grownBy W' (some b)) (hr : RsIn W' b s x') : TgSt w W' b s x' Y T kd nm va at_ := by
  have h1 := h.lb
  have h2 := h.lY
  have h3 := h.lT
  exact ⟨hr, grown_trans h.gr hg, h.hY.grown hg (by simp; omega), h.hT.grown hg (by simp; omega), h.own.kept hg (.inr (h.own.ne (by omega))) (fun _ h => h.elim), h1, h2, h3⟩
/-- Its kind is stored. -/
theorem TgSt.kind (h : TgSt w W b s x Y T kd nm va at_) (kd' : Int) : TgSt w (W.setCell ⟨T, 0, none⟩ (.int .i64 kd')) b s x Y T kd' nm va at_ := by
  have h1 := h.lb
  have h2 := h.lY
  have h3 := h.lT
  have hg : W.grownBy (W.setCell ⟨T, 0, none⟩ (.int .i64 kd')) (some T) := grown_setCell (grown_refl _ _) (.inl rfl) _
  exact ⟨h.rs.grown hg (by simp; omega), grown_setCell h.gr (.inr (by show w.heap.size ≤ T; omega)) _, h.hY.grown hg (by simp; omega), h.hT.set_ 0 _, h.own.kept hg (.inr (h.own.ne (by omega))) (fun _ h => h.elim), h1, h2, h3⟩
/-- Another token is stored, whose attributes attr has made. -/
theorem TgSt.tok (h : TgSt w W b s x Y T kd nm va at_) (hb : Bes (T + 1) b W W') (hr : RsIn W' b s x') {va' : Value} {at2 : List Pair} (ho : OwnR W' (T + 1) 130 2 (fun _ => False) va' (at2.map Pair.gv)) :
    TgSt w (set3 W' T (.int .i64 kd) (.string nm) va') b s x' Y T kd nm va' at2 ∧ Blk W' T 80 #[.int .i64 kd, .string nm, va] := by
  have h1 := h.lb
  have h2 := h.lY
  have h3 := h.lT
  have hg : W'.grownBy (set3 W' T (.int .i64 kd) (.string nm) va') (some T) := set3_grown (grown_refl _ _) (.inl rfl) _ _ _
  have hT' : Blk W' T 80 #[.int .i64 kd, .string nm, va] := (hb.block T (by omega) (by omega)).trans h.hT
  have hY' : Blk W' Y 80 #[.int .i64 0, .string ⟨#[]⟩, .slice none 0 0] := (hb.block Y (by omega) (by omega)).trans h.hY
  have hlt := h.hT.lt
  have hgw : W.grownBy W' (some b) ∨ True := .inr trivial
  refine ⟨⟨hr.grown hg (by simp; omega), ?_, hY'.grown hg (by simp; omega), ?_, ho.kept hg (.inr (ho.ne (by omega))) (fun _ h => h.elim), h1, h2, h3⟩, hT'⟩
  · have g0 : w.grownBy W' (some b) := ⟨hb.os.trans h.gr.os, hb.tape.trans h.gr.tape, hb.output.trans h.gr.output, Nat.le_trans h.gr.size hb.size, fun i hi hne =>
      (hb.block i (by omega) (fun e => hne (by rw [e]))).trans (h.gr.block i hi hne)⟩
    exact set3_grown g0 (.inr (by omega)) _ _ _
  · exact ((hT'.set_ 0 _).set_ 1 _).set_ 2 _
/-- At the return. -/
theorem TgSt.ret (h : TgSt w W b s x Y T kd nm va at_) : w.grownBy (set3 W Y (.int .i64 kd) (.string nm) va) (some b) ∧ RsIn (set3 W Y (.int .i64 kd) (.string nm) va) b s x ∧
    GR (set3 W Y (.int .i64 kd) (.string nm) va) (fun g => w.heap.size ≤ g) (.row 2 (at_.map Pair.gv)) [va] ∧ Blk (set3 W Y (.int .i64 kd) (.string nm) va) Y 80 #[.int .i64 kd, .string nm, va] := by
  have h1 := h.lb
  have h2 := h.lY
  have h3 := h.lT
  have hg : W.grownBy (set3 W Y (.int .i64 kd) (.string nm) va) (some Y) := set3_grown (grown_refl _ _) (.inl rfl) _ _ _
  have ho := h.own.kept hg (.inr (h.own.ne (by omega))) (fun _ h => h.elim)
  refine ⟨set3_grown h.gr (.inr (by omega)) _ _ _, h.rs.grown hg (by simp; omega), ho.gr (fun _ h => h.elim) (fun k hk => ?_), ((h.hY.set_ 0 _).set_ 1 _).set_ 2 _⟩
  have := (ho.lt k hk).1
  omega
end
/-- What Tag leaves. -/
def TagRPost (b : Nat) (s : ByteArray) (w : World) (F : Out Token) (e : Ending) (w' : World) : Prop :=
  w.grownBy w' (some b) ∧ RsIn w' b s (Rs.of F) ∧ ∃ kd nm A n c, e = .returned (.agg #[.int .i64 kd, .string nm, .slice A n c]) ∧
    ∀ t r k, F = .ok t r k → kd = t.kind ∧ L nm = t.text ∧ GR w' (fun g => w.heap.size ≤ g) (.row 2 (t.attrs.map Pair.gv)) [.slice A n c]
/-- How far the reader has to go. -/
def rMeas (b n : Nat) (wr : World) : Nat :=
  match wr.cell? ⟨b, 2, none⟩, wr.cell? ⟨b, 3, none⟩, wr.cell? ⟨b, 1, none⟩ with
  | some (.int _ z), some (.bool sh), some (.int _ a) => if z = 0 ∧ sh = false then n + 1 - a.toNat else 0
  | _, _, _ => 0
theorem rMeas_go {w : World} {b : Nat} {s : ByteArray} {k n : Nat} (h : RsIn w b s (.go k)) : rMeas b n w = n + 1 - k := by
  obtain ⟨a, z, sh, hb, hi⟩ := h
  obtain ⟨hk, rfl, rfl, rfl⟩ := hi
  obtain ⟨⟨c0, c1, c2, c3⟩, f1, f2, f3⟩ := rblk hb
  rw [rMeas, c1, c2, c3]
  simp
theorem rMeas_dead {w : World} {b : Nat} {s : ByteArray} {x : Rs} {n : Nat} (h : RsIn w b s x) (hx : x.live = false) : rMeas b n w = 0 := by
  obtain ⟨a, z, sh, hb, hi⟩ := h
  obtain ⟨⟨c0, c1, c2, c3⟩, f1, f2, f3⟩ := rblk hb
  rw [rMeas, c1, c2, c3]
  cases x with
  | go k => cases hx
  | short =>
    obtain ⟨rfl, rfl⟩ := hi
    simp
  | bad e =>
    obtain ⟨rfl, hz, rfl⟩ := hi
    simp [hz]
end Go.Proofs.YtijpfcjlochahaaGreatDoor
namespace Go.Proofs.YtijpfcjlochahaaGreatDoor
set_option linter.unusedVariables false
set_option linter.unusedSimpArgs false
open Go Go.RowKit

theorem TgSt.start {w w1 w2 : World} {b : Nat} {s : ByteArray} {x : Rs} (kd : Int) (v1 : ByteArray) (hb1 : b < w.heap.size) (g1 : w.grownBy w1 (some b)) (hY : Blk w1 w.heap.size 80 #[.int .i64 0, .string ⟨#[]⟩, .slice none 0 0]) (hg : w1.grownBy w2 (some b)) (hr : RsIn w2 b s x) :
    TgSt w (w2.alloc (.cells #[.int .i64 kd, .string v1, .slice none 0 0] 80)) b s x w.heap.size w2.heap.size kd v1 (.slice none 0 0) [] := by
  have h1 := hY.lt
  have h2 := hg.size
  exact ⟨hr.below ((Below.refl _ _).alloc (Nat.le_refl _) _), grown_alloc (grown_trans g1 hg) _, (hY.grown hg (by simp; omega)).alloc _, Blk.new _ _ _, OwnR.nil _ _ _ _ _, hb1, Nat.le_refl _, by omega⟩
theorem RsIn.size {w : World} {b : Nat} {s : ByteArray} {k : Nat} (h : RsIn w b s (.go k)) : k ≤ s.size := by
  obtain ⟨_, _, _, _, hi⟩ := h
  exact hi.1
theorem need_at {s : List UInt8} {k : Nat} {c : UInt8} (h : (Rs.go k).after s peekF = .go k) (hc : nextC s (.go k) = c) : (Rs.go k).after s (needF [c]) = .go (k + 1) := by
  rw [need_state, h]
  simp only [hc, if_true]
theorem of_ok {α β : Type} (o : Out α) (a : β) : Rs.of (o.bind fun _ r k => .ok a r k) = Rs.of o := by cases o <;> rfl
theorem of_live {α : Type} {F : Out α} {t : α} {r : List UInt8} {k : Nat} {x : Rs} (hF : Rs.of F = x) (hl : x.live = false) (h : F = .ok t r k) : False := by
  rw [h] at hF
  rw [← hF] at hl
  cases hl
set_option maxRecDepth 20000 in
set_option maxHeartbeats 4000000 in
theorem rtag_close (s : ByteArray) (b : Nat) (w : World) (h : RsIn w b s (.go 0)) (hs : s.size ≤ 10000000) (h6 : 6 ≤ s.size) :
    Calls Tryz.prog 89 #[.pointer (some ⟨b, 0, none⟩), .bool true] w (TagRPost b s w (refTagF true (L s))) := by
  have hlt := h.lt
  obtain ⟨a, z, sh, hb, hi⟩ := h
  obtain ⟨-, rfl, rfl, rfl⟩ := hi
  have hbA := rset1 hb 5
  have hbB := rset1 hbA 6
  have hbC := hbB.alloc (.cells #[.int .i64 0, .string ⟨#[]⟩, .slice none 0 0] 80)
  have HRS : Hid (RsIn _ b s (.go 6)) := ⟨_, _, _, hbC, h6, rfl, rfl, rfl⟩
  have hY0 := Blk.new ((w.setCell ⟨b, 1, none⟩ (.int .i64 5)).setCell ⟨b, 1, none⟩ (.int .i64 6)) 80 #[.int .i64 0, .string ⟨#[]⟩, .slice none 0 0]
  rw [show ((w.setCell ⟨b, 1, none⟩ (.int .i64 5)).setCell ⟨b, 1, none⟩ (.int .i64 6)).heap.size = w.heap.size by simp [World.setCell]] at hY0
  have HY0 := Lib.hid hY0
  have HG0 := Lib.hid (grown_alloc (grown_setCell (grown_setCell (grown_refl w (some b)) (p := ⟨b, 1, none⟩) (.inl rfl) (.int .i64 5)) (p := ⟨b, 1, none⟩) (.inl rfl) (.int .i64 6)) (.cells #[.int .i64 0, .string ⟨#[]⟩, .slice none 0 0] 80))
  obtain ⟨⟨c0, c1, c2, c3⟩, f1, f2, f3⟩ := rblk hb
  obtain ⟨⟨d0, d1, d2, d3⟩, e1, e2, e3⟩ := rblk hbA
  clear hb hbA hbB hbC hY0
  go_enter Tryz.func89, Tryz.ntmps89
  go_wp2_with fail
  refine (rname_calls s b _ _ HRS.out hs).mono ?_
  rintro e w1 hp1
  obtain ⟨⟨v1, rfl, hv1, hn1⟩, h1, hg1⟩ := hp1
  have ST1 := Lib.hid (TgSt.start 1 v1 hlt HG0.out HY0.out hg1 h1)
  have ST2 := Lib.hid (TgSt.start 2 v1 hlt HG0.out HY0.out hg1 h1)
  have HN1 := Lib.hid hn1
  generalize hx1 : (Rs.go 6).after (L s) nameF = x1 at *
  have HX1 := Lib.hid hx1
  clear h1 hg1 hn1 hx1 HG0 HY0 HRS c0 c1 c2 c3 f1 f2 f3 d0 d1 d2 d3 e1 e2 e3
  have t0 := ST1.out.hT.cell 0
  have t1 := ST1.out.hT.cell 1
  have t2 := ST1.out.hT.cell 2
  have t3 := ST1.out.hT.frozen 0
  go_wp2_with fail
  refine (rblanks_calls s b x1 _ ST2.out.rs hs).mono ?_
  rintro e w2 hp2
  obtain ⟨⟨n2, rfl, -, -⟩, h2, hg2⟩ := hp2
  have ST3 := Lib.hid (ST2.out.step hg2 h2)
  generalize hx2 : x1.after (L s) (runF blankB) = x2 at *
  have HX2 := Lib.hid hx2
  clear h2 hg2 hx2 ST1 ST2 t0 t1 t2 t3
  go_wp2_with fail
  refine (rneed_calls s b x2 62 _ ST3.out.rs hs).mono ?_
  rintro e w3 ⟨rfl, h3, hg3⟩
  have ST4 := Lib.hid (ST3.out.step hg3 h3)
  generalize hx3 : x2.after (L s) (needF [62]) = x3 at *
  have HX3 := Lib.hid hx3
  clear h3 hg3 hx3 ST3
  have HFIN := Lib.hid (close_states HX1.out.symm HN1.out HX2.out.symm HX3.out.symm)
  clear HX1 HN1 HX2 HX3
  have t0 := ST4.out.hT.cell 0
  have t1 := ST4.out.hT.cell 1
  have t2 := ST4.out.hT.cell 2
  have q0 := ST4.out.hY.cell 0
  have q1 := ST4.out.hY.cell 1
  have q2 := ST4.out.hY.cell 2
  have z0 := ST4.out.hY.frozen 0
  have z1 := ST4.out.hY.frozen 1
  have z2 := ST4.out.hY.frozen 2
  go_wp2_with fail
  obtain ⟨g1, g2, g3, g4⟩ := ST4.out.ret
  refine bodyPost_ret (v := .agg #[.int .i64 2, .string v1, .slice none 0 0]) (by simp [results, Tryz.results89, go_sem, q0, q1, q2]) rfl ⟨g1, by rw [← HFIN.out.1]; exact g2, _, _, _, _, _, rfl, fun t r k h => ?_⟩
  obtain rfl := HFIN.out.2 t r k h
  exact ⟨rfl, rfl, g3⟩
set_option maxRecDepth 20000 in
set_option maxHeartbeats 4000000 in
theorem rtag_open (s : ByteArray) (b : Nat) (w : World) (h : RsIn w b s (.go 0)) (hs : s.size ≤ 10000000) (h5 : 5 ≤ s.size) :
    Calls Tryz.prog 89 #[.pointer (some ⟨b, 0, none⟩), .bool false] w (TagRPost b s w (refTagF false (L s))) := by
  have hlt := h.lt
  obtain ⟨a, z, sh, hb, hi⟩ := h
  obtain ⟨-, rfl, rfl, rfl⟩ := hi
  have hbA := rset1 hb 5
  have hbC := hbA.alloc (.cells #[.int .i64 0, .string ⟨#[]⟩, .slice none 0 0] 80)
  have HRS : Hid (RsIn _ b s (.go 5)) := ⟨_, _, _, hbC, h5, rfl, rfl, rfl⟩
  have hY0 := Blk.new (w.setCell ⟨b, 1, none⟩ (.int .i64 5)) 80 #[.int .i64 0, .string ⟨#[]⟩, .slice none 0 0]
  rw [show (w.setCell ⟨b, 1, none⟩ (.int .i64 5)).heap.size = w.heap.size by simp [World.setCell]] at hY0
  have HY0 := Lib.hid hY0
  have HG0 := Lib.hid (grown_alloc (grown_setCell (grown_refl w (some b)) (p := ⟨b, 1, none⟩) (.inl rfl) (.int .i64 5)) (.cells #[.int .i64 0, .string ⟨#[]⟩, .slice none 0 0] 80))
  obtain ⟨⟨c0, c1, c2, c3⟩, f1, f2, f3⟩ := rblk hb
  clear hb hbA hbC hY0
  generalize hF : refTagF false (L s) = F
  have HFD := Lib.hid hF
  clear hF
  go_enter Tryz.func89, Tryz.ntmps89
  go_wp2_with fail
  refine (rname_calls s b _ _ HRS.out hs).mono ?_
  rintro e w1 hp1
  obtain ⟨⟨v1, rfl, hv1, hn1⟩, h1, hg1⟩ := hp1
  have ST1 := Lib.hid (TgSt.start 1 v1 hlt HG0.out HY0.out hg1 h1)
  have HOS := Lib.hid (open_start (s := L s) rfl hn1)
  rw [HFD.out] at HOS
  generalize (Rs.go 5).after (L s) nameF = x1 at *
  have HSZ : Hid (∀ k1, x1 = .go k1 → k1 ≤ s.size) := fun k1 hk => by subst hk; exact h1.size
  clear h1 hg1 hn1 HG0 HY0 HRS c0 c1 c2 c3 f1 f2 f3 HFD
  go_wp2_with fail
  generalize hYY : w.heap.size = Y at *
  generalize hTT : w1.heap.size = T at *
  go_loopw [] (fun wr => ∃ (x : Rs) (va : Value) (at_ : List Pair), Hid (TgSt w wr b s x Y T 1 v1 va at_) ∧
      ((x.live = false ∧ Hid (Rs.of F = x)) ∨ ∃ n k, x = .go k ∧ Hid (F = tagRest n (L v1) at_ ((L s).drop k) k) ∧ s.size + 1 ≤ n + k ∧ k ≤ s.size ∧ at_.length ≤ 8))
     (fun wr => rMeas b s.size wr)
  case atStart =>
    refine ⟨x1, _, [], ST1.out, ?_⟩
    cases hl : x1.live with
    | false => exact .inl ⟨rfl, HOS.out.1 hl⟩
    | true =>
      obtain ⟨k1, rfl⟩ := live_go hl
      have hk := HSZ.out k1 rfl
      exact .inr ⟨_, k1, rfl, HOS.out.2 k1 rfl, by rw [List.length_drop, ← size_L]; omega, hk, by simp⟩
  case round =>
    clear ST1 HOS HSZ hYY hTT
    obtain ⟨x, va, at_, ST, hx⟩ := hrel
    obtain ⟨A, ca, hva⟩ := ST.out.own.form
    subst hva
    rw [List.length_map] at ST
    obtain ⟨N, hN⟩ : ∃ N, N = at_.length := ⟨_, rfl⟩
    rw [← hN] at ST hx
    have HN := Lib.hid hN
    clear hN
    rcases hx with ⟨hl, HF⟩ | ⟨n, k, rfl, HF, hn, hk, hat⟩
    · go_wp2_with fail
      refine (goes_calls s b x wr ST.out.rs).mono ?_
      rintro e w3 ⟨rfl, rfl⟩
      have t0 := ST.out.hT.cell 0
      have t1 := ST.out.hT.cell 1
      have t2 := ST.out.hT.cell 2
      have q0 := ST.out.hY.cell 0
      have q1 := ST.out.hY.cell 1
      have q2 := ST.out.hY.cell 2
      have z0 := ST.out.hY.frozen 0
      have z1 := ST.out.hY.frozen 1
      have z2 := ST.out.hY.frozen 2
      go_wp2_with fail
      obtain ⟨g1, g2, g3, g4⟩ := ST.out.ret
      refine bodyPost_ret (v := .agg #[.int .i64 1, .string v1, .slice A N ca]) (by simp [results, Tryz.results89, go_sem, q0, q1, q2]) rfl ⟨g1, by rw [HF.out]; exact g2, _, _, _, _, _, rfl, fun t r k h => ?_⟩
      exact (of_live HF.out hl h).elim
    · have HM : Hid (rMeas b s.size wr = s.size + 1 - k) := rMeas_go ST.out.rs
      have HKN := Lib.hid (And.intro hn hk)
      obtain ⟨n, rfl⟩ : ∃ n', n = n' + 1 := ⟨n - 1, by omega⟩
      have hlive : (Rs.go k).live = true := rfl
      clear hn hk
      go_wp2_with fail
      refine (goes_calls s b _ wr ST.out.rs).mono ?_
      rintro e w3 ⟨rfl, rfl⟩
      go_wp2_with fail
      refine (rblanks_calls s b _ wr ST.out.rs hs).mono ?_
      rintro e w4 hp4
      obtain ⟨⟨m, rfl, hm, hnm⟩, h4, hg4⟩ := hp4
      have ST4 := Lib.hid (ST.out.step hg4 h4)
      clear h4 hg4 ST hlive
      go_wp2_with fail
      refine (next_calls s b _ w4 ST4.out.rs hs).mono ?_
      rintro e w5 ⟨rfl, h5', hg5⟩
      have ST5 := Lib.hid (ST4.out.step hg5 h5')
      have HRP := Lib.hid (rest_peek HF.out rfl rfl)
      have HNM := Lib.hid hnm
      generalize (Rs.go k).after (L s) (runF blankB) = x4 at *
      generalize hX5 : x4.after (L s) peekF = x5 at *
      have HX5 := Lib.hid hX5
      clear h5' hg5 ST4 hnm hX5
      generalize hC : nextC (L s) x4 = c at *
      have HC := Lib.hid hC
      clear hC
      cases hl5 : x5.live with
      | false =>
        have HOF := Lib.hid (HRP.out.1 hl5)
        have HL5 := Lib.hid hl5
        have HFA : Hid (x5.fail 40 = x5) := dead_fail hl5 40
        clear HRP HNM
        go_wp2_with fail
        refine (goes_calls s b x5 w5 ST5.out.rs).mono ?_
        rintro e w6 ⟨rfl, rfl⟩
        go_wp2_with fail
        refine (goes_calls s b x5 w5 ST5.out.rs).mono ?_
        rintro e w6 ⟨rfl, rfl⟩
        by_cases hm0 : m = 0
        · have hmb : ((m : Int) == 0) = true := by rw [hm0]; rfl
          clear hm0
          go_wp2_with fail
          refine (fail_calls s b x5 40 (by decide) w5 ST5.out.rs).mono ?_
          rintro e w7 ⟨rfl, h7, hg7⟩
          rw [HFA.out] at h7
          have ST7 := Lib.hid (ST5.out.step hg7 h7)
          clear h7 hg7 ST5 hmb
          go_wp2_with fail
          refine (goes_calls s b x5 w7 ST7.out.rs).mono ?_
          rintro e w8 ⟨rfl, rfl⟩
          go_wp2_with fail
          go_roundw
          case rel => exact ⟨x5, _, at_, ST7.out, .inl ⟨HL5.out, HOF.out⟩⟩
          case measure => rw [HM.out, rMeas_dead ST7.out.rs HL5.out]; have := HKN.out; omega
        · have hmb : ((m : Int) == 0) = false := by rw [beq_eq_false_iff_ne]; omega
          clear hm0
          go_wp2_with fail
          refine (goes_calls s b x5 w5 ST5.out.rs).mono ?_
          rintro e w8 ⟨rfl, rfl⟩
          go_wp2_with fail
          go_roundw
          case rel => exact ⟨x5, _, at_, ST5.out, .inl ⟨HL5.out, HOF.out⟩⟩
          case measure => rw [HM.out, rMeas_dead ST5.out.rs HL5.out]; have := HKN.out; omega
      | true =>
        obtain ⟨k1, rfl⟩ := live_go hl5
        obtain ⟨h41, gap, hgap, hFt⟩ := HRP.out.2 k1 rfl
        have HFT := Lib.hid hFt
        have hmg : m = gap.length := HNM.out k gap _ k1 rfl hgap
        have HKK : Hid (k ≤ k1) := by have := runF_pos hgap; rw [Hid]; omega
        have HX5' : Hid ((Rs.go k1).after (L s) peekF = .go k1) := by have h := HX5.out; rw [h41] at h; exact h
        have HC' : Hid (nextC (L s) (.go k1) = c) := by have h := HC.out; rw [h41] at h; exact h
        have HMG := Lib.hid hmg
        clear HRP HNM hgap hFt h41 HX5 HC hmg hl5
        have hlive : (Rs.go k1).live = true := rfl
        by_cases hc : c = 62
        · have hcb : ((c.toNat : Int) == 62) = true := by rw [hc]; rfl
          have HND : Hid ((Rs.go k1).after (L s) (needF [62]) = .go (k1 + 1)) := need_at HX5'.out (by rw [HC'.out]; exact hc)
          have HF2 : Hid (F = .ok ⟨1, L v1, at_⟩ ((L s).drop (k1 + 1)) (k1 + 1)) := by rw [Hid, HFT.out, tagTail, if_pos hc, List.tail_drop]
          clear HFT hc
          go_wp2_with fail
          refine (goes_calls s b _ w5 ST5.out.rs).mono ?_
          rintro e w6 ⟨rfl, rfl⟩
          go_wp2_with fail
          refine (rneed_calls s b _ 62 w5 ST5.out.rs hs).mono ?_
          rintro e w7 ⟨rfl, h7, hg7⟩
          rw [HND.out] at h7
          have ST7 := Lib.hid (ST5.out.step hg7 h7)
          clear h7 hg7 ST5 hcb hlive
          have t0 := ST7.out.hT.cell 0
          have t1 := ST7.out.hT.cell 1
          have t2 := ST7.out.hT.cell 2
          have q0 := ST7.out.hY.cell 0
          have q1 := ST7.out.hY.cell 1
          have q2 := ST7.out.hY.cell 2
          have z0 := ST7.out.hY.frozen 0
          have z1 := ST7.out.hY.frozen 1
          have z2 := ST7.out.hY.frozen 2
          go_wp2_with fail
          obtain ⟨g1, g2, g3, g4⟩ := ST7.out.ret
          refine bodyPost_ret (v := .agg #[.int .i64 1, .string v1, .slice A N ca]) (by simp [results, Tryz.results89, go_sem, q0, q1, q2]) rfl ⟨g1, by rw [HF2.out]; exact g2, _, _, _, _, _, rfl, fun t r k h => ?_⟩
          rw [HF2.out] at h
          injection h with h _ _
          subst h
          exact ⟨rfl, rfl, g3⟩
        · have hcb : ((c.toNat : Int) == 62) = false := by rw [beq_eq_false_iff_ne]; exact fun e => hc ((u8_eq c 62).2 e)
          have HC62 := Lib.hid hc
          clear hc
          go_wp2_with fail
          refine (goes_calls s b _ w5 ST5.out.rs).mono ?_
          rintro e w6 ⟨rfl, rfl⟩
          go_wp2_with fail
          refine (goes_calls s b _ w5 ST5.out.rs).mono ?_
          rintro e w6 ⟨rfl, rfl⟩
          by_cases hc : c = 47
          · have hcb2 : ((c.toNat : Int) == 47) = true := by rw [hc]; rfl
            have HND : Hid ((Rs.go k1).after (L s) (needF [47]) = .go (k1 + 1)) := need_at HX5'.out (by rw [HC'.out]; exact hc)
            have HF2 : Hid (F = (needF [62] ((L s).drop (k1 + 1)) (k1 + 1)).bind fun _ r k => .ok ⟨3, L v1, at_⟩ r k) := by rw [Hid, HFT.out, tagTail, if_neg HC62.out, if_pos hc, List.tail_drop]
            clear HFT hc
            have ST6 := Lib.hid (ST5.out.kind 3)
            have p0 := ST5.out.hT.cell 0
            have p1 := ST5.out.hT.frozen 0
            go_wp2_with fail
            refine (rneed_calls s b _ 47 _ ST6.out.rs hs).mono ?_
            rintro e w7 ⟨rfl, h7, hg7⟩
            rw [HND.out] at h7
            have ST7 := Lib.hid (ST6.out.step hg7 h7)
            clear h7 hg7 ST5 ST6 hcb hcb2 hlive p0 p1
            go_wp2_with fail
            refine (rneed_calls s b _ 62 _ ST7.out.rs hs).mono ?_
            rintro e w8 ⟨rfl, h8, hg8⟩
            have ST8 := Lib.hid (ST7.out.step hg8 h8)
            clear h8 hg8 ST7
            have t0 := ST8.out.hT.cell 0
            have t1 := ST8.out.hT.cell 1
            have t2 := ST8.out.hT.cell 2
            have q0 := ST8.out.hY.cell 0
            have q1 := ST8.out.hY.cell 1
            have q2 := ST8.out.hY.cell 2
            have z0 := ST8.out.hY.frozen 0
            have z1 := ST8.out.hY.frozen 1
            have z2 := ST8.out.hY.frozen 2
            go_wp2_with fail
            obtain ⟨g1, g2, g3, g4⟩ := ST8.out.ret
            refine bodyPost_ret (v := .agg #[.int .i64 3, .string v1, .slice A N ca]) (by simp [results, Tryz.results89, go_sem, q0, q1, q2]) rfl ⟨g1, by rw [HF2.out, of_ok]; exact g2, _, _, _, _, _, rfl, fun t r k h => ?_⟩
            rw [HF2.out] at h
            obtain ⟨_, _, _, _, h⟩ := Out.bind_ok h
            injection h with h _ _
            subst h
            exact ⟨rfl, rfl, g3⟩
          · have hcb2 : ((c.toNat : Int) == 47) = false := by rw [beq_eq_false_iff_ne]; exact fun e => hc ((u8_eq c 47).2 e)
            have HC47 := Lib.hid hc
            clear hc
            by_cases hm0 : m = 0
            · have hmb : ((m : Int) == 0) = true := by rw [hm0]; rfl
              have HF2 : Hid (F = .bad 40) := by rw [Hid, HFT.out, tagTail, if_neg HC62.out, if_neg HC47.out, if_pos (List.eq_nil_of_length_eq_zero (by rw [← HMG.out]; exact hm0))]
              have hdead : (Rs.bad 40).live = false := rfl
              clear hm0 HFT
              go_wp2_with fail
              refine (fail_calls s b _ 40 (by decide) w5 ST5.out.rs).mono ?_
              rintro e w7 ⟨rfl, h7, hg7⟩
              have h7 : RsIn w7 b s (.bad 40) := h7
              have ST7 := Lib.hid (ST5.out.step hg7 h7)
              clear h7 hg7 ST5 hmb hcb hcb2 hlive
              go_wp2_with fail
              refine (goes_calls s b _ w7 ST7.out.rs).mono ?_
              rintro e w8 ⟨rfl, rfl⟩
              go_wp2_with fail
              go_roundw
              case rel => exact ⟨_, _, at_, ST7.out, .inl ⟨rfl, by rw [Hid, HF2.out]; rfl⟩⟩
              case measure => rw [HM.out, rMeas_dead ST7.out.rs rfl]; have := HKN.out; omega
            · have hmb : ((m : Int) == 0) = false := by rw [beq_eq_false_iff_ne]; omega
              have HGN : Hid (¬ gap = []) := fun e => hm0 (by rw [HMG.out, e]; rfl)
              clear hm0
              go_wp2_with fail
              refine (goes_calls s b _ w5 ST5.out.rs).mono ?_
              rintro e w6 ⟨rfl, rfl⟩
              have p0 := ST5.out.hT.cell 0
              have p1 := ST5.out.hT.cell 1
              have p2 := ST5.out.hT.cell 2
              have hat8 : at_.length ≤ 8 := by rw [← HN.out]; exact hat
              have hTl := ST5.out.hT.lt
              have hbT : b < T + 1 := by have := ST5.out.lb; have := ST5.out.lY; have := ST5.out.lT; omega
              go_wp2_with fail
              refine (attr_calls s (T + 1) b _ 1 v1 _ at_ w5 ST5.out.rs ST5.out.own hbT hTl hs hat8).mono ?_
              rintro e w9 hp9
              obtain ⟨⟨va9, at9, rfl, ho9, -, hn9⟩, h9, hb9⟩ := hp9
              obtain ⟨A9, c9, hv9⟩ := ho9.form
              rw [List.length_map] at hv9
              subst hv9
              obtain ⟨st10, hT9⟩ := ST5.out.tok hb9 h9 ho9
              have ST10 := Lib.hid st10
              have HRA := Lib.hid (rest_attr HFT.out HC62.out HC47.out HGN.out rfl hn9)
              generalize (Rs.go k1).after (L s) (attrF at_) = x9 at *
              have r0 := hT9.cell 0
              have r1 := hT9.cell 1
              have r2 := hT9.cell 2
              have f0 := hT9.frozen 0
              have f1 := hT9.frozen 1
              have f2 := hT9.frozen 2
              clear st10 hT9 h9 hb9 ho9 hn9 p0 p1 p2 hTl hbT hat8 ST5 hmb hcb hcb2 hlive
              go_wp2_with fail
              go_roundw
              case rel =>
                refine ⟨x9, _, at9, ST10.out, ?_⟩
                cases hl : x9.live with
                | false => exact .inl ⟨rfl, HRA.out.1 hl⟩
                | true =>
                  obtain ⟨k5, rfl⟩ := live_go hl
                  obtain ⟨q1, q2, q3⟩ := HRA.out.2 k5 rfl
                  have := HKN.out
                  have := HKK.out
                  exact .inr ⟨n, k5, rfl, q3, by omega, ST10.out.rs.size, q2⟩
              case measure =>
                rw [HM.out]
                have h1 := HKN.out
                have h2 := HKK.out
                show rMeas b s.size (set3 w9 T (.int .i64 1) (.string v1) (.slice A9 at9.length c9)) < _
                cases hl : x9.live with
                | false => rw [rMeas_dead ST10.out.rs hl]; omega
                | true =>
                  obtain ⟨k5, rfl⟩ := live_go hl
                  obtain ⟨q1, q2, q3⟩ := HRA.out.2 k5 rfl
                  have := ST10.out.rs.size
                  rw [rMeas_go ST10.out.rs]
                  omega
end Go.Proofs.YtijpfcjlochahaaGreatDoor
