/- The walks of lex's tags: IndexFunc, ContainsFunc, tag, cut. -/
import Derived.Test.YtijpfcjlochahaaGreatDoorLexA
set_option linter.unusedVariables false
set_option linter.unusedSimpArgs false
namespace Go.Proofs.YtijpfcjlochahaaGreatDoor
open Go Go.RowKit

theorem size_alloc (w : World) (o : Obj) : (w.alloc o).heap.size = w.heap.size + 1 := by simp
theorem bcell {W w1 : World} (hb : Below W.heap.size W w1) : (∀ b o, b < W.heap.size → w1.cell? ⟨b, o, none⟩ = W.cell? ⟨b, o, none⟩) ∧ (∀ b o, b < W.heap.size → w1.frozen? ⟨b, o, none⟩ = W.frozen? ⟨b, o, none⟩) :=
  ⟨fun b o h => hb.cell (p := ⟨b, o, none⟩) h, fun b o h => hb.frozen (p := ⟨b, o, none⟩) h⟩

set_option maxRecDepth 20000 in
set_option maxHeartbeats 1000000 in
theorem tagfn_calls (x y nm : ByteArray) (pb : Nat) (w : World) (h : w.cell? ⟨pb, 0, none⟩ = some (.string nm)) :
    Calls Tryz.prog 102 #[.agg #[.string x, .string y], .pointer (some ⟨pb, 0, none⟩)] w fun e w' => e = .returned (.bool (x.toList == nm.toList)) ∧ Below w.heap.size w w' := by
  have hlt : pb < w.heap.size := World.block_lt_of_cell? w _ h
  go_enter Tryz.func102, Tryz.ntmps102
  go_wp2_with fail
  go_ret
  exact ⟨rfl, (Below.refl _ _).alloc (Nat.le_refl _) _⟩

set_option maxRecDepth 20000 in
set_option maxHeartbeats 1000000 in
theorem indexPairs_calls (l : List Pair) (v : Value) (F : Nat → Prop) (nm : ByteArray) (pb : Nat) (w : World) (h : w.cell? ⟨pb, 0, none⟩ = some (.string nm)) (hv : GR w F (.row 2 (l.map Pair.gv)) [v]) (hl : l.length ≤ 100000) :
    Calls Tryz.prog 121 #[v, .func (.func 102) #[] #[.pointer (some ⟨pb, 0, none⟩)]] w
      fun e w' => (∃ z : Int, -1 ≤ z ∧ e = .returned (.int .i64 z) ∧ decide (0 ≤ z) = l.any (fun x => x.name == L nm)) ∧ Below w.heap.size w w' := by
  obtain ⟨A, c, rfl, hlc, hcm, hop⟩ := pairs_open hv
  have HV := Lib.hid hv
  have HOP := Lib.hid hop
  clear hop hv hcm
  go_enter Tryz.func121, Tryz.ntmps121
  go_wp2_with fail
  go_loopw [5, 8] (fun _ i wr => ∃ k : Nat, k ≤ l.length ∧ i = .int .i64 k ∧ Below w.heap.size w wr ∧ Hid ((l.take k).any (fun x => x.name == L nm) = false))
     (fun _ i wr => l.length - (intOf i).toNat)
  case atStart => exact ⟨0, Nat.zero_le _, rfl, Below.refl _ _, by rw [List.take_zero]; rfl⟩
  case round =>
    obtain ⟨k, hk, rfl, hb, HA⟩ := hrel
    by_cases hlt : k < l.length
    · obtain ⟨b, o, rfl, _, hop⟩ := HOP.out (by rintro rfl; simp at hlt)
      obtain ⟨c0, c1⟩ := hop k hlt
      have e0 := hb.cell (World.block_lt_of_cell? w _ c0) |>.trans c0
      have e1 := hb.cell (World.block_lt_of_cell? w _ c1) |>.trans c1
      have e2 := hb.cell (World.block_lt_of_cell? w _ h) |>.trans h
      clear c0 c1 hop
      go_wp2_with fail
      refine (tagfn_calls _ _ nm pb wr e2).mono ?_
      rintro e w' ⟨rfl, hb2⟩
      go_wp2_with fail
      · have ht : ((bs l[k].name).toList == nm.toList) = true := by assumption
        go_ret
        refine ⟨⟨k, by omega, rfl, ?_⟩, hb.trans (hb2.mono hb.size)⟩
        rw [decide_eq_true (by omega)]
        refine (List.any_eq_true.2 ⟨l[k], List.getElem_mem hlt, ?_⟩).symm
        rw [toList_bs, toList_L] at ht
        exact ht
      · have ht : ((bs l[k].name).toList == nm.toList) = false := by assumption
        go_roundw
        case rel =>
          refine ⟨k + 1, by omega, by go_num, hb.trans (hb2.mono hb.size), ?_⟩
          have e := HA.out
          rw [toList_bs, toList_L] at ht
          show (l.take (k + 1)).any (fun x => x.name == L nm) = false
          rw [List.take_succ_eq_append_getElem hlt, List.any_append, e]
          simp [ht]
        case measure => simp [intOf]; omega
    · go_wp2_with fail
      go_ret
      refine ⟨⟨-1, by omega, rfl, ?_⟩, hb⟩
      have e := HA.out
      rw [List.take_of_length_le (by omega)] at e
      rw [e]; rfl

set_option maxRecDepth 20000 in
set_option maxHeartbeats 1000000 in
theorem containsPairs_calls (l : List Pair) (v : Value) (F : Nat → Prop) (nm : ByteArray) (pb : Nat) (w : World) (h : w.cell? ⟨pb, 0, none⟩ = some (.string nm)) (hv : GR w F (.row 2 (l.map Pair.gv)) [v]) (hl : l.length ≤ 100000) :
    Calls Tryz.prog 70 #[v, .func (.func 102) #[] #[.pointer (some ⟨pb, 0, none⟩)]] w
      fun e w' => e = .returned (.bool (l.any (fun x => x.name == L nm))) ∧ Below w.heap.size w w' := by
  go_enter Tryz.func70, Tryz.ntmps70
  go_wp2_with fail
  refine (indexPairs_calls l v F nm pb w h hv hl).mono ?_
  rintro e w' ⟨⟨z, hz, rfl, he⟩, hb⟩
  have HE := Lib.hid he
  clear he
  go_wp2_with fail
  go_ret
  exact ⟨ret_bool HE.out, hb⟩

theorem pairTy : ElemTy Tryz.prog 78 130 2 32 := by
  obtain ⟨i0, hi, hz0, hz1, hz2⟩ := info_parts (show (Tryz.prog.info? 130).map (fun i => (i.zero, i.size, i.bytes)) = some (some (.agg #[.string (bs []), .string (bs [])]), 2, 32) by kernel_rfl)
  exact ⟨i0, _, Tryz.underlying78, hi, hz0, hz1, hz2, rfl, by omega⟩

theorem runF_pos {p : UInt8 → Bool} : ∀ {r : List UInt8} {k : Nat} {l r' : List UInt8} {k' : Nat}, runF p r k = .ok l r' k' → k' = k + l.length
  | [], k, l, r', k', h => by simp [runF] at h
  | c :: r, k, l, r', k', h => by
    simp only [runF] at h
    split at h
    · cases h
    · split at h
      · cases h2 : runF p r (k + 1) with
        | ok l2 r2 k2 =>
          rw [h2] at h
          simp only [Out.bind] at h
          injection h with h3 h4 h5
          have := runF_pos h2
          subst h3 h5
          simp; omega
        | short => rw [h2] at h; cases h
        | bad e => rw [h2] at h; cases h
      · injection h with h3 h4 h5
        subst h3 h5
        simp
theorem nameF_pos {r : List UInt8} {k : Nat} {l r' : List UInt8} {k' : Nat} (h : nameF r k = .ok l r' k') : k < k' := by
  rw [nameF] at h
  cases h2 : runF letterB r k with
  | ok l2 r2 k2 =>
    rw [h2] at h
    simp only [Out.bind] at h
    have := runF_pos h2
    split at h
    · cases h
    · rename_i hne
      injection h with h3 h4 h5
      have : 0 < l2.length := List.length_pos_iff.2 hne
      omega
  | short => rw [h2] at h; cases h
  | bad e => rw [h2] at h; cases h
theorem needF_pos : ∀ {m r : List UInt8} {k : Nat} {u : Unit} {r' : List UInt8} {k' : Nat}, needF m r k = .ok u r' k' → k' = k + m.length
  | [], r, k, u, r', k', h => by simp only [needF] at h; injection h with _ _ h; simp [h]
  | c :: m, r, k, u, r', k', h => by
    rw [needF] at h
    cases h2 : peekF r k with
    | ok x r2 k2 =>
      have hk : k2 = k := by
        unfold peekF at h2
        split at h2
        · cases h2
        · split at h2
          · cases h2
          · injection h2 with _ _ h; exact h.symm
      rw [h2] at h
      simp only [Out.bind] at h
      split at h
      · have := needF_pos h
        rw [this, hk, List.length_cons]; omega
      · cases h
    | short => rw [h2] at h; cases h
    | bad e => rw [h2] at h; cases h

/-- Memory within 'tag', ahead of each attribute. -/
structure TagSt (w wr : World) (b : Nat) (s : ByteArray) (k R T : Nat) (nm : List UInt8) (va : Value) (at_ : List Pair) : Prop where
  rd : Rd wr b s k
  hk : k ≤ s.size
  grown : w.grownBy wr (some b)
  hR : Blk wr R 80 #[.int .i64 0, .string (bs []), .slice none 0 0]
  hT : Blk wr T 80 #[.int .i64 2, .string (bs nm), va]
  own : OwnR wr (T + 1) 130 2 (fun _ => False) va (at_.map Pair.gv)
  lt : b < w.heap.size
  ltR : w.heap.size ≤ R
  ltT : R < T
theorem OwnR.ne {w : World} {base : Nat} {e : TypeId} {sz : Nat} {G : Nat → Prop} {v : Value} {l : List GV} (h : OwnR w base e sz G v l) {k : Nat} (hk : k < base) : v.ownBlock ≠ some k :=
  fun e => by have := (h.lt k e).1; omega
theorem TagSt.step {w wr w' : World} {b : Nat} {s : ByteArray} {k k' R T : Nat} {nm : List UInt8} {va : Value} {at_ : List Pair} (h : TagSt w wr b s k R T nm va at_)
    (hg : wr.grownBy w' (some b)) (hr : Rd w' b s k') (hk : k' ≤ s.size) : TagSt w w' b s k' R T nm va at_ := by
  have h1 := h.lt
  have h2 := h.ltR
  have h3 := h.ltT
  exact ⟨hr, hk, grown_trans h.grown hg, h.hR.grown hg (by simp; omega), h.hT.grown hg (by simp; omega), h.own.kept hg (.inr (h.own.ne (by omega))) (fun _ h => h.elim), h1, h2, h3⟩
theorem TagSt.below {w wr w' : World} {b : Nat} {s : ByteArray} {k R T : Nat} {nm : List UInt8} {va : Value} {at_ : List Pair} (h : TagSt w wr b s k R T nm va at_)
    (hb : Below wr.heap.size wr w') : TagSt w w' b s k R T nm va at_ := by
  obtain ⟨⟨r0, r1, r2⟩, hk, hg, hR, hT, ho, h1, h2, h3⟩ := h
  have hbl : b < wr.heap.size := Nat.lt_of_lt_of_le h1 hg.size
  exact ⟨⟨(hb.cell hbl).trans r0, (hb.cell hbl).trans r1, (hb.frozen hbl).trans r2⟩, hk, grown_below hg hb, hR.below hb hR.lt, hT.below hb hT.lt, ho.below hb, h1, h2, h3⟩

/-- A struct of three cells is stored. -/
def set3 (W : World) (R : Nat) (x0 x1 x2 : Value) : World := ((W.setCell ⟨R, 0, none⟩ x0).setCell ⟨R, 1, none⟩ x1).setCell ⟨R, 2, none⟩ x2
theorem set3_grown {a W : World} {R : Nat} {row : Option Nat} (h : a.grownBy W row) (hR : some R = row ∨ a.heap.size ≤ R) (x0 x1 x2 : Value) : a.grownBy (set3 W R x0 x1 x2) row :=
  grown_setCell (grown_setCell (grown_setCell h hR _) hR _) hR _
theorem tok_ret {w W : World} {b : Nat} {s : ByteArray} {k R T : Nat} {va : Value} {at_ : List Pair} (hg : w.grownBy W (some b)) (hr : Rd W b s k) (hb : b < w.heap.size) (hR : w.heap.size ≤ R) (hT : R < T)
    (ho : OwnR W (T + 1) 130 2 (fun _ => False) va (at_.map Pair.gv)) (x0 x1 x2 : Value) :
    w.grownBy (set3 W R x0 x1 x2) (some b) ∧ Rd (set3 W R x0 x1 x2) b s k ∧ GR (set3 W R x0 x1 x2) (fun g => w.heap.size ≤ g) (.row 2 (at_.map Pair.gv)) [va] := by
  have h1 : W.grownBy (set3 W R x0 x1 x2) (some R) := set3_grown (grown_refl _ _) (.inl rfl) _ _ _
  have h2 : w.grownBy (set3 W R x0 x1 x2) (some b) := set3_grown hg (.inr hR) _ _ _
  generalize set3 W R x0 x1 x2 = W' at h1 h2 ⊢
  have hne : some b ≠ some R := by simp; omega
  have ho2 : va.ownBlock ≠ some R := ho.ne (by omega)
  have h3 := ho.kept h1 (.inr ho2) (fun _ h => h.elim)
  refine ⟨h2, hr.grown h1 hne, h3.gr (fun _ h => h.elim) (fun k hk => ?_)⟩
  have := (ho.lt k hk).1
  omega

theorem TagSt.ret {w W : World} {b : Nat} {s : ByteArray} {k R T : Nat} {nm : List UInt8} {va : Value} {at_ : List Pair} (st : TagSt w W b s k R T nm va at_) (q x0 x1 x2 : Value) :
    w.grownBy (set3 (W.setCell ⟨T, 0, none⟩ q) R x0 x1 x2) (some b) ∧ Rd (set3 (W.setCell ⟨T, 0, none⟩ q) R x0 x1 x2) b s k ∧
      GR (set3 (W.setCell ⟨T, 0, none⟩ q) R x0 x1 x2) (fun g => w.heap.size ≤ g) (.row 2 (at_.map Pair.gv)) [va] := by
  have h1 := st.lt
  have h2 := st.ltR
  have h3 := st.ltT
  have hg : W.grownBy (W.setCell ⟨T, 0, none⟩ q) (some T) := grown_setCell (grown_refl _ _) (.inl rfl) _
  have hg2 : w.grownBy (W.setCell ⟨T, 0, none⟩ q) (some b) := grown_setCell st.grown (.inr (show w.heap.size ≤ T by omega)) _
  have hr : Rd (W.setCell ⟨T, 0, none⟩ q) b s k := st.rd.grown hg (by simp; omega)
  have ho2 : va.ownBlock ≠ some T := st.own.ne (by omega)
  exact tok_ret hg2 hr h1 h2 h3 (st.own.kept hg (.inr ho2) (fun _ h => h.elim)) x0 x1 x2

theorem TagSt.other {w wr w' : World} {b : Nat} {s : ByteArray} {k R T g : Nat} {nm : List UInt8} {va : Value} {at_ : List Pair} (h : TagSt w wr b s k R T nm va at_)
    (hg : wr.grownBy w' (some g)) (hT : T < g) (ho : va.ownBlock ≠ some g) : TagSt w w' b s k R T nm va at_ := by
  have h1 := h.lt
  have h2 := h.ltR
  have h3 := h.ltT
  exact ⟨h.rd.grown hg (by simp; omega), h.hk, grown_grown h.grown hg (fun x hx => by injection hx with hx; right; omega), h.hR.grown hg (by simp; omega), h.hT.grown hg (by simp; omega), h.own.kept hg (.inr ho) (fun _ h => h.elim), h1, h2, h3⟩
theorem TagSt.push {w W w' : World} {b : Nat} {s : ByteArray} {k R T : Nat} {nm : List UInt8} {va v' : Value} {at_ at2 : List Pair} (st : TagSt w W b s k R T nm va at_)
    (ho : OwnR w' (T + 1) 130 2 (fun _ => False) v' (at2.map Pair.gv)) (hg : W.grownBy w' va.ownBlock) : TagSt w (w'.setCell ⟨T, 2, none⟩ v') b s k R T nm v' at2 := by
  have h1 := st.lt
  have h2 := st.ltR
  have h3 := st.ltT
  have hne : ∀ x, x ≤ T → some x ≠ va.ownBlock := fun x hx e => by have := (st.own.lt x e.symm).1; omega
  have g1 : w'.grownBy (w'.setCell ⟨T, 2, none⟩ v') (some T) := grown_setCell (grown_refl _ _) (.inl rfl) _
  have g0 : w.grownBy w' (some b) := grown_grown st.grown hg (fun x hx => .inr (by have := (st.own.lt x hx).1; omega))
  have hT : Blk (w'.setCell ⟨T, 2, none⟩ v') T 80 #[.int .i64 2, .string (bs nm), v'] := (st.hT.grown hg (hne T (by omega))).set_ 2 v'
  have hR : Blk (w'.setCell ⟨T, 2, none⟩ v') R 80 #[.int .i64 0, .string (bs []), .slice none 0 0] := (st.hR.grown hg (hne R (by omega))).grown g1 (by simp; omega)
  have hr : Rd (w'.setCell ⟨T, 2, none⟩ v') b s k := (st.rd.grown hg (hne b (by omega))).grown g1 (by simp; omega)
  have ho2 : v'.ownBlock ≠ some T := ho.ne (by omega)
  exact ⟨hr, st.hk, grown_setCell g0 (.inr (show w.heap.size ≤ T by omega)) _, hR, hT, ho.kept g1 (.inr ho2) (fun _ h => h.elim), h1, h2, h3⟩

/-- What 'tag' leaves. -/
def TagPost (b : Nat) (s : ByteArray) (w : World) (F : Out Token) (e : Ending) (w' : World) : Prop :=
  w.grownBy w' (some b) ∧ ((∃ x, e = raised x ∧ Hid (fails F x)) ∨
    ∃ t r k va, Hid (F = .ok t r k) ∧ e = .returned (.agg #[.int .i64 t.kind, .string (bs t.text), va]) ∧ Hid (r = (L s).drop k) ∧ k ≤ s.size ∧ Rd w' b s k ∧
      GR w' (fun g => w.heap.size ≤ g) (.row 2 (t.attrs.map Pair.gv)) [va])

set_option maxRecDepth 20000 in
set_option maxHeartbeats 4000000 in
theorem tag_calls (s m : ByteArray) (b : Nat) (w : World) (h : Rd w b s 0) (hs : s.size ≤ 10000000) (hm : m.size ≤ 100) :
    Calls Tryz.prog 64 #[.pointer (some ⟨b, 0, none⟩), .string m] w (TagPost b s w (tagF (L m) (L s) 0)) := by
  have hlt : b < w.heap.size := World.block_lt_of_cell? w _ h.1
  generalize hF : tagF (L m) (L s) 0 = F
  have HF : Hid (F = tagF (L m) ((L s).drop 0) 0) := hF.symm
  clear hF
  go_enter Tryz.func64, Tryz.ntmps64
  go_wp2_with fail
  have hR0 := Blk.new w 80 #[.int .i64 0, .string (bs []), .slice none 0 0]
  have hg0 := grown_alloc (grown_refl w (some b)) (.cells #[.int .i64 0, .string (bs []), .slice none 0 0] 80)
  refine (need_calls s m b 0 _ (Rd.below h ((Below.refl _ _).alloc (Nat.le_refl _) _)) (Nat.zero_le _) hs hm).mono ?_
  rintro e w1 hp
  obtain ⟨hg1, ⟨x, rfl, hx⟩ | ⟨_, r1, k1, ho, rfl, hr, hk, hrd⟩⟩ := hp.cases
  · exact ⟨rfl, grown_trans hg0 hg1, .inl ⟨x, rfl, by rw [HF.out]; exact fails_bind hx⟩⟩
  have HF1 : Hid (F = (nameF ((L s).drop k1) k1).bind fun nm r k =>
      if L m = closB then
        (runF blankB r k).bind fun _ r k =>
        (needF [62] r k).bind fun _ r k => .ok ⟨2, nm, []⟩ r k
      else tagRest (r.length + 1) nm [] r k) := HF.out.trans (by rw [tagF, ho.out, hr.out]; rfl)
  clear hp ho hr HF
  have hR1 := hR0.grown hg1 (by simp; omega)
  have hg01 := grown_trans hg0 hg1
  have hsz1 := hg1.size
  rw [size_alloc] at hsz1
  clear hg0 hg1 hR0
  go_wp2_with fail
  refine (name_calls s b k1 w1 hrd hk hs).mono ?_
  rintro e w2 hp
  obtain ⟨hg2, ⟨x, rfl, hx⟩ | ⟨nm, r2, k2, ho, rfl, hr, hk2, hrd2⟩⟩ := hp.cases
  · exact ⟨rfl, grown_trans hg01 hg2, .inl ⟨x, rfl, by rw [HF1.out]; exact fails_bind hx⟩⟩
  have hR2 := hR1.grown hg2 (by simp; omega)
  have hg02 := grown_trans hg01 hg2
  have hsz2 := hg2.size
  have HF2 : Hid (F = if L m = closB then
        (runF blankB ((L s).drop k2) k2).bind fun _ r k =>
        (needF [62] r k).bind fun _ r k => .ok ⟨2, nm, []⟩ r k
      else tagRest (((L s).drop k2).length + 1) nm [] ((L s).drop k2) k2) := HF1.out.trans (by rw [ho.out, hr.out]; rfl)
  clear hp ho hr HF1 hg2 hR1 hg01 hrd hk
  have st : TagSt w (w2.alloc (.cells #[.int .i64 2, .string (bs nm), .slice none 0 0] 80)) b s k2 w.heap.size w2.heap.size nm (.slice none 0 0) [] :=
    ⟨hrd2.below ((Below.refl _ _).alloc (Nat.le_refl _) _), hk2, grown_alloc hg02 _, hR2.alloc _, Blk.new _ _ _, OwnR.nil _ _ _ _ _, hlt, Nat.le_refl _, by omega⟩
  clear hrd2 hk2 hg02 hR2 hsz1 hsz2
  by_cases hmc : L m = closB
  · have hb1 : (m.toList == [60, 47, 101, 115, 105, 58]) = true := by rw [toList_L, hmc]; rfl
    have HF3 : Hid (F = (runF blankB ((L s).drop k2) k2).bind fun _ r k =>
        (needF [62] r k).bind fun _ r k => .ok ⟨2, nm, []⟩ r k) := HF2.out.trans (if_pos hmc)
    clear hmc HF2
    go_wp2_with fail
    refine (run_calls _ _ blank_ok s b k2 _ st.rd st.hk hs).mono ?_
    rintro e w3 hp
    obtain ⟨hg3, ⟨x, rfl, hx⟩ | ⟨gap, r3, k3, ho, rfl, hr, hk3, hrd3⟩⟩ := hp.cases
    · exact ⟨rfl, grown_trans st.grown hg3, .inl ⟨x, rfl, by rw [HF3.out]; exact fails_bind hx⟩⟩
    have HF4 : Hid (F = (needF [62] ((L s).drop k3) k3).bind fun _ r k => .ok ⟨2, nm, []⟩ r k) := HF3.out.trans (by rw [ho.out, hr.out]; rfl)
    have st3 := st.step hg3 hrd3 hk3
    clear hp ho hr HF3 st hg3 hrd3 hk3
    go_wp2_with fail
    refine (need_calls s ⟨#[62]⟩ b k3 _ st3.rd st3.hk hs (by decide)).mono ?_
    rintro e w4 hp
    obtain ⟨hg4, ⟨x, rfl, hx⟩ | ⟨_, r4, k4, ho, rfl, hr, hk4, hrd4⟩⟩ := hp.cases
    · exact ⟨rfl, grown_trans st3.grown hg4, .inl ⟨x, rfl, by rw [HF4.out]; exact fails_bind hx⟩⟩
    have HF5 : Hid (F = .ok ⟨2, nm, []⟩ ((L s).drop k4) k4) := HF4.out.trans (by have e := ho.out; rw [show L ⟨#[62]⟩ = [62] from rfl] at e; rw [e, hr.out]; rfl)
    have st4 := st3.step hg4 hrd4 hk4
    clear hp ho hr HF4 st3 hg4 hrd4 hk4
    have t0 := st4.hT.cell 0
    have t1 := st4.hT.cell 1
    have t2 := st4.hT.cell 2
    have q0 := st4.hR.cell 0
    have q1 := st4.hR.cell 1
    have q2 := st4.hR.cell 2
    have z0 := st4.hR.frozen 0
    have z1 := st4.hR.frozen 1
    have z2 := st4.hR.frozen 2
    have hne : w2.heap.size ≠ w.heap.size := by have := st4.ltT; omega
    go_wp2_with fail
    obtain ⟨f1, f2, f3⟩ := tok_ret st4.grown st4.rd st4.lt st4.ltR st4.ltT st4.own (.int .i64 2) (.string (bs nm)) (.slice none 0 0)
    exact bodyPost_ret (v := .agg #[.int .i64 2, .string (bs nm), .slice none 0 0]) (by simp [results, Tryz.results64, go_sem, q0, q1, q2]) rfl
      ⟨f1, .inr ⟨⟨2, nm, []⟩, _, k4, _, HF5, rfl, rfl, st4.hk, f2, f3⟩⟩
  · have hb1 : (m.toList == [60, 47, 101, 115, 105, 58]) = false := by
      rw [toList_L]; exact beq_eq_false_iff_ne.2 hmc
    have HF3 : Hid (F = tagRest (((L s).drop k2).length + 1) nm [] ((L s).drop k2) k2) := HF2.out.trans (if_neg hmc)
    clear hmc HF2
    go_wp2_with fail
    generalize hTT : w2.heap.size = T at *
    generalize hRR : w.heap.size = R at *
    go_loopw [] (fun wr => ∃ (n : Nat) (at_ : List Pair) (va : Value) (k : Nat), Hid (F = tagRest n nm at_ ((L s).drop k) k) ∧ s.size + 1 ≤ n + k ∧ TagSt w wr b s k R T nm va at_ ∧ at_.length ≤ 8)
       (fun wr => s.size - (intOf ((wr.cell? ⟨b, 1, none⟩).getD undef)).toNat)
    case atStart => exact ⟨_, [], _, k2, HF3, by rw [List.length_drop, ← size_L]; omega, st, by simp⟩
    case round =>
      obtain ⟨n, at_, va, k, HG, hn, st, hat⟩ := hrel
      clear hTT hRR
      obtain ⟨n, rfl⟩ : ∃ n', n = n' + 1 := ⟨n - 1, by have := st.hk; omega⟩
      have HG1 : Hid (F = (runF blankB ((L s).drop k) k).bind fun gap r k => (peekF r k).bind fun c r k => tagTail (fun at_ r k => tagRest n nm at_ r k) nm at_ gap c r k) := HG.out
      clear HG
      have HWK : Hid (wr.cell? ⟨b, 1, none⟩ = some (.int .i64 k)) := st.rd.2.1
      go_wp2_with fail
      refine (run_calls _ _ blank_ok s b k _ st.rd st.hk hs).mono ?_
      rintro e w3 hp
      obtain ⟨hg3, ⟨x, rfl, hx⟩ | ⟨gap, r3, k3, ho, rfl, hr, hk3, hrd3⟩⟩ := hp.cases
      · exact ⟨rfl, grown_trans st.grown hg3, .inl ⟨x, rfl, by rw [HG1.out]; exact fails_bind hx⟩⟩
      have HG2 : Hid (F = (peekF ((L s).drop k3) k3).bind fun c r k => tagTail (fun at_ r k => tagRest n nm at_ r k) nm at_ gap c r k) := HG1.out.trans (by rw [ho.out, hr.out]; rfl)
      have st3 := st.step hg3 hrd3 hk3
      have hkk : k ≤ k3 := by have := runF_pos ho.out; omega
      clear hp ho hr HG1 hg3 hrd3 hk3
      go_wp2_with fail
      refine (peek_calls s k3 b _ st3.rd st3.hk hs).mono ?_
      rintro e w4 ⟨⟨n4, rfl⟩, ⟨x, rfl, hx⟩ | ⟨c, ho, rfl, hk3⟩⟩
      · exact ⟨rfl, grown_drewN st3.grown _, .inl ⟨x, rfl, by rw [HG2.out]; exact fails_bind hx⟩⟩
      have HG3 : Hid (F = tagTail (fun at_ r k => tagRest n nm at_ r k) nm at_ gap c ((L s).drop k3) k3) := HG2.out.trans (by rw [ho.out]; rfl)
      have st4 : TagSt w (w3.drewN n4) b s k3 R T nm va at_ := st3.step (grown_drewN (grown_refl _ _) _) (st3.rd.drewN _) st3.hk
      have hne : T ≠ R := by have := st4.ltT; omega
      have hbT : b ≠ T := by have := st4.lt; have := st4.ltR; have := st4.ltT; omega
      clear ho HG2 st3 st
      obtain ⟨A, ca, rfl⟩ : ∃ A c, va = .slice A at_.length c := by
        obtain ⟨A, c, h⟩ := st4.own.form
        exact ⟨A, c, by rw [h, List.length_map]⟩
      obtain ⟨r0, r1, r2⟩ := id st4.rd
      have t0 := st4.hT.cell 0
      have t1 := st4.hT.cell 1
      have t2 := st4.hT.cell 2
      have y0 := st4.hT.frozen 0
      have q0 := st4.hR.cell 0
      have q1 := st4.hR.cell 1
      have q2 := st4.hR.cell 2
      have z0 := st4.hR.frozen 0
      have z1 := st4.hR.frozen 1
      have z2 := st4.hR.frozen 2
      go_wp2_with fail
      · have hc : c = 62 := by
          have h : ((c.toNat : Int) == 62) = true := by assumption
          rw [u8_eq]; simpa using h
        have HG4 : Hid (F = .ok ⟨1, nm, at_⟩ ((L s).drop (k3 + 1)) (k3 + 1)) := HG3.out.trans (by rw [tagTail, if_pos hc, List.tail_drop])
        have st5 := st4.step (grown_setCell (grown_refl _ _) (.inl rfl) _) (st4.rd.step (k3 + 1)) (by omega)
        obtain ⟨f1, f2, f3⟩ := st5.ret (.int .i64 1) (.int .i64 1) (.string (bs nm)) (.slice A at_.length ca)
        exact bodyPost_ret (v := .agg #[.int .i64 1, .string (bs nm), .slice A at_.length ca]) (by simp [results, Tryz.results64, go_sem, q0, q1, q2]) rfl
          ⟨f1, .inr ⟨⟨1, nm, at_⟩, _, k3 + 1, _, HG4, rfl, rfl, by omega, f2, f3⟩⟩
      · have hc : ¬ c = 62 := by
          have h : ((c.toNat : Int) == 62) = false := by assumption
          rw [u8_eq]; simpa using h
        have hc2 : c = 47 := by
          have h : ((c.toNat : Int) == 47) = true := by assumption
          rw [u8_eq]; simpa using h
        have HG4 : Hid (F = (needF [62] ((L s).drop (k3 + 1)) (k3 + 1)).bind fun _ r k => .ok ⟨3, nm, at_⟩ r k) := HG3.out.trans (by rw [tagTail, if_neg hc, if_pos hc2, List.tail_drop])
        have st5 := st4.step (grown_setCell (grown_refl _ _) (.inl rfl) _) (st4.rd.step (k3 + 1)) (by omega)
        clear r0 r1 r2 t0 t1 t2 y0 q0 q1 q2 z0 z1 z2 hc hc2 HG3 st4
        refine (need_calls s ⟨#[62]⟩ b (k3 + 1) _ st5.rd st5.hk hs (by decide)).mono ?_
        rintro e w6 hp
        obtain ⟨hg6, ⟨x, rfl, hx⟩ | ⟨_, r6, k6, ho, rfl, hr, hk6, hrd6⟩⟩ := hp.cases
        · exact ⟨rfl, grown_trans st5.grown hg6, .inl ⟨x, rfl, by rw [HG4.out]; exact fails_bind hx⟩⟩
        have HG5 : Hid (F = .ok ⟨3, nm, at_⟩ ((L s).drop k6) k6) := HG4.out.trans (by have e := ho.out; rw [show L ⟨#[62]⟩ = [62] from rfl] at e; rw [e, hr.out]; rfl)
        have st6 := st5.step hg6 hrd6 hk6
        clear hp ho hr HG4 st5 hg6 hrd6 hk6
        have t0 := st6.hT.cell 0
        have t1 := st6.hT.cell 1
        have t2 := st6.hT.cell 2
        have y0 := st6.hT.frozen 0
        have q0 := st6.hR.cell 0
        have q1 := st6.hR.cell 1
        have q2 := st6.hR.cell 2
        have z0 := st6.hR.frozen 0
        have z1 := st6.hR.frozen 1
        have z2 := st6.hR.frozen 2
        go_wp2_with fail
        obtain ⟨f1, f2, f3⟩ := st6.ret (.int .i64 3) (.int .i64 3) (.string (bs nm)) (.slice A at_.length ca)
        exact bodyPost_ret (v := .agg #[.int .i64 3, .string (bs nm), .slice A at_.length ca]) (by simp [results, Tryz.results64, go_sem, q0, q1, q2]) rfl
          ⟨f1, .inr ⟨⟨3, nm, at_⟩, _, k6, _, HG5, rfl, rfl, st6.hk, f2, f3⟩⟩
      · refine ⟨rfl, st4.grown, .inl ⟨_, rfl, ?_⟩⟩
        have hc : ¬ c = 62 := by
          have h : ((c.toNat : Int) == 62) = false := by assumption
          rw [u8_eq]; simpa using h
        have hc2 : ¬ c = 47 := by
          have h : ((c.toNat : Int) == 47) = false := by assumption
          rw [u8_eq]; simpa using h
        have hgap : gap = [] := by
          have h : (bs gap).toList.isEmpty = true := by assumption
          simpa [toList_bs] using h
        rw [HG3.out, tagTail, if_neg hc, if_neg hc2, if_pos hgap]
        exact .inr ⟨40, rfl, rfl⟩
      · have hc : ¬ c = 62 := by
          have h : ((c.toNat : Int) == 62) = false := by assumption
          rw [u8_eq]; simpa using h
        have hc2 : ¬ c = 47 := by
          have h : ((c.toNat : Int) == 47) = false := by assumption
          rw [u8_eq]; simpa using h
        have hgap : ¬ gap = [] := by
          have h : (bs gap).toList.isEmpty = false := by assumption
          simpa [toList_bs] using h
        have HG4 : Hid (F = (nameF ((L s).drop k3) k3).bind fun a r k => (needF [61] r k).bind fun _ r k => tagEq (fun at_ r k => tagRest n nm at_ r k) at_ a r k) :=
          HG3.out.trans (by rw [tagTail, if_neg hc, if_neg hc2, if_neg hgap])
        clear r0 r1 r2 t0 t1 t2 y0 q0 q1 q2 z0 z1 z2 hc hc2 hgap HG3
        refine (name_calls s b k3 _ st4.rd st4.hk hs).mono ?_
        rintro e w5 hp
        obtain ⟨hg5, ⟨x, rfl, hx⟩ | ⟨a, r5, k5, ho, rfl, hr, hk5, hrd5⟩⟩ := hp.cases
        · exact ⟨rfl, grown_trans st4.grown hg5, .inl ⟨x, rfl, by rw [HG4.out]; exact fails_bind hx⟩⟩
        have hpos5 : k3 < k5 := nameF_pos ho.out
        have HG5 : Hid (F = (needF [61] ((L s).drop k5) k5).bind fun _ r k => tagEq (fun at_ r k => tagRest n nm at_ r k) at_ a r k) := HG4.out.trans (by rw [ho.out, hr.out]; rfl)
        have st5 := st4.step hg5 hrd5 hk5
        clear hp ho hr HG4 st4 hg5 hrd5 hk5
        have t0 := st5.hT.cell 0
        have t1 := st5.hT.cell 1
        have t2 := st5.hT.cell 2
        have hTl := st5.hT.lt
        have hmf : ∀ (fn : Fn) (first cap : Array Value) (w : World), (Instr.makeFunc fn first cap).run Tryz.prog w = .ok (.func fn first cap) w := fun _ _ _ _ => rfl
        go_wp2_with fail
        have st6 := st5.below ((Below.refl _ _).alloc (Nat.le_refl _) (.cells #[.string (bs a), .string (bs [])] 130))
        have hP := Blk.new w5 130 #[.string (bs a), .string (bs [])]
        have hPT : T < w5.heap.size := hTl
        have hPo : (Value.slice A at_.length ca).ownBlock ≠ some w5.heap.size := fun e => by have := (st5.own.lt _ e).2; omega
        clear t0 t1 t2 st5 hTl
        generalize w5.heap.size = Pb at hP hPT hPo ⊢
        refine (containsPairs_calls at_ _ (fun _ => True) (bs a) Pb _ (hP.cell 0) (st6.own.gr (fun _ h => h.elim) (fun _ _ => trivial)) (by omega)).mono ?_
        rintro e w6 ⟨rfl, hb6⟩
        have st7 := st6.below hb6
        have hP7 := hP.below hb6 hP.lt
        rw [L_bs]
        clear st6 hP hb6
        generalize hkn : at_.any (fun x => x.name == a) = kn
        go_wp2_with fail
        refine (need_calls s ⟨#[61]⟩ b k5 _ st7.rd st7.hk hs (by decide)).mono ?_
        rintro e w8 hp
        obtain ⟨hg8, ⟨x, rfl, hx⟩ | ⟨_, r8, k8, ho, rfl, hr, hk8, hrd8⟩⟩ := hp.cases
        · exact ⟨rfl, grown_trans st7.grown hg8, .inl ⟨x, rfl, by rw [HG5.out]; exact fails_bind hx⟩⟩
        have hpos8 : k8 = k5 + 1 := needF_pos ho.out
        have HG6 : Hid (F = tagEq (fun at_ r k => tagRest n nm at_ r k) at_ a ((L s).drop k8) k8) := HG5.out.trans (by have e := ho.out; rw [show L ⟨#[61]⟩ = [61] from rfl] at e; rw [e, hr.out]; rfl)
        have st8 := st7.step hg8 hrd8 hk8
        have hbP : b ≠ Pb := by have := st8.lt; have := st8.ltR; have := st8.ltT; omega
        have hP8 := hP7.grown hg8 (by simp; omega)
        have hpos : k3 < k8 := by omega
        clear hp ho hr HG5 st7 hg8 hrd8 hk8 hP7 hpos5 hpos8
        have t2 := st8.hT.cell 2
        cases kn with
        | true =>
          have HKN := Lib.hid hkn
          clear hkn
          go_wp2_with fail
          refine ⟨rfl, st8.grown, .inl ⟨_, rfl, ?_⟩⟩
          rw [HG6.out, tagEq, if_pos (by rw [HKN.out]; rfl)]
          exact .inr ⟨41, rfl, rfl⟩
        | false =>
          have HKN := Lib.hid hkn
          clear hkn
          by_cases h8 : 8 ≤ at_.length
          · go_wp2_with fail
            refine ⟨rfl, st8.grown, .inl ⟨_, rfl, ?_⟩⟩
            rw [HG6.out, tagEq, if_pos (by rw [HKN.out]; simpa using h8)]
            exact .inr ⟨41, rfl, rfl⟩
          · have HG7 : Hid (F = tagVal (fun at_ r k => tagRest n nm at_ r k) at_ a ((L s).drop k8) k8) := HG6.out.trans (by rw [tagEq, if_neg (by rw [HKN.out]; simpa using h8)])
            clear HG6 HKN
            go_wp2_with fail
            refine (need_calls s ⟨#[34]⟩ b k8 _ st8.rd st8.hk hs (by decide)).mono ?_
            rintro e w9 hp
            obtain ⟨hg9, ⟨x, rfl, hx⟩ | ⟨_, r9, k9, ho, rfl, hr, hk9, hrd9⟩⟩ := hp.cases
            · exact ⟨rfl, grown_trans st8.grown hg9, .inl ⟨x, rfl, by rw [HG7.out]; exact fails_bind hx⟩⟩
            have hpos9 : k9 = k8 + 1 := needF_pos ho.out
            have HG8 : Hid (F = (runF plainB ((L s).drop k9) k9).bind fun v r k => (needF [34] r k).bind fun _ r k => tagRest n nm (at_ ++ [⟨a, v⟩]) r k) :=
              HG7.out.trans (by have e := ho.out; rw [show L ⟨#[34]⟩ = [34] from rfl] at e; rw [tagVal, e, hr.out]; rfl)
            have st9 := st8.step hg9 hrd9 hk9
            have hP9 := hP8.grown hg9 (by simp; omega)
            have hposb : k3 < k9 := by omega
            clear hp ho hr HG7 st8 hg9 hrd9 hk9 hP8 hpos hpos9 t2
            go_wp2_with fail
            refine (run_calls _ _ plain_ok s b k9 _ st9.rd st9.hk hs).mono ?_
            rintro e w10 hp
            obtain ⟨hg10, ⟨x, rfl, hx⟩ | ⟨vl, r10, k10, ho, rfl, hr, hk10, hrd10⟩⟩ := hp.cases
            · exact ⟨rfl, grown_trans st9.grown hg10, .inl ⟨x, rfl, by rw [HG8.out]; exact fails_bind hx⟩⟩
            have hpos10 := runF_pos ho.out
            have HG9 : Hid (F = (needF [34] ((L s).drop k10) k10).bind fun _ r k => tagRest n nm (at_ ++ [⟨a, vl⟩]) r k) := HG8.out.trans (by rw [ho.out, hr.out]; rfl)
            have st10 := st9.step hg10 hrd10 hk10
            have hP10 := hP9.grown hg10 (by simp; omega)
            have hposc : k3 < k10 := by omega
            clear hp ho hr HG8 st9 hg10 hrd10 hk10 hP9 hposb hpos10
            have p1 := hP10.cell 1
            have p2 := hP10.frozen 1
            go_wp2_with fail
            have hgP : w10.grownBy (w10.setCell ⟨Pb, 1, none⟩ (.string (bs vl))) (some Pb) := grown_setCell (grown_refl _ _) (.inl rfl) _
            have st11 := st10.other hgP hPT hPo
            have hP11 : Blk (w10.setCell ⟨Pb, 1, none⟩ (.string (bs vl))) Pb 130 #[.string (bs a), .string (bs vl)] := hP10.set_ 1 (.string (bs vl))
            clear st10 hP10 p1 p2
            refine (need_calls s ⟨#[34]⟩ b k10 _ st11.rd st11.hk hs (by decide)).mono ?_
            generalize w10.setCell ⟨Pb, 1, none⟩ (.string (bs vl)) = w11 at st11 hP11 ⊢
            rintro e w12 hp
            obtain ⟨hg12, ⟨x, rfl, hx⟩ | ⟨_, r12, k12, ho, rfl, hr, hk12, hrd12⟩⟩ := hp.cases
            · exact ⟨rfl, grown_trans st11.grown hg12, .inl ⟨x, rfl, by rw [HG9.out]; exact fails_bind hx⟩⟩
            have hpos12 : k12 = k10 + 1 := needF_pos ho.out
            have HG10 : Hid (F = tagRest n nm (at_ ++ [⟨a, vl⟩]) ((L s).drop k12) k12) :=
              HG9.out.trans (by have e := ho.out; rw [show L ⟨#[34]⟩ = [34] from rfl] at e; rw [e, hr.out]; rfl)
            have st12 := st11.step hg12 hrd12 hk12
            have hP12 := hP11.grown hg12 (by simp; omega)
            have hposd : k3 < k12 := by omega
            clear hp ho hr HG9 st11 hg12 hrd12 hk12 hP11 hposc hpos12 hgP
            have t2 := st12.hT.cell 2
            have p0 := hP12.cell 0
            have p1 := hP12.cell 1
            have hTl := st12.hT.lt
            have hPl := hP12.lt
            have HO : Hid (OwnR (w12.alloc (.cells #[.string (bs a), .string (bs vl)] 130)) (T + 1) 130 2 (fun _ => False) (.slice A at_.length ca) (at_.map Pair.gv)) := st12.own.below ((Below.refl _ _).alloc (Nat.le_refl _) _)
            have HC : Hid (Cells (w12.alloc (.cells #[.string (bs a), .string (bs vl)] 130)) (fun _ => True) (some ⟨w12.heap.size, 0, none⟩) [.string (bs a), .string (bs vl)]) := cells_new (Blk.new w12 130 [.string (bs a), .string (bs vl)].toArray)
            have HL : Hid ((at_.map Pair.gv).length + [Pair.gv ⟨a, vl⟩].length ≤ maxLen ∧ ((at_.map Pair.gv).length + [Pair.gv ⟨a, vl⟩].length) * 32 ≤ 140737488355328 ∧ T + 1 ≤ (w12.alloc (.cells #[.string (bs a), .string (bs vl)] 130)).heap.size ∧
                at_.length + 1 = (at_.map Pair.gv ++ [Pair.gv ⟨a, vl⟩]).length) := by
              refine ⟨?_, ?_, ?_, ?_⟩
              · simp [maxLen]; omega
              · simp; omega
              · rw [size_alloc]; omega
              · simp
            have HT : Hid (Blk (w12.alloc (.cells #[.string (bs a), .string (bs vl)] 130)) T 80 #[.int .i64 2, .string (bs nm), .slice A at_.length ca]) := st12.hT.alloc _
            have HN : Hid (some T ≠ (Value.slice A at_.length ca).ownBlock) := fun e => by have := (st12.own.lt T e.symm).1; omega
            go_wp2_with (at_builtin; go_loud (refine wpList_append_S rfl _ _ _ rfl pairTy rfl HO.out rfl rfl HC.out (GRl_one (cells_pair ⟨a, vl⟩) rfl) HL.out.1 HL.out.2.1 HL.out.2.2.1 HL.out.2.2.2 ?_); intro A13 c13 w13 hown hgr hor; have HW := Lib.hid hown; have HG := Lib.hid hgr; have x2 := (HT.out.grown hgr HN.out).cell 2; have x3 := (HT.out.grown hgr HN.out).frozen 2; clear hown hgr hor)
            have HS : Hid (TagSt w (w12.alloc (.cells #[.string (bs a), .string (bs vl)] 130)) b s k12 R T nm (.slice A at_.length ca) at_) := st12.below ((Below.refl _ _).alloc (Nat.le_refl _) _)
            have stF : TagSt w (w13.setCell ⟨T, 2, none⟩ (.slice A13 (at_.length + 1) c13)) b s k12 R T nm (.slice A13 (at_.length + 1) c13) (at_ ++ [⟨a, vl⟩]) :=
              HS.out.push (by rw [List.map_append]; exact HW.out) HG.out
            refine ⟨⟨n, at_ ++ [⟨a, vl⟩], _, k12, HG10, by omega, stF, by simp; omega⟩, ?_⟩
            rw [stF.rd.2.1, HWK.out]
            have := stF.hk
            simp [intOf]
            omega
    
end Go.Proofs.YtijpfcjlochahaaGreatDoor
