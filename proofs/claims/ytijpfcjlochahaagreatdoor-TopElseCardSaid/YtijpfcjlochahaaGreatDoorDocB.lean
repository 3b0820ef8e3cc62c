/- The walk of doc's put: one more element behind those of the open one. -/
import Derived.Test.YtijpfcjlochahaaGreatDoorDocA
import Derived.Test.YtijpfcjlochahaaGreatDoorOpen
set_option linter.unusedVariables false
set_option linter.unusedSimpArgs false
namespace Go.Proofs.YtijpfcjlochahaaGreatDoor
open Go Go.RowKit
set_option linter.unusedVariables false
set_option linter.unusedSimpArgs false

theorem elemTy : ElemTy Tryz.prog 36 74 7 104 := by
  obtain ⟨i0, hi, hz0, hz1, hz2⟩ := info_parts (show (Tryz.prog.info? 74).map (fun i => (i.zero, i.size, i.bytes)) = some (some (.agg #[.int .i64 0, .string ⟨#[]⟩, .string ⟨#[]⟩, .string ⟨#[]⟩, .bool false, .string ⟨#[]⟩, .slice none 0 0]), 7, 104) by kernel_rfl)
  exact ⟨i0, _, Tryz.underlying36, hi, hz0, hz1, hz2, rfl, by omega⟩
/-- The cells of an element whose elements lie in kv. -/
def elemCells (e : Elem) (kv : Value) : List Value := [.int .i64 e.kind, .string (bs e.text), .string (bs e.src), .string (bs e.alt), .bool e.soft, .string (bs e.test), kv]
theorem gr_elem {w : World} {F : Nat → Prop} {e : Elem} {kv : Value} (h : GR w F (.row 7 (e.kids.map Elem.gv)) [kv]) : GR w F e.gv (elemCells e kv) := by
  obtain ⟨k, tx, s, a, b, u, l⟩ := e
  rw [Elem.gv, elemGvs_eq]
  exact GR_agg.2 (GRa_cons.2 ⟨[_], _, rfl, GR_int.2 rfl, GRa_cons.2 ⟨[_], _, rfl, GR_str.2 rfl, GRa_cons.2 ⟨[_], _, rfl, GR_str.2 rfl, GRa_cons.2 ⟨[_], _, rfl, GR_str.2 rfl, GRa_cons.2 ⟨[_], _, rfl, GR_bool.2 rfl,
    GRa_cons.2 ⟨[_], _, rfl, GR_str.2 rfl, GRa_cons.2 ⟨[kv], [], rfl, h, GRa_nil.2 rfl⟩⟩⟩⟩⟩⟩⟩)
def set7 (W : World) (g o : Nat) (c0 c1 c2 c3 c4 c5 c6 : Value) : World :=
  ((((((W.setCell ⟨g, o, none⟩ c0).setCell ⟨g, o + 1, none⟩ c1).setCell ⟨g, o + 2, none⟩ c2).setCell ⟨g, o + 3, none⟩ c3).setCell ⟨g, o + 4, none⟩ c4).setCell ⟨g, o + 5, none⟩ c5).setCell ⟨g, o + 6, none⟩ c6
theorem row_store7 {w : World} {base N cap g : Nat} {te : TypeId} {xs : List Value} {z0 z1 z2 z3 z4 z5 z6 : Value} (hx : xs.length = N * 7)
    (h : w.ownsRow base te 7 (.slice (some ⟨g, 0, none⟩) (N + 1) cap) (N + 1) (xs ++ [z0, z1, z2, z3, z4, z5, z6])) (c0 c1 c2 c3 c4 c5 c6 : Value) :
    (set7 w g (N * 7) c0 c1 c2 c3 c4 c5 c6).ownsRow base te 7 (.slice (some ⟨g, 0, none⟩) (N + 1) cap) (N + 1) (xs ++ [c0, c1, c2, c3, c4, c5, c6]) ∧ w.grownBy (set7 w g (N * 7) c0 c1 c2 c3 c4 c5 c6) (some g) := by
  obtain ⟨h0, g0⟩ := h.stored (N * 7) c0
  obtain ⟨h1, g1⟩ := h0.stored (N * 7 + 1) c1
  obtain ⟨h2, g2⟩ := h1.stored (N * 7 + 2) c2
  obtain ⟨h3, g3⟩ := h2.stored (N * 7 + 3) c3
  obtain ⟨h4, g4⟩ := h3.stored (N * 7 + 4) c4
  obtain ⟨h5, g5⟩ := h4.stored (N * 7 + 5) c5
  obtain ⟨h6, g6⟩ := h5.stored (N * 7 + 6) c6
  refine ⟨?_, grown_trans (grown_trans (grown_trans (grown_trans (grown_trans (grown_trans g0 g1) g2) g3) g4) g5) g6⟩
  have e : ((((((((xs ++ [z0, z1, z2, z3, z4, z5, z6]).set (N * 7) c0).set (N * 7 + 1) c1).set (N * 7 + 2) c2).set (N * 7 + 3) c3).set (N * 7 + 4) c4).set (N * 7 + 5) c5).set (N * 7 + 6) c6) = xs ++ [c0, c1, c2, c3, c4, c5, c6] := by
    rw [← hx]
    simp
  rw [e] at h6
  exact h6
theorem setCell_comm (w : World) (p q : Addr) (u v : Value) (h : p.block ≠ q.block) : (w.setCell p u).setCell q v = (w.setCell q v).setCell p u := by
  simp only [World.setCell]
  congr 1
  apply Array.ext_getElem?
  intro i
  simp only [Array.getElem?_modify]
  by_cases h1 : p.block = i
  · by_cases h2 : q.block = i
    · exact absurd (h1.trans h2.symm) h
    · simp [h1, h2]
  · by_cases h2 : q.block = i <;> simp [h1, h2]
theorem set7_far {w : World} {sb x g o : Nat} (h : sb ≠ g) (u c0 c1 c2 c3 c4 c5 c6 : Value) :
    set7 (w.setCell ⟨sb, x, none⟩ u) g o c0 c1 c2 c3 c4 c5 c6 = (set7 w g o c0 c1 c2 c3 c4 c5 c6).setCell ⟨sb, x, none⟩ u := by
  have hc : ∀ (W : World) (i : Nat) (c : Value), (W.setCell ⟨sb, x, none⟩ u).setCell ⟨g, i, none⟩ c = (W.setCell ⟨g, i, none⟩ c).setCell ⟨sb, x, none⟩ u := fun W i c => setCell_comm W _ _ _ _ h
  simp only [set7, hc]

theorem put_facts {w w1 w4 w5 : World} {base B sb cap g capk N c : Nat} {A : Option Addr} {r : List Level} {t : Level} {kvr : List Value} {own : Nat → Option Nat} {xs : List Value}
    (hrow : w5.ownsRow base 74 7 (.slice (some ⟨g, 0, none⟩) (N + 1) capk) (N + 1) (xs ++ [.int .i64 0, .string ⟨#[]⟩, .string ⟨#[]⟩, .string ⟨#[]⟩, .bool false, .string ⟨#[]⟩, .slice none 0 0]))
    (hgr : w4.grownBy w5 (Value.slice A N c).ownBlock) (hor : (Value.slice A N c).ownBlock = some g ∨ g = w4.heap.size) (hxl : xs.length = N * 7)
    (hko : ∀ k, (Value.slice A N c).ownBlock = some k → own k = some r.length)
    (h : Bld w base B (.slice (some ⟨sb, 0, none⟩) (r.length + 1) cap) (r ++ [t]) (kvr ++ [.slice A N c]) own) (hb : Below w.heap.size w w4) (hs4 : w4.heap.size = w1.heap.size + 1) (hs1 : w1.heap.size = w.heap.size + 1) (_hkr : kvr.length = r.length) :
    (g ≠ w.heap.size ∧ g ≠ sb ∧ g ≠ B) ∧ some w.heap.size ≠ (Value.slice A N c).ownBlock ∧ (some sb ≠ (Value.slice A N c).ownBlock ∧ some B ≠ (Value.slice A N c).ownBlock) := by
  have h1 : ∀ k, (Value.slice A N c).ownBlock = some k → k < w.heap.size ∧ k ≠ sb ∧ k ≠ B := by
    intro k hk
    have ho := hko k hk
    refine ⟨(h.stk.lt k _ ho).2, ?_, ?_⟩
    · rintro rfl
      have := h.stk.sep k rfl
      rw [this] at ho; cases ho
    · rintro rfl
      have := h.free
      rw [this] at ho; cases ho
  have hsb := (h.stk.row.lt sb rfl).2
  have hB := h.blk.lt
  refine ⟨?_, ?_, ?_, ?_⟩
  · rcases hor with e | e
    · have := h1 g e
      exact ⟨by omega, this.2.1, this.2.2⟩
    · exact ⟨by omega, by omega, by omega⟩
  · intro e
    have := (h1 _ e.symm).1
    omega
  · exact fun e => (h1 _ e.symm).2.1 rfl
  · exact fun e => (h1 _ e.symm).2.2 rfl
theorem row_cell {w : World} {base g N capk : Nat} {te : TypeId} {xs zs : List Value} (h : w.ownsRow base te 7 (.slice (some ⟨g, 0, none⟩) (N + 1) capk) (N + 1) (xs ++ zs)) (hx : xs.length = N * 7) (j : Nat) (hj : j < 7) : w.cell? ⟨g, N * 7 + j, none⟩ = zs[j]? := by
  rw [h.cellAt _ (by omega), ← hx, List.getElem?_append_right (by omega), Nat.add_sub_cancel_left]
/-- A block of the builder's own. -/
def Mine (B : Nat) (v : Value) (own : Nat → Option Nat) (k : Nat) : Prop := own k ≠ none ∨ v.ownBlock = some k ∨ k = B
/-- Other blocks are as they were, and not the builder's. -/
def Fr (w w' : World) (B : Nat) (v : Value) (own : Nat → Option Nat) (v' : Value) (own' : Nat → Option Nat) (T : Nat → Prop) : Prop :=
  ∀ k, k < w.heap.size → ¬ Mine B v own k → ¬ T k → w'.heap[k]? = w.heap[k]? ∧ ¬ Mine B v' own' k
theorem Fr.trans {w w1 w2 : World} {B : Nat} {v v1 v2 : Value} {own own1 own2 : Nat → Option Nat} {T T' : Nat → Prop} (h : Fr w w1 B v own v1 own1 T) (h2 : Fr w1 w2 B v1 own1 v2 own2 T') (hs : w.heap.size ≤ w1.heap.size)
    (hT : ∀ k, ¬ Mine B v own k → ¬ T k → ¬ T' k) : Fr w w2 B v own v2 own2 T := fun k hk hm ht => by
  obtain ⟨e1, m1⟩ := h k hk hm ht
  obtain ⟨e2, m2⟩ := h2 k (Nat.lt_of_lt_of_le hk hs) m1 (hT k hm ht)
  exact ⟨e2.trans e1, m2⟩
theorem fr_below {w w' : World} {B : Nat} {v : Value} {own : Nat → Option Nat} {T : Nat → Prop} (hb : Below w.heap.size w w') : Fr w w' B v own v own T := fun k hk hm _ => ⟨hb.block k hk, hm⟩
theorem not_mine {B k : Nat} {v : Value} {own : Nat → Option Nat} (h : ¬ Mine B v own k) : own k = none ∧ v.ownBlock ≠ some k ∧ k ≠ B :=
  ⟨Classical.byContradiction fun e => h (.inl e), fun e => h (.inr (.inl e)), fun e => h (.inr (.inr e))⟩
/-- What 'put' leaves. -/
def PutPost (base B : Nat) (v : Value) (own : Nat → Option Nat) (T : Nat → Prop) (r : List Level) (t : Level) (e : Elem) (w : World) (en : Ending) (w' : World) : Prop :=
  en = .returned (.tuple #[]) ∧ (∃ v' kvs' own', Bld w' base B v' (r ++ [⟨putK t.e e, t.name⟩]) kvs' own' ∧ Fr w w' B v own v' own' T) ∧ Below base w w'

theorem put_end {w w4 : World} {base B sb cap N c : Nat} {A : Option Addr} {r : List Level} {t : Level} {kvr : List Value} {own : Nat → Option Nat} {T : Nat → Prop} {xs : List Value} {e : Elem} {kvE : Value}
    (h : Bld w base B (.slice (some ⟨sb, 0, none⟩) (r.length + 1) cap) (r ++ [t]) (kvr ++ [.slice A N c]) own) (hkr : kvr.length = r.length) (hB : base ≤ B) (h11 : ¬ t.e.kind = 11) (hN : N = t.e.kids.length)
    (hb : Below w.heap.size w w4) (hxl : xs.length = N * 7)
    (hxg : GRl w (fun k => own k = some r.length ∧ some k ≠ (Value.slice A N c).ownBlock) 7 (t.e.kids.map Elem.gv) xs)
    (hko : ∀ k, (Value.slice A N c).ownBlock = some k → own k = some r.length)
    (hE : GR w T (.row 7 (e.kids.map Elem.gv)) [kvE]) (hT : ∀ g, T g → own g = none ∧ sb ≠ g ∧ g ≠ B ∧ base ≤ g ∧ g < w.heap.size)
    (w5 : World) (g capk : Nat) {w7 : World}
    (e7 : (set7 w5 g (N * 7) (.int .i64 e.kind) (.string (bs e.text)) (.string (bs e.src)) (.string (bs e.alt)) (.bool e.soft) (.string (bs e.test)) kvE).setCell ⟨sb, r.length * 8 + 6, none⟩ (.slice (some ⟨g, 0, none⟩) (N + 1) capk) = w7)
    (hrow : w5.ownsRow base 74 7 (.slice (some ⟨g, 0, none⟩) (N + 1) capk) (N + 1) (xs ++ [.int .i64 0, .string ⟨#[]⟩, .string ⟨#[]⟩, .string ⟨#[]⟩, .bool false, .string ⟨#[]⟩, .slice none 0 0]))
    (hgr : w4.grownBy w5 (Value.slice A N c).ownBlock) (hor : (Value.slice A N c).ownBlock = some g ∨ g = w4.heap.size) (hlt : g < w5.heap.size) : PutPost base B (.slice (some ⟨sb, 0, none⟩) (r.length + 1) cap) own T r t e w (.returned (.tuple #[])) w7 := by
  subst hN e7
  obtain ⟨hrow7, hg7⟩ := row_store7 hxl hrow (.int .i64 e.kind) (.string (bs e.text)) (.string (bs e.src)) (.string (bs e.alt)) (.bool e.soft) (.string (bs e.test)) kvE
  obtain ⟨W7, hW7⟩ : ∃ W, W = set7 w5 g (t.e.kids.length * 7) (.int .i64 e.kind) (.string (bs e.text)) (.string (bs e.src)) (.string (bs e.alt)) (.bool e.soft) (.string (bs e.test)) kvE := ⟨_, rfl⟩
  rw [← hW7] at hrow7 hg7 ⊢
  have hsbl := (h.stk.row.lt sb rfl)
  have hBl := h.blk.lt
  have hkv : ∀ k, (Value.slice A t.e.kids.length c).ownBlock = some k → base ≤ k ∧ k < w.heap.size ∧ k ≠ sb ∧ k ≠ B := by
    intro k hk
    have ho := hko k hk
    refine ⟨(h.stk.lt k _ ho).1, (h.stk.lt k _ ho).2, ?_, ?_⟩
    · rintro rfl
      have := h.stk.sep k rfl
      rw [this] at ho; cases ho
    · rintro rfl
      have := h.free
      rw [this] at ho; cases ho
  have hbw : base ≤ w.heap.size := by omega
  have hsz := hb.size
  have hG : w4.grownBy W7 (Value.slice A t.e.kids.length c).ownBlock := by
    refine ⟨hg7.os.trans hgr.os, hg7.tape.trans hgr.tape, hg7.output.trans hgr.output, Nat.le_trans hgr.size hg7.size, fun i hi hne => (hg7.block i (Nat.lt_of_lt_of_le hi hgr.size) ?_).trans (hgr.block i hi hne)⟩
    rcases hor with e | e
    · rw [← e]; exact hne
    · intro e2; injection e2 with e2; omega
  have hfar : ∀ k, k < w.heap.size → some k ≠ (Value.slice A t.e.kids.length c).ownBlock → W7.heap[k]? = w.heap[k]? := fun k hk hne => (hG.block k (by omega) hne).trans (hb.block k hk)
  have hgk : ∀ k, k < w.heap.size → some k ≠ (Value.slice A t.e.kids.length c).ownBlock → some k ≠ some g := by
    intro k hk hne e2
    injection e2 with e2
    subst e2
    rcases hor with e | e
    · exact hne e.symm
    · omega
  have hstk4 := h.stk.below hb
  have hTn : ∀ k, T k → some k ≠ (Value.slice A t.e.kids.length c).ownBlock := fun k hk e2 => by
    have := hko k e2.symm
    rw [(hT k hk).1] at this; cases this
  have ho : OwnR W7 base 74 7 (fun k => own k = some r.length ∨ T k) (.slice (some ⟨g, 0, none⟩) (t.e.kids.length + 1) capk) ((t.e.kids ++ [e]).map Elem.gv) := by
    refine ⟨_, by rw [List.length_map, List.length_append]; exact hrow7, ?_⟩
    rw [List.map_append]
    refine GRl.append (GRl_one (GR.mono (F := T) ?_ ?_ _ _ (gr_elem hE)) rfl) (GRl.mono (F := fun k => own k = some r.length ∧ some k ≠ (Value.slice A t.e.kids.length c).ownBlock) ?_ ?_ _ _ _ hxg)
    · exact fun k hk => ⟨.inr hk, hgk k (hT k hk).2.2.2.2 (hTn k hk)⟩
    · exact fun k hk hlt => hfar k hlt (hTn k hk)
    · exact fun k hk => ⟨.inl hk.1, hgk k (h.stk.lt k _ hk.1).2 hk.2⟩
    · exact fun k hk hlt => hfar k hlt hk.2
  have hTT : ∀ k, T k → own k = none ∧ sb ≠ k ∧ base ≤ k ∧ k < W7.heap.size := fun k hk => by
    have := hT k hk
    have hs := hG.size
    exact ⟨this.1, this.2.1, this.2.2.2.1, by omega⟩
  obtain ⟨own', hs', hfree⟩ := hstk4.put (e := e) (T := T) hkr hG hTT ho (by
    rcases hor with e2 | e2
    · exact .inl (by rw [e2]; rfl)
    · exact .inr (by rw [← e2]; rfl)) rfl
  have hBk : some B ≠ (Value.slice A t.e.kids.length c).ownBlock := fun e2 => (hkv B e2.symm).2.2.2 rfl
  have hBs : B ≠ sb := fun e2 => h.ne (by rw [e2]; rfl)
  refine ⟨rfl, ⟨.slice (some ⟨sb, 0, none⟩) (r.length + 1) cap, kvr ++ [.slice (some ⟨g, 0, none⟩) (t.e.kids.length + 1) capk], own', ?_, ?_⟩, ?_⟩
  · have hp : putK t.e e = t.e.setKids (t.e.kids ++ [e]) := by unfold putK; rw [if_neg h11]
    rw [hp]
    exact ⟨((h.blk.below hb hBl).grown hG hBk).far (p := ⟨sb, r.length * 8 + 6, none⟩) hBs _, hs', hfree B h.free (fun hk => (hT B hk).2.2.1 rfl) (by omega), fun e2 => hBs (by injection e2 with e2; exact e2.symm)⟩
  · intro k hk hm hnt
    obtain ⟨m1, m2, m3⟩ := not_mine hm
    have hks : k ≠ sb := fun e2 => m2 (by rw [e2]; rfl)
    have hkn : some k ≠ (Value.slice A t.e.kids.length c).ownBlock := fun e2 => by
      have := hko k e2.symm
      rw [m1] at this; cases this
    refine ⟨(Below.heap_setCell W7 ⟨sb, r.length * 8 + 6, none⟩ _ k hks).trans (hfar k hk hkn), ?_⟩
    rintro (e2 | e2 | e2)
    · exact e2 (hfree k m1 hnt (by omega))
    · exact hks (Option.some.inj e2).symm
    · exact m3 e2
  · have h2 : Below base w4 W7 := ⟨hG.os, hG.tape, hG.output, hG.size, fun k hk => hG.block k (by omega) (fun e2 => by have := (hkv k e2.symm).1; omega)⟩
    exact ((hb.mono hbw).trans h2).setCell (p := ⟨sb, r.length * 8 + 6, none⟩) hsbl.1 _
set_option maxRecDepth 20000 in
set_option maxHeartbeats 4000000 in
theorem put_calls {base B : Nat} {v : Value} {r : List Level} {t : Level} {kvs : List Value} {own : Nat → Option Nat} {T : Nat → Prop} (e : Elem) (kvE : Value) (w : World) (h : Bld w base B v (r ++ [t]) kvs own) (hr : r.length ≤ 100)
    (hk : t.e.kids.length ≤ 10000) (hE : GR w T (.row 7 (e.kids.map Elem.gv)) [kvE]) (hT : ∀ g, T g → own g = none ∧ v.ownBlock ≠ some g ∧ g ≠ B ∧ base ≤ g ∧ g < w.heap.size) (hB : base ≤ B) :
    Calls Tryz.prog 68 #[.pointer (some ⟨B, 0, none⟩), .agg #[.int .i64 e.kind, .string (bs e.text), .string (bs e.src), .string (bs e.alt), .bool e.soft, .string (bs e.test), kvE]] w (PutPost base B v own T r t e w) := by
  obtain ⟨AE, cE, hkvE⟩ : ∃ A c, kvE = .slice A e.kids.length c := by
    obtain ⟨A, c, xs, h1, -⟩ := row_parts hE
    rw [List.length_map] at h1
    exact ⟨A, c, h1⟩
  subst hkvE
  obtain ⟨sb, cap, rfl, hcap, hcm, hsb, hbs⟩ := h.form
  obtain ⟨kvr, kv, rfl, hkr⟩ := h.kid
  obtain ⟨hkid, hkown⟩ := h.stk.kid r.length t kv (by simp) (by rw [← hkr]; simp)
  obtain ⟨Ak, ck, rfl⟩ := hkid.form
  rw [List.length_map] at *
  have hBl := h.blk.lt
  obtain ⟨w1, hw1⟩ : ∃ w1, w1 = w.alloc (.cells #[.int .i64 e.kind, .string (bs e.text), .string (bs e.src), .string (bs e.alt), .bool e.soft, .string (bs e.test), (.slice AE e.kids.length cE)] 74) := ⟨_, rfl⟩
  have hal : Below w.heap.size w w1 := by rw [hw1]; exact (Below.refl _ _).alloc (Nat.le_refl _) _
  have hs1 : w1.heap.size = w.heap.size + 1 := by rw [hw1, size_alloc]
  have hxb : Blk w1 w.heap.size 74 #[.int .i64 e.kind, .string (bs e.text), .string (bs e.src), .string (bs e.alt), .bool e.soft, .string (bs e.test), (.slice AE e.kids.length cE)] := by rw [hw1]; exact Blk.new w _ _
  have hblk := h.blk.below hal hBl
  have hstk := h.stk.below hal
  have hrow := hstk.row
  rw [List.length_append, List.length_singleton] at hrow
  have hat : ∀ j, j < 8 → w1.cell? ⟨sb, r.length * 8 + j, none⟩ = (levCells t (.slice Ak t.e.kids.length ck))[j]? := fun j hj => by
    rw [hrow.cellAt _ (by omega)]
    exact stk_at r.length j hj (by simp) (by rw [← hkr]; simp)
  have b0 := hblk.cell 0
  have k0 := hat 0 (by omega)
  have k6 : w1.cell? ⟨sb, r.length * 8 + 6, none⟩ = some (.slice Ak t.e.kids.length ck) := hat 6 (by omega)
  obtain ⟨xs, hxrow, hxg⟩ := hkid
  rw [List.length_map] at hxrow
  have hxl : xs.length = t.e.kids.length * 7 := hxrow.1
  have HXG := Lib.hid hxg
  have HXR := Lib.hid hxrow
  have HKO := Lib.hid hkown
  clear hxg hxrow hkown
  have HW1 := Lib.hid hw1
  have HH := Lib.hid h
  have HAL := Lib.hid hal
  clear hat h hal
  go_enter Tryz.func68, Tryz.ntmps68
  clear hw1
  go_wp2_with fail
  rw [← HW1.out]
  refine (top_calls w1 b0 hcap (by omega)).mono ?_
  rintro en w2 ⟨rfl, m, rfl⟩
  have k0 : (w1.drewN m).cell? ⟨sb, r.length * 8, none⟩ = some (.int .i64 t.e.kind) := k0
  by_cases h11 : t.e.kind = 11
  · have hb : (t.e.kind != 11) = false := by rw [h11]; rfl
    have H11 := Lib.hid h11
    clear h11
    go_wp2_with fail
    go_end0
    have hb1 : Below w.heap.size w (w1.drewN m) := below_drewN HAL.out m
    have hp : putK t.e e = t.e := by unfold putK; rw [if_pos H11.out]
    refine ⟨rfl, ⟨.slice (some ⟨sb, 0, none⟩) (r.length + 1) cap, kvr ++ [.slice Ak t.e.kids.length ck], own, ?_, fr_below hb1⟩, hb1.mono (by omega)⟩
    rw [hp]
    exact ⟨hblk, hstk.below (below_drewN (Below.refl _ _) m), HH.out.free, HH.out.ne⟩
  · have hb : (t.e.kind != 11) = true := by rw [bne_iff_ne]; exact h11
    have H11 := Lib.hid h11
    clear h11
    go_wp2_with fail
    have hS0 : Blk (w1.drewN m).drew w.heap.size 74 #[.int .i64 e.kind, .string (bs e.text), .string (bs e.src), .string (bs e.alt), .bool e.soft, .string (bs e.test), (.slice AE e.kids.length cE)] := hxb
    have k7 : (w1.drewN m).drew.cell? ⟨sb, r.length * 8 + 6, none⟩ = some (.slice Ak t.e.kids.length ck) := k6
    refine wp_region_held (S := (fun w' => Blk w' w.heap.size 74 #[.int .i64 e.kind, .string (bs e.text), .string (bs e.src), .string (bs e.alt), .bool e.soft, .string (bs e.test), (.slice AE e.kids.length cE)])) (by kernel_rfl) ?_
    change wpAnyH _ _ _ _ _ _ _ _ (World.drew _)
    refine wpAnyH_take (i := 0) (v := ?_) rfl (by kernel_rfl) (by kernel_rfl) (by kernel_rfl) (fun _ _ _ h => h) (Or.inl ⟨by rfl, ?_⟩) hS0 ?_
    rotate_left
    · (intro w_ hS_; obtain _s := hS_; go_simp; try with_reducible rfl)
    refine wpAnyH_take (i := 1) (v := ?_) rfl (by kernel_rfl) (by kernel_rfl) (by kernel_rfl) (fun _ _ _ h => h) (Or.inl ⟨by rfl, ?_⟩) hS0 ?_
    rotate_left
    · (intro w_ hS_; obtain _s := hS_; go_simp; try with_reducible rfl)
    refine wpAnyH_take (i := 2) (v := ?_) rfl (by kernel_rfl) (by kernel_rfl) (by kernel_rfl) (fun _ _ _ h => h) (Or.inl ⟨by rfl, ?_⟩) hS0 ?_
    rotate_left
    · (intro w_ hS_; obtain _s := hS_; go_simp; try with_reducible rfl)
    refine wpAnyH_take (i := 3) (v := ?_) rfl (by kernel_rfl) (by kernel_rfl) (by kernel_rfl) (fun _ _ _ h => h) (Or.inl ⟨by rfl, ?_⟩) hS0 ?_
    rotate_left
    · (intro w_ hS_; obtain _s := hS_; go_simp; try with_reducible rfl)
    refine wpAnyH_take (i := 5) (v := ?_) rfl (by kernel_rfl) (by kernel_rfl) (by kernel_rfl) (fun _ _ _ h => h) (Or.inl ⟨by rfl, ?_⟩) hS0 ?_
    rotate_left
    · (intro w_ hS_; have s0 := Blk.cell hS_ 0; have s1 := Blk.cell hS_ 1; have s2 := Blk.cell hS_ 2; have s3 := Blk.cell hS_ 3; have s4 := Blk.cell hS_ 4; have s5 := Blk.cell hS_ 5; have s6 := Blk.cell hS_ 6; go_simp; try with_reducible rfl)
    obtain ⟨w4, hw4⟩ : ∃ w4, w4 = (w1.drewN (m + 1)).alloc (.cells #[.int .i64 0, .string ⟨#[]⟩, .string ⟨#[]⟩, .string ⟨#[]⟩, .bool false, .string ⟨#[]⟩, .slice none 0 0] 74) := ⟨_, rfl⟩
    have hb4 : Below w1.heap.size w1 w4 := by rw [hw4]; exact (below_drewN (Below.refl _ _) (m + 1)).alloc (Nat.le_refl _) _
    have hs4 : w4.heap.size = w1.heap.size + 1 := by rw [hw4, size_alloc]; rfl
    have hz4 : Blk w4 (w.heap.size + 1) 74 [.int .i64 0, .string ⟨#[]⟩, .string ⟨#[]⟩, .string ⟨#[]⟩, .bool false, .string ⟨#[]⟩, .slice none 0 0].toArray := by rw [hw4, ← hs1]; exact Blk.new (w1.drewN (m + 1)) _ _
    have hS4 : Blk w4 w.heap.size 74 #[.int .i64 e.kind, .string (bs e.text), .string (bs e.src), .string (bs e.alt), .bool e.soft, .string (bs e.test), (.slice AE e.kids.length cE)] := hxb.below hb4 (by omega)
    have hb04 : Below w.heap.size w w4 := HAL.out.trans (hb4.mono (by omega))
    have hAR : AppRaw w4 base 74 7 104 (.slice Ak t.e.kids.length ck) t.e.kids.length xs ⟨w.heap.size + 1, 0, none⟩ [.int .i64 0, .string ⟨#[]⟩, .string ⟨#[]⟩, .string ⟨#[]⟩, .bool false, .string ⟨#[]⟩, .slice none 0 0] := by
      refine ⟨HXR.out.kept (row := none) ⟨hb04.os, hb04.tape, hb04.output, hb04.size, fun k hk _ => hb04.block k hk⟩ (by cases (Value.slice Ak t.e.kids.length ck).ownBlock <;> simp), rfl, fun j u hu => ?_, ?_, by simp only [maxLen]; omega, by omega, by omega⟩
      · rw [addr_add, Nat.zero_add, hz4.cell]; simpa using hu
      · intro u hu
        simp only [List.mem_cons, List.not_mem_nil, or_false] at hu
        rcases hu with rfl | rfl | rfl | rfl | rfl | rfl | rfl <;> rfl
    have hEnd := put_end HH.out hkr hB H11.out rfl hb04 hxl HXG.out HKO.out hE (fun k hk => ⟨(hT k hk).1, fun e2 => (hT k hk).2.1 (by rw [e2]; rfl), (hT k hk).2.2⟩)
    have HE := Lib.hid hEnd
    clear hEnd
    have HAR := Lib.hid hAR
    have HW4 := Lib.hid hw4
    clear hAR hw4
    refine wpAnyH_ready (rs := [4, 7]) (by kernel_rfl) (by simp) ?_
    refine AllReadyH.cons rfl (fun K_ hK_ => ?_) (AllReadyH.cons rfl (fun K_ hK_ => ?_) AllReadyH.nil)
    · go_simp
      refine hK_.out _ _ (by exact hS0) fun _ => ?_
      clear hK_ K_
      refine wpAnyH_take (i := 6) (v := ?_) rfl (by kernel_rfl) (by kernel_rfl) (by kernel_rfl) (fun _ _ _ h => h) (Or.inl ⟨by rfl, ?_⟩) hS0 ?_
      rotate_left
      · (intro w_ hS_; obtain _s := hS_; go_simp; try with_reducible rfl)
      refine wpAnyH_ready (rs := [7]) (by kernel_rfl) (by simp) ?_
      refine AllReadyH.cons rfl (fun K_ hK_ => ?_) AllReadyH.nil
      go_simp
      rw [← HW4.out]
      refine hK_.out _ _ (by exact hS4) fun _ => ?_
      clear hK_ K_
      refine wpAnyH_ready (rs := [8]) (by kernel_rfl) (by simp) ?_
      refine AllReadyH.cons rfl (fun K_ hK_ => ?_) AllReadyH.nil
      refine HAR.out.step (by rfl) _ _ _ (by rfl) elemTy (by rfl) (by rfl) ?_
      intro g capk w5 hrow5 hgr5 hor5 hlt5
      have HF := Lib.hid (put_facts hrow5 hgr5 hor5 hxl HKO.out HH.out hb04 hs4 hs1 hkr)
      obtain ⟨hgE, hgS, hgB⟩ := HF.out.1
      have hS5 : Blk w5 w.heap.size 74 #[.int .i64 e.kind, .string (bs e.text), .string (bs e.src), .string (bs e.alt), .bool e.soft, .string (bs e.test), (.slice AE e.kids.length cE)] := hS4.grown hgr5 HF.out.2.1
      have HR5 := Lib.hid hrow5
      have HG5 := Lib.hid hgr5
      have HO5 := Lib.hid hor5
      clear hrow5 hgr5 hor5
      refine hK_.out _ _ (by exact hS5) fun _ => ?_
      clear hK_ K_
      have hi1 : (0 : Int) ≤ (t.e.kids.length : Int) := by omega
      have hi2 : (t.e.kids.length : Int) < ((t.e.kids.length + 1 : Nat) : Int) := by omega
      have hi3 : (t.e.kids.length : Int) < (t.e.kids.length : Int) + 1 := by omega
      refine wpAnyH_take (i := 9) (v := ?_) rfl (by kernel_rfl) (by kernel_rfl) (by kernel_rfl) (fun _ _ _ h => h) (Or.inl ⟨by rfl, ?_⟩) hS5 ?_
      rotate_left
      · (intro w_ hS_; obtain _s := hS_; go_simp; try with_reducible rfl)
      refine wpAnyH_take (i := 11) (v := ?_) rfl (by kernel_rfl) (by kernel_rfl) (by kernel_rfl) (fun _ _ _ h => h) (Or.inl ⟨by rfl, ?_⟩) hS5 ?_
      rotate_left
      · (intro w_ hS_; obtain _s := hS_; go_simp; try with_reducible rfl)
      refine wpAnyH_take (i := 12) (v := ?_) rfl (by kernel_rfl) (by kernel_rfl) (by kernel_rfl) (fun _ _ _ h => h) (Or.inl ⟨by rfl, ?_⟩) hS5 ?_
      rotate_left
      · (intro w_ hS_; obtain _s := hS_; go_simp; try with_reducible rfl)
      refine wpAnyH_take (i := 13) (v := ?_) rfl (by kernel_rfl) (by kernel_rfl) (by kernel_rfl) (fun _ _ _ h => h) (Or.inl ⟨by rfl, ?_⟩) hS5 ?_
      rotate_left
      · (intro w_ hS_; obtain _s := hS_; go_simp; try with_reducible rfl)
      have hc := fun j hj => row_cell HR5.out hxl j hj
      have c0 : w5.cell? ⟨g, t.e.kids.length * 7, none⟩ = some (.int .i64 0) := hc 0 (by omega)
      have c1 : w5.cell? ⟨g, t.e.kids.length * 7 + 1, none⟩ = some (.string ⟨#[]⟩) := hc 1 (by omega)
      have c2 : w5.cell? ⟨g, t.e.kids.length * 7 + 2, none⟩ = some (.string ⟨#[]⟩) := hc 2 (by omega)
      have c3 : w5.cell? ⟨g, t.e.kids.length * 7 + 3, none⟩ = some (.string ⟨#[]⟩) := hc 3 (by omega)
      have c4 : w5.cell? ⟨g, t.e.kids.length * 7 + 4, none⟩ = some (.bool false) := hc 4 (by omega)
      have c5 : w5.cell? ⟨g, t.e.kids.length * 7 + 5, none⟩ = some (.string ⟨#[]⟩) := hc 5 (by omega)
      have c6 : w5.cell? ⟨g, t.e.kids.length * 7 + 6, none⟩ = some (.slice none 0 0) := hc 6 (by omega)
      have f0 := HR5.out.frozenAt (t.e.kids.length * 7)
      have f1 := HR5.out.frozenAt (t.e.kids.length * 7 + 1)
      have f2 := HR5.out.frozenAt (t.e.kids.length * 7 + 2)
      have f3 := HR5.out.frozenAt (t.e.kids.length * 7 + 3)
      have f4 := HR5.out.frozenAt (t.e.kids.length * 7 + 4)
      have f5 := HR5.out.frozenAt (t.e.kids.length * 7 + 5)
      have f6 := HR5.out.frozenAt (t.e.kids.length * 7 + 6)
      have hst4 := hstk.below hb4
      have hrow5 := (hst4.row.kept HG5.out (.inr HF.out.2.2.1))
      rw [List.length_append, List.length_singleton] at hrow5
      have k8 : w5.cell? ⟨sb, r.length * 8 + 6, none⟩ = some (.slice Ak t.e.kids.length ck) := by
        rw [hrow5.cellAt _ (by omega)]
        exact stk_at (x := t) (kv := .slice Ak t.e.kids.length ck) r.length 6 (by omega) (by simp) (by rw [← hkr]; simp)
      have z8 := hrow5.frozenAt (r.length * 8 + 6)
      have HST := Lib.hid hst4
      clear hc hrow5 hst4
      have hst7 := row_store7 hxl HR5.out (.int .i64 e.kind) (.string (bs e.text)) (.string (bs e.src)) (.string (bs e.alt)) (.bool e.soft) (.string (bs e.test)) (.slice AE e.kids.length cE)
      have hS6 := hS5.grown hst7.2 (by simpa using fun e => hgE e.symm)
      have hS8 := hS5.far (p := ⟨sb, r.length * 8 + 6, none⟩) (show w.heap.size ≠ sb by omega) (.slice (some ⟨g, 0, none⟩) (t.e.kids.length + 1) capk)
      have hgS2 : sb ≠ g := fun e => hgS e.symm
      have hS9 : Blk (set7 (w5.setCell ⟨sb, r.length * 8 + 6, none⟩ (.slice (some ⟨g, 0, none⟩) (t.e.kids.length + 1) capk)) g (t.e.kids.length * 7) (.int .i64 e.kind) (.string (bs e.text)) (.string (bs e.src)) (.string (bs e.alt)) (.bool e.soft) (.string (bs e.test)) (.slice AE e.kids.length cE)) w.heap.size 74 #[.int .i64 e.kind, .string (bs e.text), .string (bs e.src), .string (bs e.alt), .bool e.soft, .string (bs e.test), (.slice AE e.kids.length cE)] := by
        rw [set7_far hgS2]
        exact hS6.far (p := ⟨sb, r.length * 8 + 6, none⟩) (show w.heap.size ≠ sb by omega) _
      clear hst7
      refine wpAnyH_ready (rs := [10, 14]) (by kernel_rfl) (by simp) ?_
      refine AllReadyH.cons rfl (fun K_ hK_ => ?_) (AllReadyH.cons rfl (fun K_ hK_ => ?_) AllReadyH.nil)
      · go_simp
        refine hK_.out _ _ (by exact hS6) fun _ => ?_
        clear hK_ K_
        refine wpAnyH_ready (rs := [14]) (by kernel_rfl) (by simp) ?_
        refine AllReadyH.cons rfl (fun K_ hK_ => ?_) AllReadyH.nil
        go_simp
        refine hK_.out _ _ (by exact hS6.far (p := ⟨sb, r.length * 8 + 6, none⟩) (show w.heap.size ≠ sb by omega) _) fun _ => ?_
        clear hK_ K_
        refine wpAnyH_done (by kernel_rfl) ?_ _
        go_wp2_with fail
        go_end0
        exact HE.out _ _ _ rfl HR5.out HG5.out HO5.out hlt5
      · go_simp
        refine hK_.out _ _ (by exact hS8) fun _ => ?_
        clear hK_ K_
        refine wpAnyH_ready (rs := [10]) (by kernel_rfl) (by simp) ?_
        refine AllReadyH.cons rfl (fun K_ hK_ => ?_) AllReadyH.nil
        go_simp
        refine hK_.out _ _ (by exact hS9) fun _ => ?_
        clear hK_ K_
        refine wpAnyH_done (by kernel_rfl) ?_ _
        go_wp2_with fail
        go_end0
        exact HE.out _ _ _ (set7_far hgS2 _ _ _ _ _ _ _ _).symm HR5.out HG5.out HO5.out hlt5
    · go_simp
      rw [← HW4.out]
      refine hK_.out _ _ (by exact hS4) fun _ => ?_
      clear hK_ K_
      have k74 : w4.cell? ⟨sb, r.length * 8 + 6, none⟩ = some (.slice Ak t.e.kids.length ck) := (World.cell?_of_block (hb4.block sb (by omega))).trans k6
      refine wpAnyH_ready (rs := [4]) (by kernel_rfl) (by simp) ?_
      refine AllReadyH.cons rfl (fun K_ hK_ => ?_) AllReadyH.nil
      go_simp
      refine hK_.out _ _ (by exact hS4) fun _ => ?_
      clear hK_ K_
      refine wpAnyH_take (i := 6) (v := ?_) rfl (by kernel_rfl) (by kernel_rfl) (by kernel_rfl) (fun _ _ _ h => h) (Or.inl ⟨by rfl, ?_⟩) hS4 ?_
      rotate_left
      · (intro w_ hS_; obtain _s := hS_; go_simp; try with_reducible rfl)
      refine wpAnyH_ready (rs := [8]) (by kernel_rfl) (by simp) ?_
      refine AllReadyH.cons rfl (fun K_ hK_ => ?_) AllReadyH.nil
      refine HAR.out.step (by rfl) _ _ _ (by rfl) elemTy (by rfl) (by rfl) ?_
      intro g capk w5 hrow5 hgr5 hor5 hlt5
      have HF := Lib.hid (put_facts hrow5 hgr5 hor5 hxl HKO.out HH.out hb04 hs4 hs1 hkr)
      obtain ⟨hgE, hgS, hgB⟩ := HF.out.1
      have hS5 : Blk w5 w.heap.size 74 #[.int .i64 e.kind, .string (bs e.text), .string (bs e.src), .string (bs e.alt), .bool e.soft, .string (bs e.test), (.slice AE e.kids.length cE)] := hS4.grown hgr5 HF.out.2.1
      have HR5 := Lib.hid hrow5
      have HG5 := Lib.hid hgr5
      have HO5 := Lib.hid hor5
      clear hrow5 hgr5 hor5
      refine hK_.out _ _ (by exact hS5) fun _ => ?_
      clear hK_ K_
      have hi1 : (0 : Int) ≤ (t.e.kids.length : Int) := by omega
      have hi2 : (t.e.kids.length : Int) < ((t.e.kids.length + 1 : Nat) : Int) := by omega
      have hi3 : (t.e.kids.length : Int) < (t.e.kids.length : Int) + 1 := by omega
      refine wpAnyH_take (i := 9) (v := ?_) rfl (by kernel_rfl) (by kernel_rfl) (by kernel_rfl) (fun _ _ _ h => h) (Or.inl ⟨by rfl, ?_⟩) hS5 ?_
      rotate_left
      · (intro w_ hS_; obtain _s := hS_; go_simp; try with_reducible rfl)
      refine wpAnyH_take (i := 11) (v := ?_) rfl (by kernel_rfl) (by kernel_rfl) (by kernel_rfl) (fun _ _ _ h => h) (Or.inl ⟨by rfl, ?_⟩) hS5 ?_
      rotate_left
      · (intro w_ hS_; obtain _s := hS_; go_simp; try with_reducible rfl)
      refine wpAnyH_take (i := 12) (v := ?_) rfl (by kernel_rfl) (by kernel_rfl) (by kernel_rfl) (fun _ _ _ h => h) (Or.inl ⟨by rfl, ?_⟩) hS5 ?_
      rotate_left
      · (intro w_ hS_; obtain _s := hS_; go_simp; try with_reducible rfl)
      refine wpAnyH_take (i := 13) (v := ?_) rfl (by kernel_rfl) (by kernel_rfl) (by kernel_rfl) (fun _ _ _ h => h) (Or.inl ⟨by rfl, ?_⟩) hS5 ?_
      rotate_left
      · (intro w_ hS_; obtain _s := hS_; go_simp; try with_reducible rfl)
      have hc := fun j hj => row_cell HR5.out hxl j hj
      have c0 : w5.cell? ⟨g, t.e.kids.length * 7, none⟩ = some (.int .i64 0) := hc 0 (by omega)
      have c1 : w5.cell? ⟨g, t.e.kids.length * 7 + 1, none⟩ = some (.string ⟨#[]⟩) := hc 1 (by omega)
      have c2 : w5.cell? ⟨g, t.e.kids.length * 7 + 2, none⟩ = some (.string ⟨#[]⟩) := hc 2 (by omega)
      have c3 : w5.cell? ⟨g, t.e.kids.length * 7 + 3, none⟩ = some (.string ⟨#[]⟩) := hc 3 (by omega)
      have c4 : w5.cell? ⟨g, t.e.kids.length * 7 + 4, none⟩ = some (.bool false) := hc 4 (by omega)
      have c5 : w5.cell? ⟨g, t.e.kids.length * 7 + 5, none⟩ = some (.string ⟨#[]⟩) := hc 5 (by omega)
      have c6 : w5.cell? ⟨g, t.e.kids.length * 7 + 6, none⟩ = some (.slice none 0 0) := hc 6 (by omega)
      have f0 := HR5.out.frozenAt (t.e.kids.length * 7)
      have f1 := HR5.out.frozenAt (t.e.kids.length * 7 + 1)
      have f2 := HR5.out.frozenAt (t.e.kids.length * 7 + 2)
      have f3 := HR5.out.frozenAt (t.e.kids.length * 7 + 3)
      have f4 := HR5.out.frozenAt (t.e.kids.length * 7 + 4)
      have f5 := HR5.out.frozenAt (t.e.kids.length * 7 + 5)
      have f6 := HR5.out.frozenAt (t.e.kids.length * 7 + 6)
      have hst4 := hstk.below hb4
      have hrow5 := (hst4.row.kept HG5.out (.inr HF.out.2.2.1))
      rw [List.length_append, List.length_singleton] at hrow5
      have k8 : w5.cell? ⟨sb, r.length * 8 + 6, none⟩ = some (.slice Ak t.e.kids.length ck) := by
        rw [hrow5.cellAt _ (by omega)]
        exact stk_at (x := t) (kv := .slice Ak t.e.kids.length ck) r.length 6 (by omega) (by simp) (by rw [← hkr]; simp)
      have z8 := hrow5.frozenAt (r.length * 8 + 6)
      have HST := Lib.hid hst4
      clear hc hrow5 hst4
      have hst7 := row_store7 hxl HR5.out (.int .i64 e.kind) (.string (bs e.text)) (.string (bs e.src)) (.string (bs e.alt)) (.bool e.soft) (.string (bs e.test)) (.slice AE e.kids.length cE)
      have hS6 := hS5.grown hst7.2 (by simpa using fun e => hgE e.symm)
      have hS8 := hS5.far (p := ⟨sb, r.length * 8 + 6, none⟩) (show w.heap.size ≠ sb by omega) (.slice (some ⟨g, 0, none⟩) (t.e.kids.length + 1) capk)
      have hgS2 : sb ≠ g := fun e => hgS e.symm
      have hS9 : Blk (set7 (w5.setCell ⟨sb, r.length * 8 + 6, none⟩ (.slice (some ⟨g, 0, none⟩) (t.e.kids.length + 1) capk)) g (t.e.kids.length * 7) (.int .i64 e.kind) (.string (bs e.text)) (.string (bs e.src)) (.string (bs e.alt)) (.bool e.soft) (.string (bs e.test)) (.slice AE e.kids.length cE)) w.heap.size 74 #[.int .i64 e.kind, .string (bs e.text), .string (bs e.src), .string (bs e.alt), .bool e.soft, .string (bs e.test), (.slice AE e.kids.length cE)] := by
        rw [set7_far hgS2]
        exact hS6.far (p := ⟨sb, r.length * 8 + 6, none⟩) (show w.heap.size ≠ sb by omega) _
      clear hst7
      refine wpAnyH_ready (rs := [10, 14]) (by kernel_rfl) (by simp) ?_
      refine AllReadyH.cons rfl (fun K_ hK_ => ?_) (AllReadyH.cons rfl (fun K_ hK_ => ?_) AllReadyH.nil)
      · go_simp
        refine hK_.out _ _ (by exact hS6) fun _ => ?_
        clear hK_ K_
        refine wpAnyH_ready (rs := [14]) (by kernel_rfl) (by simp) ?_
        refine AllReadyH.cons rfl (fun K_ hK_ => ?_) AllReadyH.nil
        go_simp
        refine hK_.out _ _ (by exact hS6.far (p := ⟨sb, r.length * 8 + 6, none⟩) (show w.heap.size ≠ sb by omega) _) fun _ => ?_
        clear hK_ K_
        refine wpAnyH_done (by kernel_rfl) ?_ _
        go_wp2_with fail
        go_end0
        exact HE.out _ _ _ rfl HR5.out HG5.out HO5.out hlt5
      · go_simp
        refine hK_.out _ _ (by exact hS8) fun _ => ?_
        clear hK_ K_
        refine wpAnyH_ready (rs := [10]) (by kernel_rfl) (by simp) ?_
        refine AllReadyH.cons rfl (fun K_ hK_ => ?_) AllReadyH.nil
        go_simp
        refine hK_.out _ _ (by exact hS9) fun _ => ?_
        clear hK_ K_
        refine wpAnyH_done (by kernel_rfl) ?_ _
        go_wp2_with fail
        go_end0
        exact HE.out _ _ _ (set7_far hgS2 _ _ _ _ _ _ _ _).symm HR5.out HG5.out HO5.out hlt5
end Go.Proofs.YtijpfcjlochahaaGreatDoor
