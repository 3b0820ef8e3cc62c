/- Memory of a builder: its stack of open elements, each with a slice of its own. No program is named here. -/
import Derived.Test.YtijpfcjlochahaaGreatDoorDocF
import Derived.Test.YtijpfcjlochahaaGreatDoorApp
import Derived.WalkSmall
import Derived.Deep.AppendLies
set_option linter.unusedVariables false
set_option linter.unusedSimpArgs false
namespace Go.Proofs.YtijpfcjlochahaaGreatDoor
open Go Go.RowKit

/-- All that an append of one element to a row of the call's own asks, its cells told. -/
structure AppRaw (w : World) (base : Nat) (e : TypeId) (size bytes : Nat) (v : Value) (n : Nat) (xs : List Value) (ad : Addr) (news : List Value) : Prop where
  own : w.ownsRow base e size v n xs
  hl : news.length = 1 * size
  hnews : ∀ j u, news[j]? = some u → w.cell? (ad.add j) = some u
  one : ∀ u ∈ news, u.oneCell' = true
  h63 : n + 1 ≤ maxLen
  hbytes : (n + 1) * bytes ≤ 140737488355328
  hbase : base ≤ w.heap.size
theorem AppRaw.step {P : Program} {w : World} {base : Nat} {e : TypeId} {size bytes n c : Nat} {v : Value} {xs news : List Value} {ad : Addr} {ops : Array Oper} {o : Oper} {a : Act} {K : Act → World → Prop} {Q : Exit → Act → World → Prop} {E : Prop}
    (H : AppRaw w base e size bytes v n xs ad news) (hgd : o.guard = none) (s x : Operand) (t : TypeId) (ho : o.op = .call { callee := .builtin .append, args := #[s, x], argTypes := #[t, t] }) (hT : ElemTy P t e size bytes)
    (hs : a.eval s = v) (hx : a.eval x = .slice (some ad) 1 c)
    (h : ∀ g cap w', w'.ownsRow base e size (.slice (some ⟨g, 0, none⟩) (n + 1) cap) (n + 1) (xs ++ news) → w.grownBy w' v.ownBlock → (v.ownBlock = some g ∨ g = w.heap.size) → g < w'.heap.size → K (a.put o.dst (.slice (some ⟨g, 0, none⟩) (n + 1) cap)) w') :
    if Region.wanted o (yielded ops a.tmps) = true then Oper.wp P o a w K Q else E := by
  obtain ⟨i, z, ht, hi, hz, hsize, hby, hzs, hsz⟩ := hT
  exact step_append_lies w hgd s x t ho base e i z size bytes ht hi hz hsize hby hzs hsz v n xs hs H.own ad 1 c news hx H.hl H.hnews H.one (by omega) H.h63 H.hbytes H.hbase w.heap.size rfl h
/-- The cells of an open element, whose elements lie in the slice kv. -/
def levCells (x : Level) (kv : Value) : List Value :=
  [.int .i64 x.e.kind, .string (bs x.e.text), .string (bs x.e.src), .string (bs x.e.alt), .bool x.e.soft, .string (bs x.e.test), kv, .string (bs x.name)]
def stkCells : List Level → List Value → List Value
  | x :: st, kv :: kvs => levCells x kv ++ stkCells st kvs
  | _, _ => []
theorem stk_len : ∀ {st : List Level} {kvs : List Value}, kvs.length = st.length → (stkCells st kvs).length = st.length * 8
  | [], [], _ => rfl
  | [], _ :: _, h => by simp at h
  | _ :: _, [], h => by simp at h
  | x :: st, kv :: kvs, h => by
    have := stk_len (st := st) (kvs := kvs) (by simpa using h)
    simp only [stkCells, List.length_append, List.length_cons, this, levCells, List.length_nil]
    omega
theorem stk_at : ∀ {st : List Level} {kvs : List Value} (i : Nat) {x : Level} {kv : Value} (j : Nat), j < 8 → st[i]? = some x → kvs[i]? = some kv → (stkCells st kvs)[i * 8 + j]? = (levCells x kv)[j]?
  | [], _, _, _, _, _, _, h, _ => by simp at h
  | _ :: _, [], _, _, _, _, _, _, h => by simp at h
  | x :: st, kv :: kvs, 0, x', kv', j, hj, h1, h2 => by
    simp only [List.getElem?_cons_zero, Option.some.injEq] at h1 h2
    subst h1 h2
    rw [Nat.zero_mul, Nat.zero_add, stkCells, List.getElem?_append_left (by simpa [levCells] using hj)]
  | x :: st, kv :: kvs, i + 1, x', kv', j, hj, h1, h2 => by
    simp only [List.getElem?_cons_succ] at h1 h2
    have e : (i + 1) * 8 + j = (levCells x kv).length + (i * 8 + j) := by
      rw [Nat.add_mul]; simp only [levCells, List.length_cons, List.length_nil]; omega
    rw [stkCells, e, List.getElem?_append_right (by omega), Nat.add_sub_cancel_left]
    exact stk_at i j hj h1 h2
theorem stk_append : ∀ {st st' : List Level} {kvs kvs' : List Value}, kvs.length = st.length → stkCells (st ++ st') (kvs ++ kvs') = stkCells st kvs ++ stkCells st' kvs'
  | [], _, [], _, _ => rfl
  | [], _, _ :: _, _, h => by simp at h
  | _ :: _, _, [], _, h => by simp at h
  | x :: st, st', kv :: kvs, kvs', h => by
    simp only [List.cons_append, stkCells]
    rw [stk_append (by simpa using h), List.append_assoc]
/-- The slice of the last open element's elements is another one. -/
theorem stk_setKids (st : List Level) (kvs : List Value) (t : Level) (l : List Elem) (kv kv' : Value) (h : kvs.length = st.length) :
    (stkCells (st ++ [t]) (kvs ++ [kv])).set (st.length * 8 + 6) kv' = stkCells (st ++ [⟨t.e.setKids l, t.name⟩]) (kvs ++ [kv']) := by
  rw [stk_append h, stk_append h, List.set_append_right _ _ (by rw [stk_len h]; omega), stk_len h, Nat.add_sub_cancel_left]
  obtain ⟨⟨k, tx, s, a, b, u, ks⟩, nm⟩ := t
  rfl

/-- The stack: the page first, the open element last. own tells which open element a block belongs to. -/
structure Stk (w : World) (base : Nat) (tl te : TypeId) (v : Value) (st : List Level) (kvs : List Value) (own : Nat → Option Nat) : Prop where
  len : kvs.length = st.length
  row : w.ownsRow base tl 8 v st.length (stkCells st kvs)
  kid : ∀ (i : Nat) (x : Level) (kv : Value), st[i]? = some x → kvs[i]? = some kv → OwnR w base te 7 (fun g => own g = some i) kv (x.e.kids.map Elem.gv) ∧ ∀ k, kv.ownBlock = some k → own k = some i
  sep : ∀ k, v.ownBlock = some k → own k = none
  lt : ∀ g i, own g = some i → base ≤ g ∧ g < w.heap.size
section
variable {w w' : World} {base : Nat} {tl te : TypeId} {v : Value} {st : List Level} {kvs : List Value} {own : Nat → Option Nat}
/-- Something else turned. -/
theorem Stk.kept (h : Stk w base tl te v st kvs own) {row : Option Nat} (hg : w.grownBy w' row) (hr : ∀ k, row = some k → own k = none ∧ v.ownBlock ≠ some k) : Stk w' base tl te v st kvs own := by
  refine ⟨h.len, ?_, fun i x kv h1 h2 => ?_, h.sep, fun g i hi => ⟨(h.lt g i hi).1, Nat.lt_of_lt_of_le (h.lt g i hi).2 hg.size⟩⟩
  · refine h.row.kept hg ?_
    cases hv : v.ownBlock with
    | none => exact .inl rfl
    | some k => exact .inr fun e => (hr k e.symm).2 hv
  · obtain ⟨h3, h4⟩ := h.kid i x kv h1 h2
    refine ⟨h3.kept hg ?_ fun k hk e => ?_, h4⟩
    · cases hv : kv.ownBlock with
      | none => exact .inl rfl
      | some k =>
        refine .inr fun e => ?_
        have h5 := h4 k hv
        rw [(hr k e.symm).1] at h5
        cases h5
    · have h5 := (hr k e.symm).1
      rw [hk] at h5
      cases h5
theorem Stk.below (h : Stk w base tl te v st kvs own) (hb : Below w.heap.size w w') : Stk w' base tl te v st kvs own :=
  h.kept (row := none) ⟨hb.os, hb.tape, hb.output, hb.size, fun k hk _ => hb.block k hk⟩ (fun k e => by cases e)
/-- Other open elements' blocks are not this one's. -/
theorem own_ne {k i j : Nat} (h1 : own k = some i) (h2 : own k = some j) : i = j := by rw [h1] at h2; exact Option.some.inj h2

/-- One more element behind those of the open one: its slice was appended to (w1), and its cell in the stack stored (w2). T: the blocks that the element leads to. -/
theorem Stk.put {w1 w2 : World} {r : List Level} {t : Level} {kvr : List Value} {kv kv' : Value} {e : Elem} {T : Nat → Prop} {sb cap : Nat}
    (h : Stk w base tl te (.slice (some ⟨sb, 0, none⟩) (r.length + 1) cap) (r ++ [t]) (kvr ++ [kv]) own) (hkr : kvr.length = r.length)
    (hg1 : w.grownBy w1 kv.ownBlock) (hT : ∀ g, T g → own g = none ∧ sb ≠ g ∧ base ≤ g ∧ g < w1.heap.size)
    (ho : OwnR w1 base te 7 (fun g => own g = some r.length ∨ T g) kv' ((t.e.kids ++ [e]).map Elem.gv)) (hor : kv'.ownBlock = kv.ownBlock ∨ kv'.ownBlock = some w.heap.size)
    (h2 : w2 = w1.setCell ⟨sb, r.length * 8 + 6, none⟩ kv') :
    ∃ own', Stk w2 base tl te (.slice (some ⟨sb, 0, none⟩) (r.length + 1) cap) (r ++ [⟨t.e.setKids (t.e.kids ++ [e]), t.name⟩]) (kvr ++ [kv']) own' ∧
      (∀ g, own g = none → ¬ T g → g < w.heap.size → own' g = none) := by
  subst h2
  have hsb := h.sep sb rfl
  have hlast : (r ++ [t])[r.length]? = some t := by simp
  have hkvl : (kvr ++ [kv])[r.length]? = some kv := by rw [← hkr]; simp
  obtain ⟨hk1, hk2⟩ := h.kid r.length t kv hlast hkvl
  have hsbk : some sb ≠ kv.ownBlock := fun e => by have := hk2 sb e.symm; rw [hsb] at this; cases this
  have hsl := (h.row.lt sb rfl).2
  have hsbk' : some sb ≠ kv'.ownBlock := by
    rcases hor with e | e <;> rw [e]
    · exact hsbk
    · simp; omega
  -- the stack's row
  have hrow1 : w1.ownsRow base tl 8 (.slice (some ⟨sb, 0, none⟩) (r.length + 1) cap) (r.length + 1) (stkCells (r ++ [t]) (kvr ++ [kv])) := by
    have := h.row.kept hg1 (.inr hsbk)
    rwa [List.length_append, List.length_singleton] at this
  obtain ⟨hrow2, hg2⟩ := hrow1.stored (r.length * 8 + 6) kv'
  rw [stk_setKids r kvr t (t.e.kids ++ [e]) kv kv' hkr] at hrow2
  classical
  have hown' : ∀ k, kv'.ownBlock = some k → base ≤ k ∧ k < w1.heap.size := ho.lt
  refine ⟨fun g => if T g ∨ kv'.ownBlock = some g then some r.length else own g, ⟨?_, ?_, ?_, ?_, ?_⟩, ?_⟩
  · simp only [List.length_append, List.length_singleton, hkr]
  · rw [List.length_append, List.length_singleton]; exact hrow2
  · intro i x kx hx1 hx2
    by_cases hi : i = r.length
    · subst hi
      have e1 : x = ⟨t.e.setKids (t.e.kids ++ [e]), t.name⟩ := by simpa using hx1.symm
      have e2 : kx = kv' := by
        have : (kvr ++ [kv'])[r.length]? = some kv' := by rw [← hkr]; simp
        rw [this] at hx2; exact (Option.some.inj hx2).symm
      subst e1 e2
      refine ⟨?_, fun k hk => by simp [hk]⟩
      simp only [Elem.kids_setKids]
      refine (ho.kept hg2 (.inr hsbk'.symm) (fun k hk e => ?_)).weaken (Nat.le_refl _) (fun k hk => ?_)
      · injection e with e
        subst e
        rcases hk with hk | hk
        · rw [hsb] at hk; cases hk
        · exact (hT _ hk).2.1 rfl
      · rcases hk with hk | hk
        · by_cases hc : T k ∨ kx.ownBlock = some k
          · simp only [if_pos hc]
          · simp only [if_neg hc]; exact hk
        · simp only [if_pos (Or.inl hk)]
    · have hlt : i < r.length := by
        have := (List.getElem?_eq_some_iff.1 hx1).1
        simp only [List.length_append, List.length_singleton] at this
        omega
      have hx1' : (r ++ [t])[i]? = some x := by rw [List.getElem?_append_left hlt] at hx1 ⊢; exact hx1
      have hx2' : (kvr ++ [kv])[i]? = some kx := by rw [List.getElem?_append_left (by omega)] at hx2 ⊢; exact hx2
      obtain ⟨h3, h4⟩ := h.kid i x kx hx1' hx2'
      have hnk : ∀ k, own k = some i → some k ≠ kv.ownBlock := fun k hk e => hi (own_ne hk (hk2 k e.symm))
      have hcond : ∀ k, own k = some i → ¬ (T k ∨ kv'.ownBlock = some k) := by
        rintro k hk (hc | hc)
        · rw [(hT k hc).1] at hk; cases hk
        · rcases hor with e | e
          · exact hnk k hk (by rw [← e, hc])
          · rw [e] at hc
            injection hc with hc
            have := (h.lt k i hk).2
            omega
      refine ⟨?_, fun k hk => by simp only [if_neg (hcond k (h4 k hk))]; exact h4 k hk⟩
      have h5 := h3.kept hg1 (by cases hv : kx.ownBlock with
        | none => exact .inl rfl
        | some k => exact .inr (by rw [← hv]; rw [hv]; exact hnk k (h4 k hv))) (fun k hk => hnk k hk)
      have h6 := h5.kept hg2 (by cases hv : kx.ownBlock with
        | none => exact .inl rfl
        | some k => exact .inr (fun e => by injection e with e; subst e; have := h4 _ hv; rw [hsb] at this; cases this)) (fun k hk e => by injection e with e; subst e; rw [hsb] at hk; cases hk)
      exact h6.weaken (Nat.le_refl _) (fun k hk => by simp only [if_neg (hcond k hk)]; exact hk)
  · intro k hk
    have hk : sb = k := by simpa [Value.ownBlock] using hk
    subst hk
    have hc : ¬ (T sb ∨ kv'.ownBlock = some sb) := by
      rintro (hc | hc)
      · exact (hT sb hc).2.1 rfl
      · exact hsbk' hc.symm
    simp only [if_neg hc]
    exact hsb
  · intro g i hgi
    have hz : (w1.setCell ⟨sb, r.length * 8 + 6, none⟩ kv').heap.size = w1.heap.size := by simp [World.setCell]
    rw [hz]
    by_cases hc : T g ∨ kv'.ownBlock = some g
    · rcases hc with hc | hc
      · exact ⟨(hT g hc).2.2.1, (hT g hc).2.2.2⟩
      · exact hown' g hc
    · simp only [if_neg hc] at hgi
      have := h.lt g i hgi
      exact ⟨this.1, Nat.lt_of_lt_of_le this.2 hg1.size⟩
  · intro g hg hnt hlt
    have hc : ¬ (T g ∨ kv'.ownBlock = some g) := by
      rintro (hc | hc)
      · exact hnt hc
      · rcases hor with e | e
        · have := hk2 g (by rw [← e, hc]); rw [hg] at this; cases this
        · rw [e] at hc
          injection hc with hc
          omega
    simp only [if_neg hc]
    exact hg
/-- A new element is open. -/
theorem Stk.push {w1 : World} {x : Level} {g cap : Nat} (h : Stk w base tl te v st kvs own) (hx : x.e.kids = []) (hg1 : w.grownBy w1 v.ownBlock)
    (hrow : w1.ownsRow base tl 8 (.slice (some ⟨g, 0, none⟩) (st.length + 1) cap) (st.length + 1) (stkCells st kvs ++ levCells x (.slice none 0 0))) (hor : v.ownBlock = some g ∨ g = w.heap.size) :
    Stk w1 base tl te (.slice (some ⟨g, 0, none⟩) (st.length + 1) cap) (st ++ [x]) (kvs ++ [.slice none 0 0]) own := by
  refine ⟨by simp [h.len], ?_, ?_, ?_, fun k i hk => ⟨(h.lt k i hk).1, Nat.lt_of_lt_of_le (h.lt k i hk).2 hg1.size⟩⟩
  · rw [stk_append h.len, List.length_append, List.length_singleton]
    have e : stkCells [x] [.slice none 0 0] = levCells x (.slice none 0 0) := by simp [stkCells]
    rw [e]; exact hrow
  · intro i y kv h1 h2
    by_cases hi : i = st.length
    · subst hi
      have e1 : y = x := by simpa using h1.symm
      have e2 : kv = .slice none 0 0 := by
        rw [← h.len] at h2
        simpa using h2.symm
      subst e1 e2
      rw [hx]
      exact ⟨OwnR.nil _ _ _ _ _, fun k hk => by cases hk⟩
    · have hlt : i < st.length := by
        have := (List.getElem?_eq_some_iff.1 h1).1
        simp only [List.length_append, List.length_singleton] at this
        omega
      rw [List.getElem?_append_left hlt] at h1
      rw [List.getElem?_append_left (by rw [h.len]; exact hlt)] at h2
      obtain ⟨h3, h4⟩ := h.kid i y kv h1 h2
      have hne : ∀ k, own k = some i → some k ≠ v.ownBlock := fun k hk e => by
        have := h.sep k e.symm
        rw [this] at hk; cases hk
      refine ⟨h3.kept hg1 ?_ hne, h4⟩
      cases hv : kv.ownBlock with
      | none => exact .inl rfl
      | some k => exact .inr (hne k (h4 k hv))
  · intro k hk
    have hk : g = k := by simpa [Value.ownBlock] using hk
    subst hk
    rcases hor with e | e
    · exact h.sep g e
    · cases ho : own g with
      | none => rfl
      | some i => have := (h.lt g i ho).2; omega
/-- The last element is no longer open: what it leads to is nobody's. -/
theorem Stk.pop {r : List Level} {t : Level} {kvr : List Value} {kv : Value} {sb cap : Nat}
    (h : Stk w base tl te (.slice (some ⟨sb, 0, none⟩) (r.length + 1) cap) (r ++ [t]) (kvr ++ [kv]) own) (hkr : kvr.length = r.length) :
    ∃ own', Stk w base tl te (.slice (some ⟨sb, 0, none⟩) r.length cap) r kvr own' ∧ (∀ g, own g = some r.length → own' g = none) ∧ (∀ g, own g = none → own' g = none) := by
  classical
  refine ⟨fun g => if own g = some r.length then none else own g, ⟨hkr, ?_, ?_, ?_, ?_⟩, fun g hg => by simp [hg], fun g hg => by simp [hg]⟩
  · have h1 := h.row
    rw [stk_append hkr, List.length_append, List.length_singleton] at h1
    exact ownsRow_pop (stk_len hkr) h1
  · intro i x kx h1 h2
    have hlt := (List.getElem?_eq_some_iff.1 h1).1
    obtain ⟨h3, h4⟩ := h.kid i x kx (by rw [List.getElem?_append_left hlt]; exact h1) (by rw [List.getElem?_append_left (by omega)]; exact h2)
    have hc : ∀ k, own k = some i → ¬ own k = some r.length := fun k hk e => by have := own_ne hk e; omega
    exact ⟨h3.weaken (Nat.le_refl _) (fun k hk => by simp only [if_neg (hc k hk)]; exact hk), fun k hk => by simp only [if_neg (hc k (h4 k hk))]; exact h4 k hk⟩
  · intro k hk
    have := h.sep k hk
    simp [this]
  · intro g i hgi
    by_cases hc : own g = some r.length
    · simp [hc] at hgi
    · simp only [if_neg hc] at hgi
      exact h.lt g i hgi
end
end Go.Proofs.YtijpfcjlochahaaGreatDoor
