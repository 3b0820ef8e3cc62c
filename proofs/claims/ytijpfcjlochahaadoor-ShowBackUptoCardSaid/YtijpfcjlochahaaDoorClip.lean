/- append behind a slice that has no room: what was there, and what is appended, lie in a block of their own. No program is named here. -/
import Derived.Test.YtijpfcjlochahaaDoorBase
namespace Go.Proofs.YtijpfcjlochahaaDoor
open Go Go.RowKit
section
variable {P : Program} {w : World}
theorem run_append_clip0 (t ty e : TypeId) (i : TypeInfo) (ht : P.underlying t = some (.slice e)) (hi : P.info? e = some i) (A Ax : Option Addr) (n cx : Nat) (hA : A = none → n = 0) :
    (Builtin.append_ #[t, t] ty #[.slice A n n, .slice Ax 0 cx]).run P w = .ok (.slice A n n) w := by
  have hx : (Builtin.firstCells i.size 0 (.slice Ax 0 cx)).run P w = .ok #[] w := by
    cases Ax <;> simp [Builtin.firstCells, loadCells, loadCellsFrom]
  cases A with
  | none =>
    have hn := hA rfl
    subst hn
    simp [Builtin.append_, run_underlying ht, sizeOf, typeInfo, hi, Builtin.lenOf, hx]
  | some a =>
    simp [Builtin.append_, run_underlying ht, sizeOf, typeInfo, hi, Builtin.lenOf, hx, storeCells]
/-- The elements that lie behind one another. -/
theorem run_append_clip {t ty e : TypeId} {size bytes : Nat} (hT : ElemTy P t e size bytes) {F : Nat → Prop} {l m : List GV} {A Ax : Option Addr} {cx : Nat} (hl : GR w F (.row size l) [.slice A l.length l.length]) (hm : GR w F (.row size m) [.slice Ax m.length cx])
    (h63 : l.length + m.length ≤ maxLen) (hbytes : (l.length + m.length) * bytes ≤ 140737488355328) :
    ∃ A' c' w', (Builtin.append_ #[t, t] ty #[.slice A l.length l.length, .slice Ax m.length cx]).run P w = .ok (.slice A' (l.length + m.length) c') w' ∧
      GR w' (fun g => F g ∨ w.heap.size ≤ g) (.row size (l ++ m)) [.slice A' (l.length + m.length) c'] ∧ Below w.heap.size w w' := by
  obtain ⟨i, z, ht, hi, hz, hsize, hby, hzs, hsz⟩ := hT
  subst hsize hby
  obtain ⟨A1, c1, xs, h1, h2, h3, h4, h5, h6⟩ := GR_row.1 hl
  obtain ⟨A2, c2, ys, k1, k2, k3, k4, k5, k6⟩ := GR_row.1 hm
  simp only [List.cons.injEq, and_true] at h1 k1
  injection h1 with e1 e2 e3
  injection k1 with d1 d2 d3
  subst e1 e3 d1 d3
  have hnil : ∀ {q : List Value} {B : Option Addr} {n : Nat}, Cells w F B q → q.length = n * i.size → B = none → n = 0 := by
    intro q B n hq hql hB
    subst hB
    have hq0 : q = [] := Classical.byContradiction fun h => by
      obtain ⟨b, o, hb, -⟩ := hq h
      cases hb
    subst hq0
    rcases Nat.mul_eq_zero.1 hql.symm with h | h
    · exact h
    · omega
  have hcells : ∀ {q : List Value} {ad : Addr}, Cells w F (some ad) q → ∀ j u, q[j]? = some u → w.cell? (ad.add j) = some u := by
    intro q ad hq j u hu
    obtain ⟨b, o, hb, -, hc⟩ := hq (by rintro rfl; simp at hu)
    injection hb with hb
    subst hb
    have hadd : (⟨b, o, none⟩ : Addr).add j = ⟨b, o + j, none⟩ := by unfold Addr.add; split <;> simp_all
    rw [hadd]
    exact hc j u hu
  rcases Nat.eq_zero_or_pos m.length with hm0 | hm0
  · have hmm := List.eq_nil_of_length_eq_zero hm0
    subst hmm
    refine ⟨A, l.length, w, ?_, ?_, Below.refl _ _⟩
    · exact run_append_clip0 t ty e i ht hi A Ax l.length _ (fun h => hnil h5 h4 h)
    · rw [List.append_nil, List.length_nil, Nat.add_zero]
      exact hl.weaken fun g hg => .inl hg
  · obtain ⟨ax, rfl⟩ : ∃ ax, Ax = some ax := by
      cases Ax with
      | none => exact absurd (hnil k5 k4 rfl) (by omega)
      | some ax => exact ⟨ax, rfl⟩
    have hnews := hcells k5
    have hfit : ∀ old, old < l.length + m.length → Builtin.nextslicecap (l.length + m.length) old * i.bytes ≤ 281474976710656 := fun old ho => growslice_fits ho hbytes
    have fin : ∀ old, old < l.length + m.length →
        GR (w.drew.alloc (.cells (xs.toArray ++ ys.toArray ++ Builtin.zeroCells z.cells (grownCap w (l.length + m.length) old e - (l.length + m.length))) e)) (fun g => F g ∨ w.heap.size ≤ g) (.row i.size (l ++ m)) [.slice (some ⟨w.heap.size, 0, none⟩) (l.length + m.length) (grownCap w (l.length + m.length) old e)] ∧
        Below w.heap.size w (w.drew.alloc (.cells (xs.toArray ++ ys.toArray ++ Builtin.zeroCells z.cells (grownCap w (l.length + m.length) old e - (l.length + m.length))) e)) := by
      intro old ho
      have hb : Below w.heap.size w (w.drew.alloc (.cells (xs.toArray ++ ys.toArray ++ Builtin.zeroCells z.cells (grownCap w (l.length + m.length) old e - (l.length + m.length))) e)) := (Below.refl _ _).drew.alloc (Nat.le_refl _) _
      refine ⟨GR_row.2 ⟨_, _, xs ++ ys, by rw [List.length_append], ?_, ?_, ?_, ?_, ?_⟩, hb⟩
      · rw [List.length_append]; exact grownCap_ge w _ old e
      · exact grownCap_le_maxLen w _ old e h63
      · rw [List.length_append, h4, k4, List.length_append, Nat.add_mul]
      · intro _
        refine ⟨w.heap.size, 0, rfl, .inr (Nat.le_refl _), fun j u hu => ?_⟩
        have hnew : Blk (w.drew.alloc (.cells (xs.toArray ++ ys.toArray ++ Builtin.zeroCells z.cells (grownCap w (l.length + m.length) old e - (l.length + m.length))) e)) w.heap.size e (xs.toArray ++ ys.toArray ++ Builtin.zeroCells z.cells (grownCap w (l.length + m.length) old e - (l.length + m.length))) := Blk.new w.drew _ _
        rw [Nat.zero_add, hnew.cell]
        have hj := (List.getElem?_eq_some_iff.1 hu).1
        rw [List.length_append] at hj
        rw [Array.getElem?_append_left (by simp; omega)]
        simpa using hu
      · have h7 := GRl.append k6 h6
        exact GRl.mono (fun k hk => .inl hk.1) (fun k hk hlt => hb.block k hlt) i.size _ _ (GRl.lt_heap i.size _ _ h7)
    cases A with
    | none =>
      have hl0 : l.length = 0 := hnil h5 h4 rfl
      have hll := List.eq_nil_of_length_eq_zero hl0
      subst hll
      have hxs : xs = [] := List.eq_nil_of_length_eq_zero (by simpa using h4)
      subst hxs
      have hr := run_append_nil (P := P) w t ty e i z ht hi hz ax m.length cx ys k4 hnews hm0 (by simp only [maxLen, List.length_nil] at h63; omega) (by simp only [List.length_nil, Nat.zero_add] at hbytes; omega)
      have hf := fin 0 (by simp; omega)
      simp only [List.length_nil, Nat.zero_add, List.nil_append, Array.empty_append] at hf ⊢
      exact ⟨_, _, _, hr, hf.1, hf.2⟩
    | some ad =>
      have hr := run_append_grow (P := P) w t ty e i z ht hi hz ad l.length l.length xs h4 (hcells h5) ax m.length cx ys k4 hnews (by omega) (by simp only [maxLen] at h63; omega) (hfit _ (by omega))
      have hf := fin l.length (by omega)
      exact ⟨_, _, _, hr, hf.1, hf.2⟩
theorem step_append_clip {ops : Array Oper} {o : Oper} {a : Act} {K : Act → World → Prop} {Q : Exit → Act → World → Prop} {E : Prop} (hgd : o.guard = none) (s x : Operand) (t : TypeId)
    (ho : o.op = .call { callee := .builtin .append, args := #[s, x], argTypes := #[t, t] })
    {e : TypeId} {size bytes : Nat} (hT : ElemTy P t e size bytes) {F : Nat → Prop} {l m : List GV} {A Ax : Option Addr} {n k cx : Nat} (hs : a.eval s = .slice A n n) (hv : a.eval x = .slice Ax k cx) (hn : n = l.length) (hk : k = m.length)
    (hl : GR w F (.row size l) [.slice A n n]) (hm : GR w F (.row size m) [.slice Ax k cx]) (h63 : l.length + m.length ≤ maxLen) (hbytes : (l.length + m.length) * bytes ≤ 140737488355328)
    (h : ∀ A' c' w', GR w' (fun g => F g ∨ w.heap.size ≤ g) (.row size (l ++ m)) [.slice A' (n + k) c'] → Below w.heap.size w w' → K (a.put o.dst (.slice A' (n + k) c')) w') :
    if Region.wanted o (yielded ops a.tmps) = true then Oper.wp P o a w K Q else E := by
  have hw : Region.wanted o (yielded ops a.tmps) = true := by simp [Region.wanted, hgd]
  rw [if_pos hw]
  subst hn hk
  obtain ⟨A', c', w', hrun, h2, h3⟩ := run_append_clip (P := P) (ty := o.type) hT hl hm h63 hbytes
  unfold Oper.wp execOp
  simp only [ho, resolve, invoke, builtin, Sem.run_bind, Sem.run_pure, Result.andThen_ok, List.map_toArray, List.map_cons, List.map_nil, hs, hv, hrun]
  exact h A' c' w' h2 h3
end
end Go.Proofs.YtijpfcjlochahaaDoor
