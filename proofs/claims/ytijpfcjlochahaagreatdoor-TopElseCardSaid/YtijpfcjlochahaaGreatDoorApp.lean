/- All that an append to a slice of the call's own asks, under one name. No program is named here. -/
import Derived.Test.YtijpfcjlochahaaGreatDoorBase
set_option linter.unusedVariables false
set_option linter.unusedSimpArgs false
namespace Go.Proofs.YtijpfcjlochahaaGreatDoor
open Go Go.RowKit

structure App (w : World) (base : Nat) (e : TypeId) (size bytes : Nat) (G : Nat → Prop) (v : Value) (l : List GV) (A : Option Addr) (n : Nat) (m : List GV) (news : List Value) (k : Nat) : Prop where
  own : OwnR w base e size G v l
  hn : n = m.length
  hx : Cells w (fun _ => True) A news
  hr : GRl w (fun k => G k ∧ some k ≠ v.ownBlock) size m news
  h63 : l.length + m.length ≤ maxLen
  hbytes : (l.length + m.length) * bytes ≤ 140737488355328
  hbase : base ≤ w.heap.size
  hk : k = (l ++ m).length
section
variable {P : Program} {w : World} {base : Nat} {e : TypeId} {size bytes : Nat} {G : Nat → Prop} {v : Value} {l : List GV} {A : Option Addr} {n c k : Nat} {m : List GV} {news : List Value}
theorem App.step {ops : Array Oper} {o : Oper} {a : Act} {K : Act → World → Prop} {Q : Exit → Act → World → Prop} {E : Prop} (H : App w base e size bytes G v l A n m news k) (hgd : o.guard = none) (s x : Operand) (t : TypeId)
    (ho : o.op = .call { callee := .builtin .append, args := #[s, x], argTypes := #[t, t] }) (hT : ElemTy P t e size bytes) (hs : a.eval s = v) (hv : a.eval x = .slice A n c)
    (h : ∀ A' c' w', OwnR w' base e size G (.slice A' k c') (l ++ m) → w.grownBy w' v.ownBlock → ((Value.slice A' k c').ownBlock = v.ownBlock ∨ (Value.slice A' k c').ownBlock = some w.heap.size) →
      K (a.put o.dst (.slice A' k c')) w') : if Region.wanted o (yielded ops a.tmps) = true then Oper.wp P o a w K Q else E :=
  step_append_S hgd s x t ho hT hs H.own H.hn hv H.hx H.hr H.h63 H.hbytes H.hbase H.hk h
theorem App.plain {ops : Array Oper} {rest : List Oper} {o : Oper} {a : Act} {Q : Exit → Act → World → Prop} (H : App w base e size bytes G v l A n m news k) (hgd : o.guard = none) (s x : Operand) (t : TypeId)
    (ho : o.op = .call { callee := .builtin .append, args := #[s, x], argTypes := #[t, t] }) (hT : ElemTy P t e size bytes) (hs : a.eval s = v) (hv : a.eval x = .slice A n c)
    (h : ∀ A' c' w', OwnR w' base e size G (.slice A' k c') (l ++ m) → w.grownBy w' v.ownBlock → ((Value.slice A' k c').ownBlock = v.ownBlock ∨ (Value.slice A' k c').ownBlock = some w.heap.size) →
      wpList P ops Q rest (a.put o.dst (.slice A' k c')) w') : wpList P ops Q (o :: rest) a w :=
  wpList_append_S hgd s x t ho hT hs H.own H.hn hv H.hx H.hr H.h63 H.hbytes H.hbase H.hk h
/-- The same, where the operation is guarded, and wanted. -/
theorem App.guarded {ops : Array Oper} {rest : List Oper} {o : Oper} {a : Act} {Q : Exit → Act → World → Prop} (H : App w base e size bytes G v l A n m news k) (hw : Region.wanted o (yielded ops a.tmps) = true) (s x : Operand) (t : TypeId)
    (ho : o.op = .call { callee := .builtin .append, args := #[s, x], argTypes := #[t, t] }) (hT : ElemTy P t e size bytes) (hs : a.eval s = v) (hv : a.eval x = .slice A n c)
    (h : ∀ A' c' w', OwnR w' base e size G (.slice A' k c') (l ++ m) → w.grownBy w' v.ownBlock → ((Value.slice A' k c').ownBlock = v.ownBlock ∨ (Value.slice A' k c').ownBlock = some w.heap.size) →
      wpList P ops Q rest (a.put o.dst (.slice A' k c')) w') : wpList P ops Q (o :: rest) a w := by
  refine wpList_step fun K hK => ?_
  rw [if_pos hw]
  have hn := H.hn
  have hk := H.hk
  subst hn
  refine wp_append_R w s x t ho base e size bytes hT G v l hs H.own A c m news hv H.hx H.hr H.h63 H.hbytes H.hbase fun v' w' h1 h2 h3 => ?_
  obtain ⟨A', c', rfl⟩ := h1.form
  subst hk
  exact hK _ _ (h A' c' w' h1 h2 h3)
/-- The elements of a slice that is read are appended. -/
theorem App.of_row {w0 : World} {F : Nat → Prop} {A : Option Addr} {n c : Nat} (hown : OwnR w base e size G v l) (hr : GR w0 F (.row size m) [.slice A n c]) (hw : Below w0.heap.size w0 w)
    (hF : ∀ k, F k → k < w0.heap.size → G k ∧ some k ≠ v.ownBlock) (hlen : l.length + m.length ≤ 100000000) (hb : bytes ≤ 1000) (hbase : base ≤ w.heap.size) :
    ∃ news, App w base e size bytes G v l A n m news (l.length + m.length) := by
  obtain ⟨A', c', xs, h1, h2, h3, h4, h5, h6⟩ := GR_row.1 (GR.lt_heap _ _ hr)
  simp only [List.cons.injEq, and_true] at h1
  injection h1 with e1 e2 e3
  subst e1 e2
  refine ⟨xs, hown, rfl, ?_, ?_, ?_, ?_, hbase, by rw [List.length_append]⟩
  · exact h5.mono (fun _ _ => trivial) (fun k hk hlt => hw.block k hlt)
  · exact GRl.mono (fun k hk => hF k hk.1 hk.2) (fun k hk hlt => hw.block k hlt) size m xs h6
  · simp only [maxLen]; omega
  · have := Nat.mul_le_mul hlen hb
    omega
/-- One element, that a literal of one has laid into a block of its own. -/
theorem App.of_new {g : Nat} {t : TypeId} {x : GV} {cs : List Value} (hown : OwnR w base e size G v l) (hc : Blk w g t cs.toArray) (hx : GR w (fun k => G k ∧ some k ≠ v.ownBlock) x cs) (hl : cs.length = size)
    (hlen : l.length + 1 ≤ 100000000) (hb : bytes ≤ 1000) (hbase : base ≤ w.heap.size) : App w base e size bytes G v l (some ⟨g, 0, none⟩) 1 [x] cs (l.length + 1) := by
  refine ⟨hown, rfl, cells_new hc, GRl_one hx hl, ?_, ?_, hbase, by rw [List.length_append]; rfl⟩
  · simp only [maxLen, List.length_cons, List.length_nil]; omega
  · have := Nat.mul_le_mul hlen hb
    show (l.length + 1) * bytes ≤ _
    omega
end
end Go.Proofs.YtijpfcjlochahaaGreatDoor
