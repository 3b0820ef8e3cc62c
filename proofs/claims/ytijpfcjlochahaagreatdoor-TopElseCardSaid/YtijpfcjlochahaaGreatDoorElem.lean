/- Rows of elements in memory, opened. No program is named here. -/
import Derived.Test.YtijpfcjlochahaaGreatDoorDocF
set_option linter.unusedVariables false
set_option linter.unusedSimpArgs false
namespace Go.Proofs.YtijpfcjlochahaaGreatDoor
open Go Go.RowKit

/-- An element's cells, its elements in kv. -/
def eCells (e : Elem) (kv : Value) : List Value := [.int .i64 e.kind, .string (bs e.text), .string (bs e.src), .string (bs e.alt), .bool e.soft, .string (bs e.test), kv]
theorem elem_cells {w : World} {F : Nat → Prop} {e : Elem} {cs : List Value} (h : GR w F e.gv cs) : ∃ A c, cs = eCells e (.slice A e.kids.length c) ∧ GR w F (.row 7 (e.kids.map Elem.gv)) [.slice A e.kids.length c] := by
  obtain ⟨k, tx, s, a, b, u, l⟩ := e
  rw [Elem.gv, elemGvs_eq] at h
  obtain ⟨x0, y0, rfl, h0, g0⟩ := GRa_cons.1 (GR_agg.1 h)
  obtain ⟨x1, y1, rfl, h1, g1⟩ := GRa_cons.1 g0
  obtain ⟨x2, y2, rfl, h2, g2⟩ := GRa_cons.1 g1
  obtain ⟨x3, y3, rfl, h3, g3⟩ := GRa_cons.1 g2
  obtain ⟨x4, y4, rfl, h4, g4⟩ := GRa_cons.1 g3
  obtain ⟨x5, y5, rfl, h5, g5⟩ := GRa_cons.1 g4
  obtain ⟨x6, y6, rfl, h6, g6⟩ := GRa_cons.1 g5
  rw [GR_int] at h0
  rw [GR_str] at h1 h2 h3 h5
  rw [GR_bool] at h4
  rw [GRa_nil] at g6
  subst h0 h1 h2 h3 h4 h5 g6
  obtain ⟨A, c, xs, h7, h8⟩ := GR_row.1 h6
  rw [List.length_map] at h7
  subst h7
  exact ⟨A, c, rfl, h6⟩
theorem cells_elem {w : World} {F : Nat → Prop} {e : Elem} {kv : Value} (h : GR w F (.row 7 (e.kids.map Elem.gv)) [kv]) : GR w F e.gv (eCells e kv) := by
  obtain ⟨k, tx, s, a, b, u, l⟩ := e
  rw [Elem.gv, elemGvs_eq]
  exact GR_agg.2 (GRa_cons.2 ⟨[_], _, rfl, GR_int.2 rfl, GRa_cons.2 ⟨[_], _, rfl, GR_str.2 rfl, GRa_cons.2 ⟨[_], _, rfl, GR_str.2 rfl, GRa_cons.2 ⟨[_], _, rfl, GR_str.2 rfl, GRa_cons.2 ⟨[_], _, rfl, GR_bool.2 rfl,
    GRa_cons.2 ⟨[_], _, rfl, GR_str.2 rfl, GRa_cons.2 ⟨[kv], [], rfl, h, GRa_nil.2 rfl⟩⟩⟩⟩⟩⟩⟩)
/-- The cells of an element that lies at a place. -/
structure ElemIn (w : World) (F : Nat → Prop) (b o : Nat) (e : Elem) (A : Option Addr) (c : Nat) : Prop where
  c0 : w.cell? ⟨b, o, none⟩ = some (.int .i64 e.kind)
  c1 : w.cell? ⟨b, o + 1, none⟩ = some (.string (bs e.text))
  c2 : w.cell? ⟨b, o + 2, none⟩ = some (.string (bs e.src))
  c3 : w.cell? ⟨b, o + 3, none⟩ = some (.string (bs e.alt))
  c4 : w.cell? ⟨b, o + 4, none⟩ = some (.bool e.soft)
  c5 : w.cell? ⟨b, o + 5, none⟩ = some (.string (bs e.test))
  c6 : w.cell? ⟨b, o + 6, none⟩ = some (.slice A e.kids.length c)
  kids : GR w F (.row 7 (e.kids.map Elem.gv)) [.slice A e.kids.length c]
theorem elems_open {w : World} {F : Nat → Prop} {l : List Elem} {v : Value} (h : GR w F (.row 7 (l.map Elem.gv)) [v]) :
    ∃ A c, v = .slice A l.length c ∧ l.length ≤ c ∧ c ≤ maxLen ∧ (l ≠ [] → ∃ b o, A = some ⟨b, o, none⟩ ∧ F b ∧ ∀ i (hi : i < l.length), ∃ A' c', ElemIn w F b (o + i * 7) l[i] A' c') := by
  obtain ⟨A, c, h1, h2, h3, h4⟩ := row_open h (by omega)
  simp only [List.length_map] at h1 h2 h4
  refine ⟨A, c, h1, h2, h3, fun hne => ?_⟩
  obtain ⟨b, o, hA, hF, hc⟩ := h4 (by simpa using hne)
  refine ⟨b, o, hA, hF, fun i hi => ?_⟩
  obtain ⟨cs, g1, _, g3⟩ := hc i hi
  rw [List.getElem_map] at g1
  obtain ⟨A', c', rfl, hk⟩ := elem_cells g1
  exact ⟨A', c', g3 0 _ rfl, g3 1 _ rfl, g3 2 _ rfl, g3 3 _ rfl, g3 4 _ rfl, g3 5 _ rfl, g3 6 _ rfl, hk⟩
theorem ElemIn.below {w w' : World} {F : Nat → Prop} {b o : Nat} {e : Elem} {A : Option Addr} {c : Nat} (h : ElemIn w F b o e A c) (hb : Below w.heap.size w w') (hlt : b < w.heap.size) : ElemIn w' F b o e A c :=
  ⟨(hb.cell (p := ⟨b, o, none⟩) hlt).trans h.c0, (hb.cell (p := ⟨b, o + 1, none⟩) hlt).trans h.c1, (hb.cell (p := ⟨b, o + 2, none⟩) hlt).trans h.c2, (hb.cell (p := ⟨b, o + 3, none⟩) hlt).trans h.c3,
   (hb.cell (p := ⟨b, o + 4, none⟩) hlt).trans h.c4, (hb.cell (p := ⟨b, o + 5, none⟩) hlt).trans h.c5, (hb.cell (p := ⟨b, o + 6, none⟩) hlt).trans h.c6, h.kids.below hb⟩
/-- The first ones of a row. -/
theorem row_take {w : World} {F : Nat → Prop} {sz : Nat} {l : List GV} {A : Option Addr} {n c : Nat} (h : GR w F (.row sz l) [.slice A n c]) (k : Nat) (hk : k ≤ l.length) : GR w F (.row sz (l.take k)) [.slice A k c] := by
  obtain ⟨A', c', xs, h1, h2, h3, h4, h5, h6⟩ := GR_row.1 h
  simp only [List.cons.injEq, and_true] at h1
  injection h1 with e1 e2 e3
  subst e1 e3
  refine GR_row.2 ⟨A, c, xs.take (k * sz), ?_, by rw [List.length_take]; omega, h3, ?_, ?_, h6.take k⟩
  · rw [List.length_take, Nat.min_eq_left hk]
  · rw [List.length_take, List.length_take, h4, Nat.min_eq_left hk]
    exact Nat.min_eq_left (Nat.mul_le_mul_right sz hk)
  · intro hne
    have hne2 : xs ≠ [] := by rintro rfl; simp at hne
    obtain ⟨b, o, q1, q2, q3⟩ := h5 hne2
    refine ⟨b, o, q1, q2, fun j u hu => q3 j u ?_⟩
    rw [List.getElem?_take] at hu
    split at hu
    · exact hu
    · cases hu
end Go.Proofs.YtijpfcjlochahaaGreatDoor
