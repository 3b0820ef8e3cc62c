/- A witness for a row of the second form, at a world whose shape is shown. No program is named here. Rows of elements as plain data, with a bound of their texts: what the bulk of the arguments gives. -/
import Derived.Stop.Joined
import Derived.JoinedCond
import Derived.Handed
import Derived.Deep.DeepHandedRow
import Derived.LaidLaws
import Derived.Test.YtijpfcjlochahaaGreatDoorOpenT
import Derived.Test.YtijpfcjlochahaaGreatDoorShwM
import Derived.Test.YtijpfcjlochahaaGreatDoorRows
namespace Go.Proofs.YtijpfcjlochahaaGreatDoor
open Go
set_option linter.unusedVariables false
set_option linter.unusedSimpArgs false
theorem witness_row_shaped {H : Type} {enc : TypeId × Value → H} {C : Checked} {os : Os} {f : FuncId} {fn : Func} {s : OpenSpec} {conds : List PathCond} {apart : Bool} {laid : List (String × DataW Unit)} (modest : Bool) (w0 : World) (args : Array Value) (hos : w0.os = os)
    (hsh : (w0.forCall (fun _ _ => 0) ⟨#[], args, []⟩).Shaped C.prog)
    (hok : Input.okWideB C.prog (w0.forCall (fun _ _ => 0) ⟨#[], args, []⟩) f ⟨#[], args, []⟩ = true)
    (hrow : s.preRow enc C.prog fn conds apart laid (w0.forCall (fun _ _ => 0) ⟨#[], args, []⟩).memory args) :
    ∃ (w : World) (tape : Tape) (i : Input), w.os = os ∧ (w.forCall tape i).Shaped C.prog ∧ i.vars = [] ∧ Input.okWide C.prog (w.forCall tape i) .any w.heap.size f i ∧
      s.preRow enc C.prog fn conds apart laid (w.forCall tape i).memory i.args ∧ ({ modest := modest } : Assume).holds C.prog (lone (Frame.enter C.prog f i.args .normal) [] (w.forCall tape i)) :=
  ⟨w0, fun _ _ => 0, ⟨#[], args, []⟩, hos, hsh, (Input.okWide_of_okWideB (base := 0) hok).1, (Input.okWide_of_okWideB hok).2, hrow, by
    simp only [Assume.holds]
    exact ⟨by simp, by simp, fun _ => Modest.zero, by simp, by simp⟩⟩
end Go.Proofs.YtijpfcjlochahaaGreatDoor
namespace Go.Proofs.YtijpfcjlochahaaGreatDoor
set_option linter.unusedVariables false
set_option linter.unusedSimpArgs false
open Go Go.RowKit Go.Deep
section
variable {H : Type} {enc : TypeId × Value → H} {P : Program} {w : World} {base : Nat} {spare : Nat → Bool} {held : Bool}
theorem bulk_append : ∀ (l r : List (DataW H)), Rows.uptoBulkAll (l ++ r) = Rows.uptoBulkAll l + Rows.uptoBulkAll r
  | [], r => by simp [Rows.uptoBulkAll]
  | x :: l, r => by simp only [List.cons_append, Rows.uptoBulkAll, bulk_append l r]; omega
theorem bulk_take (l : List (DataW H)) (k : Nat) : Rows.uptoBulkAll (l.take k) ≤ Rows.uptoBulkAll l := by
  have e : Rows.uptoBulkAll l = Rows.uptoBulkAll (l.take k) + Rows.uptoBulkAll (l.drop k) := by rw [← bulk_append, List.take_append_drop]
  omega
theorem bulk_str (s : ByteArray) : Rows.uptoBulk (DataW.lit (H := H) (.string s.data.toList)) = (L s).length + 1 := by
  rw [Rows.uptoBulk]
  rfl
/-- A slice whose elements can be told, and how much they bear. -/
theorem gr_slice_bulk {α : Type} (gv : α → GV) (sz : α → Nat) (szs : List α → Nat) (hs0 : szs [] = 0) (hs1 : ∀ l a, szs (l ++ [a]) = szs l + sz a) {t e : TypeId} {cz : Nat} (ht : P.underlying t = some (.slice e)) (hC : P.cellsOf e = cz) {fuel : Nat}
    (helem : ∀ n cs x, n < fuel → DataW.trod enc P w base spare held n e cs = some x → ∃ a : α, GR w (fun _ => True) (gv a) cs ∧ sz a ≤ Rows.uptoBulk x.1) {cs : List Value} {x : DataW H × List MemPlace}
    (h : DataW.trod enc P w base spare held fuel t cs = some x) : ∃ l : List α, GR w (fun _ => True) (.row cz (l.map gv)) cs ∧ szs l ≤ Rows.uptoBulk x.1 := by
  rcases DataW.trod_slice ht h with ⟨rfl, _⟩ | ⟨a, len, cap, elems, rest, n, hfu, rfl, hx, hb, hl, hm, hlen, hi, _, _⟩
  · exact ⟨[], gr_nil, by rw [hs0]; exact Nat.zero_le _⟩
  · rw [hC] at hi
    have key : ∀ k, k ≤ len → ∃ (l : List α) (xs : List Value), l.length = k ∧ xs.length = k * cz ∧ GRl w (fun _ => True) cz (l.map gv) xs ∧ (∀ j u, xs[j]? = some u → w.cell? (a.add j) = some u) ∧ szs l ≤ Rows.uptoBulkAll ((elems.take k).map (·.1)) := by
      intro k
      induction k with
      | zero => exact fun _ => ⟨[], [], rfl, by simp, GRl_nil.2 rfl, fun j u hu => by simp at hu, by rw [hs0]; exact Nat.zero_le _⟩
      | succ k ih =>
        intro hk
        obtain ⟨l, xs, h1, h2, h3, h4, h5⟩ := ih (by omega)
        have hk2 := hi k (by omega)
        rw [List.getElem?_eq_getElem (by omega)] at hk2
        obtain ⟨cs', hc, ht'⟩ := Option.bind_eq_some_iff.1 hk2
        obtain ⟨_, hcl, hat⟩ := World.cells?_some hc
        obtain ⟨el, hel, hez⟩ := helem _ _ _ (by omega) ht'
        refine ⟨l ++ [el], xs ++ cs', by rw [List.length_append, h1]; rfl, by rw [List.length_append, h2, hcl, Nat.add_mul]; omega, ?_, fun j u hu => ?_, ?_⟩
        · rw [List.map_append]
          exact GRl.append (GRl_one hel hcl) h3
        · rcases Nat.lt_or_ge j xs.length with hj | hj
          · exact h4 j u (by rwa [List.getElem?_append_left hj] at hu)
          · rw [List.getElem?_append_right hj] at hu
            have hjl := (List.getElem?_eq_some_iff.1 hu).1
            have e := hat (j - xs.length) (by omega)
            rw [Go.Deep.add_add, h2] at e
            rw [h2] at hu hj
            rw [show k * cz + (j - k * cz) = j by omega] at e
            rw [e]; exact hu
        · rw [hs1, List.take_succ_eq_append_getElem (by omega), List.map_append, bulk_append]
          have e : Rows.uptoBulkAll ([elems[k]].map (·.1)) = Rows.uptoBulk elems[k].1 := by simp [Rows.uptoBulkAll]
          rw [e]
          omega
    obtain ⟨l, xs, h1, h2, h3, h4, h5⟩ := key len (Nat.le_refl _)
    refine ⟨l, GR_row.2 ⟨some a, cap, xs, by rw [List.length_map, h1], by rw [List.length_map, h1]; exact hl, hm, by rw [List.length_map, h1]; exact h2, cells_of_addr h4, h3⟩, ?_⟩
    rw [hx, Rows.uptoBulk]
    rw [← hlen, List.take_length] at h5
    omega
theorem textF_snoc (l : List Elem) (e : Elem) : textF (l ++ [e]) = textF l + textE e := by
  have h : ∀ (l m : List Elem), textF (l ++ m) = textF l + textF m := by
    intro l m
    induction l with
    | nil => simp [textF]
    | cons e l ih => simp only [List.cons_append, textF]; rw [ih, Nat.add_assoc]
  rw [h]
  simp [textF]
theorem gr_elem_bulk : ∀ (n : Nat) {cs : List Value} {x : DataW H × List MemPlace} (_ : DataW.trod enc Tryz.prog w base spare held n 74 cs = some x), ∃ e : Elem, GR w (fun _ => True) e.gv cs ∧ textE e ≤ Rows.uptoBulk x.1 := by
  intro n
  induction n using Nat.strongRecOn with
  | ind n ih =>
    intro cs x h
    obtain ⟨ys, n', hn, hx, hlen, hyl, hf⟩ := DataW.trod_struct Tryz.underlying74 h
    rw [elemCellsT] at hlen
    obtain ⟨c0, c1, c2, c3, c4, c5, c6, rfl⟩ : ∃ c0 c1 c2 c3 c4 c5 c6, cs = [c0, c1, c2, c3, c4, c5, c6] := len7 hlen
    have hyl7 : ys.length = 7 := hyl
    obtain ⟨y0, y1, y2, y3, y4, y5, y6, rfl⟩ : ∃ y0 y1 y2 y3 y4 y5 y6, ys = [y0, y1, y2, y3, y4, y5, y6] := by
      match ys, hyl7 with
      | [y0, y1, y2, y3, y4, y5, y6], _ => exact ⟨y0, y1, y2, y3, y4, y5, y6, rfl⟩
    have g0 : DataW.trod enc Tryz.prog w base spare held n' 3 (List.take (Tryz.prog.cellsOf 3) [c0, c1, c2, c3, c4, c5, c6]) = some y0 := hf 0 _ rfl
    have g1 : DataW.trod enc Tryz.prog w base spare held n' 9 (List.take (Tryz.prog.cellsOf 9) [c1, c2, c3, c4, c5, c6]) = some y1 := hf 1 _ rfl
    have g2 : DataW.trod enc Tryz.prog w base spare held n' 9 (List.take (Tryz.prog.cellsOf 9) [c2, c3, c4, c5, c6]) = some y2 := hf 2 _ rfl
    have g3 : DataW.trod enc Tryz.prog w base spare held n' 9 (List.take (Tryz.prog.cellsOf 9) [c3, c4, c5, c6]) = some y3 := hf 3 _ rfl
    have g4 : DataW.trod enc Tryz.prog w base spare held n' 4 (List.take (Tryz.prog.cellsOf 4) [c4, c5, c6]) = some y4 := hf 4 _ rfl
    have g5 : DataW.trod enc Tryz.prog w base spare held n' 9 (List.take (Tryz.prog.cellsOf 9) [c5, c6]) = some y5 := hf 5 _ rfl
    have g6 : DataW.trod enc Tryz.prog w base spare held n' 36 (List.take (Tryz.prog.cellsOf 36) [c6]) = some y6 := hf 6 _ rfl
    rw [intCellsT] at g0
    rw [strCellsT] at g1 g2 g3 g5
    rw [boolCellsT] at g4
    rw [elemsCellsT] at g6
    obtain ⟨k, e0, _⟩ := DataW.trod_int Tryz.underlying3 g0
    obtain ⟨s1, e1, x1, _⟩ := DataW.trod_string Tryz.underlying9 g1
    obtain ⟨s2, e2, x2, _⟩ := DataW.trod_string Tryz.underlying9 g2
    obtain ⟨s3, e3, x3, _⟩ := DataW.trod_string Tryz.underlying9 g3
    obtain ⟨b, e4, _⟩ := DataW.trod_bool Tryz.underlying4 g4
    obtain ⟨s5, e5, x5, _⟩ := DataW.trod_string Tryz.underlying9 g5
    obtain ⟨l, e6, z6⟩ := gr_slice_bulk Elem.gv textE textF rfl textF_snoc Tryz.underlying36 elemCellsT (fun m cs x hm h => ih m (by omega) h) g6
    simp only [List.take_succ_cons, List.take_zero, List.cons.injEq, and_true] at e0 e1 e2 e3 e4 e5 e6
    subst e0 e1 e2 e3 e4 e5
    refine ⟨.mk k (L s1) (L s2) (L s3) b (L s5) l, ?_, ?_⟩
    · have := cells_elem (e := .mk k (L s1) (L s2) (L s3) b (L s5) l) e6
      simp only [eCells, Elem.kind, Elem.text, Elem.src, Elem.alt, Elem.soft, Elem.test, bs_L] at this
      exact this
    · subst hx
      have b1 : Rows.uptoBulk y1.1 = (L s1).length + 1 := by rw [x1]; exact bulk_str s1
      have b2 : Rows.uptoBulk y2.1 = (L s2).length + 1 := by rw [x2]; exact bulk_str s2
      have b3 : Rows.uptoBulk y3.1 = (L s3).length + 1 := by rw [x3]; exact bulk_str s3
      have b5 : Rows.uptoBulk y5.1 = (L s5).length + 1 := by rw [x5]; exact bulk_str s5
      rw [textE]
      simp only [Rows.uptoBulk, Rows.uptoBulkAll, List.map_cons, List.map_nil]
      omega
theorem open_elems_bulk {v : Value} {d : DataW H} (h : ∃ (fuel : Nat) (ms : List MemPlace), DataW.trod enc Tryz.prog w base spare held fuel 36 [v] = some (d, ms)) : ∃ l : List Elem, GR w (fun _ => True) (.row 7 (l.map Elem.gv)) [v] ∧ textF l ≤ Rows.uptoBulk d := by
  obtain ⟨fuel, ms, h⟩ := h
  exact gr_slice_bulk Elem.gv textE textF rfl textF_snoc Tryz.underlying36 elemCellsT (fun n cs x _ h => gr_elem_bulk n h) h
end
end Go.Proofs.YtijpfcjlochahaaGreatDoor
