/- Rows of tokens, and of elements, as plain data. -/
import Derived.Test.YtijpfcjlochahaaGreatDoorOpen
import Derived.Test.YtijpfcjlochahaaGreatDoorElem
import Derived.Test.YtijpfcjlochahaaGreatDoorProg
namespace Go.Proofs.YtijpfcjlochahaaGreatDoor
open Go Go.RowKit Go.Deep
set_option linter.unusedVariables false
set_option linter.unusedSimpArgs false
section
variable {H : Type} {enc : TypeId × Value → H} {P : Program} {w : World} {base : Nat} {spare : Nat → Bool} {held : Bool}
/-- A slice whose elements can be told, one step of depth less. -/
theorem gr_slice_lt {α : Type} (gv : α → GV) {t e : TypeId} {sz : Nat} (ht : P.underlying t = some (.slice e)) (hC : P.cellsOf e = sz) {fuel : Nat}
    (helem : ∀ n cs x, n < fuel → DataW.trod enc P w base spare held n e cs = some x → ∃ a : α, GR w (fun _ => True) (gv a) cs) {cs : List Value} {x : DataW H × List MemPlace}
    (h : DataW.trod enc P w base spare held fuel t cs = some x) : ∃ l : List α, GR w (fun _ => True) (.row sz (l.map gv)) cs := by
  rcases DataW.trod_slice ht h with ⟨rfl, _⟩ | ⟨a, len, cap, elems, rest, n, hfu, rfl, _, hb, hl, hm, hlen, hi, _, _⟩
  · exact ⟨[], gr_nil⟩
  · rw [hC] at hi
    have key : ∀ k, k ≤ len → ∃ (l : List α) (xs : List Value), l.length = k ∧ xs.length = k * sz ∧ GRl w (fun _ => True) sz (l.map gv) xs ∧ ∀ j u, xs[j]? = some u → w.cell? (a.add j) = some u := by
      intro k
      induction k with
      | zero => exact fun _ => ⟨[], [], rfl, by simp, GRl_nil.2 rfl, fun j u hu => by simp at hu⟩
      | succ k ih =>
        intro hk
        obtain ⟨l, xs, h1, h2, h3, h4⟩ := ih (by omega)
        have hk2 := hi k (by omega)
        rw [List.getElem?_eq_getElem (by omega)] at hk2
        obtain ⟨cs', hc, ht'⟩ := Option.bind_eq_some_iff.1 hk2
        obtain ⟨_, hcl, hat⟩ := World.cells?_some hc
        obtain ⟨el, hel⟩ := helem _ _ _ (by omega) ht'
        refine ⟨l ++ [el], xs ++ cs', by rw [List.length_append, h1]; rfl, by rw [List.length_append, h2, hcl, Nat.add_mul]; omega, ?_, fun j u hu => ?_⟩
        · rw [List.map_append]
          exact GRl.append (GRl_one hel hcl) h3
        · rcases Nat.lt_or_ge j xs.length with hj | hj
          · exact h4 j u (by rwa [List.getElem?_append_left hj] at hu)
          · rw [List.getElem?_append_right hj] at hu
            have hjl := (List.getElem?_eq_some_iff.1 hu).1
            have e := hat (j - xs.length) (by omega)
            rw [Go.Deep.add_add, h2] at e
            rw [h2] at hu hj
            rw [show k * sz + (j - k * sz) = j by omega] at e
            rw [e]; exact hu
    obtain ⟨l, xs, h1, h2, h3, h4⟩ := key len (Nat.le_refl _)
    exact ⟨l, GR_row.2 ⟨some a, cap, xs, by rw [List.length_map, h1], by rw [List.length_map, h1]; exact hl, hm, by rw [List.length_map, h1]; exact h2, cells_of_addr h4, h3⟩⟩
theorem len3 : ∀ {cs : List Value}, cs.length = 3 → ∃ c0 c1 c2, cs = [c0, c1, c2]
  | [c0, c1, c2], _ => ⟨c0, c1, c2, rfl⟩
theorem len7 : ∀ {cs : List Value}, cs.length = 7 → ∃ c0 c1 c2 c3 c4 c5 c6, cs = [c0, c1, c2, c3, c4, c5, c6]
  | [c0, c1, c2, c3, c4, c5, c6], _ => ⟨c0, c1, c2, c3, c4, c5, c6, rfl⟩
theorem pairCellsT : Tryz.prog.cellsOf 130 = 2 := by kernel_rfl
theorem strCellsT : Tryz.prog.cellsOf 9 = 1 := by kernel_rfl
theorem intCellsT : Tryz.prog.cellsOf 3 = 1 := by kernel_rfl
theorem boolCellsT : Tryz.prog.cellsOf 4 = 1 := by kernel_rfl
theorem pairsCellsT : Tryz.prog.cellsOf 78 = 1 := by kernel_rfl
theorem elemsCellsT : Tryz.prog.cellsOf 36 = 1 := by kernel_rfl
theorem tokCellsT : Tryz.prog.cellsOf 80 = 3 := by kernel_rfl
theorem elemCellsT : Tryz.prog.cellsOf 74 = 7 := by kernel_rfl
theorem open_pairs {fuel : Nat} {cs : List Value} {x : DataW H × List MemPlace} (h : DataW.trod enc Tryz.prog w base spare held fuel 78 cs = some x) : ∃ l : List Pair, GR w (fun _ => True) (.row 2 (l.map Pair.gv)) cs :=
  gr_slice_of Pair.gv Tryz.underlying78 pairCellsT (fun n cs x h => gr_pair_of Tryz.underlying130 rfl rfl rfl rfl Tryz.underlying9 strCellsT pairCellsT h) h
theorem gr_token_of {n : Nat} {cs : List Value} {x : DataW H × List MemPlace} (h : DataW.trod enc Tryz.prog w base spare held n 80 cs = some x) : ∃ t : Token, GR w (fun _ => True) t.gv cs := by
  obtain ⟨ys, n', _, _, hlen, hyl, hf⟩ := DataW.trod_struct Tryz.underlying80 h
  rw [tokCellsT] at hlen
  obtain ⟨c0, c1, c2, rfl⟩ : ∃ c0 c1 c2, cs = [c0, c1, c2] := by
    exact len3 hlen
  have g0 := (hf 0 _ rfl).trans (List.getElem?_eq_getElem (by rw [hyl]; simp))
  have g1 := (hf 1 _ rfl).trans (List.getElem?_eq_getElem (by rw [hyl]; simp))
  have g2 := (hf 2 _ rfl).trans (List.getElem?_eq_getElem (by rw [hyl]; simp))
  have g0 : DataW.trod enc Tryz.prog w base spare held n' 3 (List.take (Tryz.prog.cellsOf 3) [c0, c1, c2]) = some _ := g0
  have g1 : DataW.trod enc Tryz.prog w base spare held n' 9 (List.take (Tryz.prog.cellsOf 9) [c1, c2]) = some _ := g1
  have g2 : DataW.trod enc Tryz.prog w base spare held n' 78 (List.take (Tryz.prog.cellsOf 78) [c2]) = some _ := g2
  rw [intCellsT] at g0
  rw [strCellsT] at g1
  rw [pairsCellsT] at g2
  obtain ⟨k, e0, _⟩ := DataW.trod_int Tryz.underlying3 g0
  obtain ⟨s, e1, _⟩ := DataW.trod_string Tryz.underlying9 g1
  obtain ⟨l, e2⟩ := open_pairs g2
  simp only [List.take_succ_cons, List.take_zero, List.cons.injEq, and_true] at e0 e1 e2
  subst e0 e1
  refine ⟨⟨k, L s, l⟩, ?_⟩
  have := cells_tok (k := k) (t := L s) e2
  rw [bs_L] at this
  exact this
theorem open_tokens {v : Value} (h : ∃ (fuel : Nat) (x : DataW H × List MemPlace), DataW.trod enc Tryz.prog w base spare held fuel 49 [v] = some x) : ∃ l : List Token, GR w (fun _ => True) (.row 3 (l.map Token.gv)) [v] := by
  obtain ⟨fuel, x, h⟩ := h
  exact gr_slice_lt Token.gv Tryz.underlying49 tokCellsT (fun n cs x _ h => gr_token_of h) h
theorem gr_elem_of : ∀ (n : Nat) {cs : List Value} {x : DataW H × List MemPlace} (_ : DataW.trod enc Tryz.prog w base spare held n 74 cs = some x), ∃ e : Elem, GR w (fun _ => True) e.gv cs := by
  intro n
  induction n using Nat.strongRecOn with
  | ind n ih =>
    intro cs x h
    obtain ⟨ys, n', hn, _, hlen, hyl, hf⟩ := DataW.trod_struct Tryz.underlying74 h
    rw [elemCellsT] at hlen
    obtain ⟨c0, c1, c2, c3, c4, c5, c6, rfl⟩ : ∃ c0 c1 c2 c3 c4 c5 c6, cs = [c0, c1, c2, c3, c4, c5, c6] := len7 hlen
    have g0 := (hf 0 _ rfl).trans (List.getElem?_eq_getElem (by rw [hyl]; simp))
    have g1 := (hf 1 _ rfl).trans (List.getElem?_eq_getElem (by rw [hyl]; simp))
    have g2 := (hf 2 _ rfl).trans (List.getElem?_eq_getElem (by rw [hyl]; simp))
    have g3 := (hf 3 _ rfl).trans (List.getElem?_eq_getElem (by rw [hyl]; simp))
    have g4 := (hf 4 _ rfl).trans (List.getElem?_eq_getElem (by rw [hyl]; simp))
    have g5 := (hf 5 _ rfl).trans (List.getElem?_eq_getElem (by rw [hyl]; simp))
    have g6 := (hf 6 _ rfl).trans (List.getElem?_eq_getElem (by rw [hyl]; simp))
    have g0 : DataW.trod enc Tryz.prog w base spare held n' 3 (List.take (Tryz.prog.cellsOf 3) [c0, c1, c2, c3, c4, c5, c6]) = some _ := g0
    have g1 : DataW.trod enc Tryz.prog w base spare held n' 9 (List.take (Tryz.prog.cellsOf 9) [c1, c2, c3, c4, c5, c6]) = some _ := g1
    have g2 : DataW.trod enc Tryz.prog w base spare held n' 9 (List.take (Tryz.prog.cellsOf 9) [c2, c3, c4, c5, c6]) = some _ := g2
    have g3 : DataW.trod enc Tryz.prog w base spare held n' 9 (List.take (Tryz.prog.cellsOf 9) [c3, c4, c5, c6]) = some _ := g3
    have g4 : DataW.trod enc Tryz.prog w base spare held n' 4 (List.take (Tryz.prog.cellsOf 4) [c4, c5, c6]) = some _ := g4
    have g5 : DataW.trod enc Tryz.prog w base spare held n' 9 (List.take (Tryz.prog.cellsOf 9) [c5, c6]) = some _ := g5
    have g6 : DataW.trod enc Tryz.prog w base spare held n' 36 (List.take (Tryz.prog.cellsOf 36) [c6]) = some _ := g6
    rw [intCellsT] at g0
    rw [strCellsT] at g1 g2 g3 g5
    rw [boolCellsT] at g4
    rw [elemsCellsT] at g6
    obtain ⟨k, e0, _⟩ := DataW.trod_int Tryz.underlying3 g0
    obtain ⟨s1, e1, _⟩ := DataW.trod_string Tryz.underlying9 g1
    obtain ⟨s2, e2, _⟩ := DataW.trod_string Tryz.underlying9 g2
    obtain ⟨s3, e3, _⟩ := DataW.trod_string Tryz.underlying9 g3
    obtain ⟨b, e4, _⟩ := DataW.trod_bool Tryz.underlying4 g4
    obtain ⟨s5, e5, _⟩ := DataW.trod_string Tryz.underlying9 g5
    obtain ⟨l, e6⟩ := gr_slice_lt Elem.gv Tryz.underlying36 elemCellsT (fun m cs x hm h => ih m (by omega) h) g6
    simp only [List.take_succ_cons, List.take_zero, List.cons.injEq, and_true] at e0 e1 e2 e3 e4 e5 e6
    subst e0 e1 e2 e3 e4 e5
    refine ⟨.mk k (L s1) (L s2) (L s3) b (L s5) l, ?_⟩
    have := cells_elem (e := .mk k (L s1) (L s2) (L s3) b (L s5) l) e6
    simp only [eCells, Elem.kind, Elem.text, Elem.src, Elem.alt, Elem.soft, Elem.test, bs_L] at this
    exact this
theorem open_elems {v : Value} (h : ∃ (fuel : Nat) (x : DataW H × List MemPlace), DataW.trod enc Tryz.prog w base spare held fuel 36 [v] = some x) : ∃ l : List Elem, GR w (fun _ => True) (.row 7 (l.map Elem.gv)) [v] := by
  obtain ⟨fuel, x, h⟩ := h
  exact gr_slice_lt Elem.gv Tryz.underlying36 elemCellsT (fun n cs x _ h => gr_elem_of n h) h
end
end Go.Proofs.YtijpfcjlochahaaGreatDoor
