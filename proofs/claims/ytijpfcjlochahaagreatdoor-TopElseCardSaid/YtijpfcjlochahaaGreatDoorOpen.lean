/- What is read of memory, as plain data: slices whose elements can be told; tokens' attributes. -/
import Derived.Test.YtijpfcjlochahaaGreatDoorLexF
import Derived.Deep.Slices
import Derived.ProofKit
import Derived.OpenShut
set_option linter.unusedVariables false
set_option linter.unusedSimpArgs false
namespace Go.Proofs.YtijpfcjlochahaaGreatDoor
open Go Go.RowKit Go.Deep
section
variable {H : Type} {enc : TypeId × Value → H} {P : Program} {w : World} {base : Nat} {spare : Nat → Bool} {held : Bool}
theorem addr_add (b o j : Nat) : (⟨b, o, none⟩ : Addr).add j = ⟨b, o + j, none⟩ := by unfold Addr.add; split <;> simp_all
theorem cells_of_addr {a : Addr} {xs : List Value} (hc : ∀ j u, xs[j]? = some u → w.cell? (a.add j) = some u) : Cells w (fun _ => True) (some a) xs := by
  intro hne
  obtain ⟨b, o, sp⟩ := a
  obtain ⟨x, l, rfl⟩ := List.exists_cons_of_ne_nil hne
  have h0 := World.cell?_spot (hc 0 x rfl)
  have hsp : sp = none := by simpa [Addr.add] using h0
  subst hsp
  exact ⟨b, o, rfl, trivial, fun j u hu => by rw [← addr_add]; exact hc j u hu⟩
theorem gr_slice_of {α : Type} (gv : α → GV) {t e : TypeId} {sz : Nat} (ht : P.underlying t = some (.slice e)) (hC : P.cellsOf e = sz)
    (helem : ∀ n cs x, DataW.trod enc P w base spare held n e cs = some x → ∃ a : α, GR w (fun _ => True) (gv a) cs) {fuel : Nat} {cs : List Value} {x : DataW H × List MemPlace}
    (h : DataW.trod enc P w base spare held fuel t cs = some x) : ∃ l : List α, GR w (fun _ => True) (.row sz (l.map gv)) cs := by
  rcases open_slice ht h with ⟨rfl, _⟩ | ⟨a, len, cap, m, n, D, Pl, rfl, hb, hl, hm, hmm, hx, hi⟩
  · exact ⟨[], gr_nil⟩
  · have hlm : len ≤ m := by rw [hmm]; split <;> omega
    rw [hC] at hi
    have key : ∀ k, k ≤ len → ∃ (l : List α) (xs : List Value), l.length = k ∧ xs.length = k * sz ∧ GRl w (fun _ => True) sz (l.map gv) xs ∧ ∀ j u, xs[j]? = some u → w.cell? (a.add j) = some u := by
      intro k
      induction k with
      | zero => exact fun _ => ⟨[], [], rfl, by simp, GRl_nil.2 rfl, fun j u hu => by simp at hu⟩
      | succ k ih =>
        intro hk
        obtain ⟨l, xs, h1, h2, h3, h4⟩ := ih (by omega)
        obtain ⟨cs', hc, ht'⟩ := hi k (by omega)
        obtain ⟨_, hcl, hat⟩ := World.cells?_some hc
        obtain ⟨el, hel⟩ := helem _ _ _ ht'
        refine ⟨l ++ [el], xs ++ cs', by rw [List.length_append, h1]; rfl, by rw [List.length_append, h2, hcl, Nat.add_mul]; omega, ?_, fun j u hu => ?_⟩
        · rw [List.map_append]
          exact GRl.append (GRl_one hel hcl) h3
        · rcases Nat.lt_or_ge j xs.length with hj | hj
          · exact h4 j u (by rwa [List.getElem?_append_left hj] at hu)
          · rw [List.getElem?_append_right hj] at hu
            have hjl := (List.getElem?_eq_some_iff.1 hu).1
            have e := hat (j - xs.length) (by omega)
            rw [Go.Deep.add_add, h2] at e
            rw [h2] at hu hj
            rw [show k * sz + (j - k * sz) = j by omega] at e
            rw [e]; exact hu
    obtain ⟨l, xs, h1, h2, h3, h4⟩ := key len (Nat.le_refl _)
    exact ⟨l, GR_row.2 ⟨some a, cap, xs, by rw [List.length_map, h1], by rw [List.length_map, h1]; exact hl, hm, by rw [List.length_map, h1]; exact h2, cells_of_addr h4, h3⟩⟩
theorem gr_pair_of {e s : TypeId} {f0 f1 : Field} (he : P.underlying e = some (.struct #[f0, f1])) (h0 : f0.type = s) (h1 : f1.type = s) (o0 : f0.offset = 0) (o1 : f1.offset = 1) (hs : P.underlying s = some .string)
    (hc : P.cellsOf s = 1) (hC : P.cellsOf e = 2) {n : Nat} {cs : List Value} {x : DataW H × List MemPlace} (h : DataW.trod enc P w base spare held n e cs = some x) : ∃ p : Pair, GR w (fun _ => True) p.gv cs := by
  obtain ⟨ys, n', _, _, hlen, hyl, hf⟩ := DataW.trod_struct he h
  rw [hC] at hlen
  obtain ⟨c0, c1, rfl⟩ : ∃ c0 c1, cs = [c0, c1] := by
    match cs, hlen with
    | [c0, c1], _ => exact ⟨c0, c1, rfl⟩
  have g0 := hf 0 f0 rfl
  have g1 := hf 1 f1 rfl
  rw [h0, o0, hc] at g0
  rw [h1, o1, hc] at g1
  have hy0 : ys[0]? = some (ys[0]'(by rw [hyl]; simp)) := List.getElem?_eq_getElem _
  have hy1 : ys[1]? = some (ys[1]'(by rw [hyl]; simp)) := List.getElem?_eq_getElem _
  rw [hy0] at g0
  rw [hy1] at g1
  obtain ⟨s0, e0, _⟩ := DataW.trod_string hs g0
  obtain ⟨s1, e1, _⟩ := DataW.trod_string hs g1
  have q0 : c0 = .string s0 := by simpa using e0
  have q1 : c1 = .string s1 := by simpa using e1
  subst q0
  subst q1
  have := cells_pair (w := w) (F := fun _ => True) ⟨L s0, L s1⟩
  simp only [bs_L] at this
  exact ⟨_, this⟩
end
end Go.Proofs.YtijpfcjlochahaaGreatDoor
