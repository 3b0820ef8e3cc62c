/- Pages, and replies, as arguments: plain data. -/
import Derived.Test.YtijpfcjlochahaaGreatDoorProg
import Derived.Test.YtijpfcjlochahaaGreatDoorEvF
import Derived.Test.YtijpfcjlochahaaGreatDoorEvD
import Derived.Test.YtijpfcjlochahaaGreatDoorBase
import Derived.ProofKit
import Derived.OpenShut
set_option linter.unusedVariables false
set_option linter.unusedSimpArgs false
namespace Go.Proofs.YtijpfcjlochahaaGreatDoor
open Go Go.RowKit Go.Deep Go.WideShapes
set_option linter.unusedVariables false
set_option linter.unusedSimpArgs false
/-- A reply as an argument. -/
def repV (r : Rep) : Value := .agg #[.string (bs r.url), .int .i64 r.code, .bool r.esi, .string (bs r.body), .int .i64 r.bad]
section
variable {H : Type} {enc : TypeId × Value → H} {w : World} {base : Nat} {spare : Nat → Bool} {held : Bool}
theorem lenP5 : ∀ {cs : List Value}, cs.length = 5 → ∃ c0 c1 c2 c3 c4, cs = [c0, c1, c2, c3, c4]
  | [c0, c1, c2, c3, c4], _ => ⟨c0, c1, c2, c3, c4, rfl⟩
theorem lenP6 : ∀ {cs : List Value}, cs.length = 6 → ∃ c0 c1 c2 c3 c4 c5, cs = [c0, c1, c2, c3, c4, c5]
  | [c0, c1, c2, c3, c4, c5], _ => ⟨c0, c1, c2, c3, c4, c5, rfl⟩
theorem lenP9 : ∀ {cs : List Value}, cs.length = 9 → ∃ c0 c1 c2 c3 c4 c5 c6 c7 c8, cs = [c0, c1, c2, c3, c4, c5, c6, c7, c8]
  | [c0, c1, c2, c3, c4, c5, c6, c7, c8], _ => ⟨c0, c1, c2, c3, c4, c5, c6, c7, c8, rfl⟩
theorem envCellsP : Tryz.prog.cellsOf 23 = 6 := by kernel_rfl
theorem pageCellsP : Tryz.prog.cellsOf 25 = 9 := by kernel_rfl
theorem replyCellsP : Tryz.prog.cellsOf 41 = 5 := by kernel_rfl
theorem strCellsP : Tryz.prog.cellsOf 9 = 1 := by kernel_rfl
theorem intCellsP : Tryz.prog.cellsOf 3 = 1 := by kernel_rfl
theorem boolCellsP : Tryz.prog.cellsOf 4 = 1 := by kernel_rfl
theorem errnoCellsP : Tryz.prog.cellsOf 29 = 1 := by kernel_rfl
theorem env_of {n : Nat} {cs : List Value} {x : DataW H × List MemPlace} (h : DataW.trod enc Tryz.prog w base spare held n 23 cs = some x) : ∃ v : EnvD, cs = [.string (bs v.e0), .string (bs v.e1), .string (bs v.e2), .string (bs v.e3), .string (bs v.e4), .string (bs v.e5)] := by
  obtain ⟨ys, n', hn, hx, hlen, hyl, hf⟩ := DataW.trod_struct Tryz.underlying23 h
  rw [envCellsP] at hlen
  obtain ⟨c0, c1, c2, c3, c4, c5, rfl⟩ := lenP6 hlen
  have g0 := (hf 0 _ rfl).trans (List.getElem?_eq_getElem (by rw [hyl]; simp))
  have g0 : DataW.trod enc Tryz.prog w base spare held n' 9 (List.take (Tryz.prog.cellsOf 9) [c0, c1, c2, c3, c4, c5]) = some _ := g0
  have g1 := (hf 1 _ rfl).trans (List.getElem?_eq_getElem (by rw [hyl]; simp))
  have g1 : DataW.trod enc Tryz.prog w base spare held n' 9 (List.take (Tryz.prog.cellsOf 9) [c1, c2, c3, c4, c5]) = some _ := g1
  have g2 := (hf 2 _ rfl).trans (List.getElem?_eq_getElem (by rw [hyl]; simp))
  have g2 : DataW.trod enc Tryz.prog w base spare held n' 9 (List.take (Tryz.prog.cellsOf 9) [c2, c3, c4, c5]) = some _ := g2
  have g3 := (hf 3 _ rfl).trans (List.getElem?_eq_getElem (by rw [hyl]; simp))
  have g3 : DataW.trod enc Tryz.prog w base spare held n' 9 (List.take (Tryz.prog.cellsOf 9) [c3, c4, c5]) = some _ := g3
  have g4 := (hf 4 _ rfl).trans (List.getElem?_eq_getElem (by rw [hyl]; simp))
  have g4 : DataW.trod enc Tryz.prog w base spare held n' 9 (List.take (Tryz.prog.cellsOf 9) [c4, c5]) = some _ := g4
  have g5 := (hf 5 _ rfl).trans (List.getElem?_eq_getElem (by rw [hyl]; simp))
  have g5 : DataW.trod enc Tryz.prog w base spare held n' 9 (List.take (Tryz.prog.cellsOf 9) [c5]) = some _ := g5
  rw [strCellsP] at g0
  rw [strCellsP] at g1
  rw [strCellsP] at g2
  rw [strCellsP] at g3
  rw [strCellsP] at g4
  rw [strCellsP] at g5
  obtain ⟨s0, e0, _⟩ := DataW.trod_string Tryz.underlying9 g0
  obtain ⟨s1, e1, _⟩ := DataW.trod_string Tryz.underlying9 g1
  obtain ⟨s2, e2, _⟩ := DataW.trod_string Tryz.underlying9 g2
  obtain ⟨s3, e3, _⟩ := DataW.trod_string Tryz.underlying9 g3
  obtain ⟨s4, e4, _⟩ := DataW.trod_string Tryz.underlying9 g4
  obtain ⟨s5, e5, _⟩ := DataW.trod_string Tryz.underlying9 g5
  simp only [List.take_succ_cons, List.take_zero, List.cons.injEq, and_true] at e0 e1 e2 e3 e4 e5
  subst e0 e1 e2 e3 e4 e5
  exact ⟨⟨L s0, L s1, L s2, L s3, L s4, L s5⟩, by simp only [bs_L]⟩
theorem page_of {n : Nat} {cs : List Value} {x : DataW H × List MemPlace} (h : DataW.trod enc Tryz.prog w base spare held n 25 cs = some x) : ∃ (v : EnvD) (b s : List UInt8) (q : Bool), Value.agg cs.toArray = pageV v b s q := by
  obtain ⟨ys, n', hn, hx, hlen, hyl, hf⟩ := DataW.trod_struct Tryz.underlying25 h
  rw [pageCellsP] at hlen
  obtain ⟨c0, c1, c2, c3, c4, c5, c6, c7, c8, rfl⟩ := lenP9 hlen
  have g0 := (hf 0 _ rfl).trans (List.getElem?_eq_getElem (by rw [hyl]; simp))
  have g0 : DataW.trod enc Tryz.prog w base spare held n' 23 (List.take (Tryz.prog.cellsOf 23) [c0, c1, c2, c3, c4, c5, c6, c7, c8]) = some _ := g0
  have g1 := (hf 1 _ rfl).trans (List.getElem?_eq_getElem (by rw [hyl]; simp))
  have g1 : DataW.trod enc Tryz.prog w base spare held n' 9 (List.take (Tryz.prog.cellsOf 9) [c6, c7, c8]) = some _ := g1
  have g2 := (hf 2 _ rfl).trans (List.getElem?_eq_getElem (by rw [hyl]; simp))
  have g2 : DataW.trod enc Tryz.prog w base spare held n' 9 (List.take (Tryz.prog.cellsOf 9) [c7, c8]) = some _ := g2
  have g3 := (hf 3 _ rfl).trans (List.getElem?_eq_getElem (by rw [hyl]; simp))
  have g3 : DataW.trod enc Tryz.prog w base spare held n' 4 (List.take (Tryz.prog.cellsOf 4) [c8]) = some _ := g3
  rw [envCellsP] at g0
  rw [strCellsP] at g1
  rw [strCellsP] at g2
  rw [boolCellsP] at g3
  obtain ⟨v0, e0⟩ := env_of g0
  obtain ⟨s1, e1, _⟩ := DataW.trod_string Tryz.underlying9 g1
  obtain ⟨s2, e2, _⟩ := DataW.trod_string Tryz.underlying9 g2
  obtain ⟨b3, e3, _⟩ := DataW.trod_bool Tryz.underlying4 g3
  simp only [List.take_succ_cons, List.take_zero, List.cons.injEq, and_true] at e0 e1 e2 e3
  obtain ⟨rfl, rfl, rfl, rfl, rfl, rfl⟩ := e0
  subst e1 e2 e3
  exact ⟨v0, L s1, L s2, b3, by simp only [pageV, bs_L]⟩
theorem reply_of {n : Nat} {cs : List Value} {x : DataW H × List MemPlace} (h : DataW.trod enc Tryz.prog w base spare held n 41 cs = some x) : ∃ r : Rep, Value.agg cs.toArray = repV r := by
  obtain ⟨ys, n', hn, hx, hlen, hyl, hf⟩ := DataW.trod_struct Tryz.underlying41 h
  rw [replyCellsP] at hlen
  obtain ⟨c0, c1, c2, c3, c4, rfl⟩ := lenP5 hlen
  have g0 := (hf 0 _ rfl).trans (List.getElem?_eq_getElem (by rw [hyl]; simp))
  have g0 : DataW.trod enc Tryz.prog w base spare held n' 9 (List.take (Tryz.prog.cellsOf 9) [c0, c1, c2, c3, c4]) = some _ := g0
  have g1 := (hf 1 _ rfl).trans (List.getElem?_eq_getElem (by rw [hyl]; simp))
  have g1 : DataW.trod enc Tryz.prog w base spare held n' 3 (List.take (Tryz.prog.cellsOf 3) [c1, c2, c3, c4]) = some _ := g1
  have g2 := (hf 2 _ rfl).trans (List.getElem?_eq_getElem (by rw [hyl]; simp))
  have g2 : DataW.trod enc Tryz.prog w base spare held n' 4 (List.take (Tryz.prog.cellsOf 4) [c2, c3, c4]) = some _ := g2
  have g3 := (hf 3 _ rfl).trans (List.getElem?_eq_getElem (by rw [hyl]; simp))
  have g3 : DataW.trod enc Tryz.prog w base spare held n' 9 (List.take (Tryz.prog.cellsOf 9) [c3, c4]) = some _ := g3
  have g4 := (hf 4 _ rfl).trans (List.getElem?_eq_getElem (by rw [hyl]; simp))
  have g4 : DataW.trod enc Tryz.prog w base spare held n' 29 (List.take (Tryz.prog.cellsOf 29) [c4]) = some _ := g4
  rw [strCellsP] at g0
  rw [intCellsP] at g1
  rw [boolCellsP] at g2
  rw [strCellsP] at g3
  rw [errnoCellsP] at g4
  obtain ⟨s0, e0, _⟩ := DataW.trod_string Tryz.underlying9 g0
  obtain ⟨k1, e1, _⟩ := DataW.trod_int Tryz.underlying3 g1
  obtain ⟨b2, e2, _⟩ := DataW.trod_bool Tryz.underlying4 g2
  obtain ⟨s3, e3, _⟩ := DataW.trod_string Tryz.underlying9 g3
  obtain ⟨k4, e4, _⟩ := DataW.trod_int Tryz.underlying29 g4
  simp only [List.take_succ_cons, List.take_zero, List.cons.injEq, and_true] at e0 e1 e2 e3 e4
  subst e0 e1 e2 e3 e4
  exact ⟨⟨L s0, k1, b2, L s3, k4⟩, by simp only [repV, bs_L]⟩
set_option maxRecDepth 20000 in
theorem open_page {r : Reach} {b0 : Nat} {v : Value} {d : DataW H} {ps : List MemPlace} (hval : Value.okWide Tryz.prog w r b0 25 v) (hd : DataW.Trod enc Tryz.prog w base spare held 25 v d ps) :
    ∃ (e : EnvD) (b s : List UInt8) (q : Bool), v = pageV e b s q := by
  obtain ⟨cs, rfl, -⟩ := okWide_struct Tryz.underlying25 hval
  obtain ⟨fuel, hf⟩ := hd
  have hf2 : DataW.trod enc Tryz.prog w base spare held fuel 25 cs.toList = some (d, ps) := hf
  obtain ⟨e, b, s, q, h⟩ := page_of hf2
  exact ⟨e, b, s, q, by rw [← h, Array.toArray_toList]⟩
set_option maxRecDepth 20000 in
theorem open_reply {r : Reach} {b0 : Nat} {v : Value} {d : DataW H} {ps : List MemPlace} (hval : Value.okWide Tryz.prog w r b0 41 v) (hd : DataW.Trod enc Tryz.prog w base spare held 41 v d ps) :
    ∃ e : Rep, v = repV e := by
  obtain ⟨cs, rfl, -⟩ := okWide_struct Tryz.underlying41 hval
  obtain ⟨fuel, hf⟩ := hd
  have hf2 : DataW.trod enc Tryz.prog w base spare held fuel 41 cs.toList = some (d, ps) := hf
  obtain ⟨e, h⟩ := reply_of hf2
  exact ⟨e, by rw [← h, Array.toArray_toList]⟩
end
end Go.Proofs.YtijpfcjlochahaaGreatDoor
