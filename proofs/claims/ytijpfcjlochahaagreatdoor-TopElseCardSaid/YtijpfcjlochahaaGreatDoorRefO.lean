/- The walk of intarsiaref19.Right: where it answers true, the program's Parse accepts the base. -/
import Derived.Test.YtijpfcjlochahaaGreatDoorRefN
import Derived.Test.YtijpfcjlochahaaGreatDoorEvD
set_option linter.unusedVariables false
set_option linter.unusedSimpArgs false
namespace Go.Proofs.YtijpfcjlochahaaGreatDoor
open Go Go.RowKit
set_option linter.unusedVariables false
set_option linter.unusedSimpArgs false

/-- What the reference's Right answers of a page. -/
def R19 (base : List UInt8) (w : World) (e : Ending) (w' : World) : Prop :=
  ∃ b : Bool, e = .returned (.bool b) ∧ (b = true → (parseF base).2 = 0 ∧ (parseF base).1.abs = true) ∧ Below w.heap.size w w'
theorem r19 {base : List UInt8} {w w' : World} {e : Ending} (b : Bool) (h1 : e = .returned (.bool b)) (h2 : b = true → (parseF base).2 = 0 ∧ (parseF base).1.abs = true) (h3 : Below w.heap.size w w') : R19 base w e w' := ⟨b, h1, h2, h3⟩
set_option maxRecDepth 20000 in
set_option maxHeartbeats 4000000 in
theorem right19_calls (v : EnvD) (base body : List UInt8) (esi : Bool) (hb : base.length ≤ 100000) (w : World) :
    Calls Tryz.prog 22 #[pageV v base body esi] w (R19 base w) := by
  have HP := Lib.hid (fun W => rparse_calls (bs base) (by rw [size_bs]; exact hb) W)
  rw [L_bs] at HP
  have HM : Hid (∀ {w w' : World} {e : Ending} (b : Bool), e = .returned (.bool b) → (b = true → (parseF base).2 = 0 ∧ (parseF base).1.abs = true) → Below w.heap.size w w' → R19 base w e w') := fun b h1 h2 h3 => r19 b h1 h2 h3
  unfold RParse at HP
  generalize (parseF base).2 = PE at *
  generalize (parseF base).1.abs = PA at *
  have hal : Below w.heap.size w (w.alloc (.cells (pgCells v base body esi) 25)) := (Below.refl _ _).alloc (Nat.le_refl _) _
  have HX := Lib.hid (Blk.new w 25 (pgCells v base body esi))
  have HB := Lib.hid hal
  have hsz := size_bs body
  clear hal hb
  simp only [pageV]
  go_enter Tryz.func22, Tryz.ntmps22
  go_wp2_with fail
  refine (HP.out _).mono ?_
  rintro e w1 ⟨u, eu, rfl, hok, hb1⟩
  have HOK := Lib.hid hok
  have hX1 := HX.out.below hb1 HX.out.lt
  have hB1 := HB.out.trans (hb1.mono HB.out.size)
  have hal := ((Below.refl w1.heap.size w1).alloc (Nat.le_refl _) (.cells (uCells u) 94))
  have HU := Lib.hid (Blk.new w1 94 (uCells u))
  have HX2 := Lib.hid (hX1.below hal hX1.lt)
  have HB2 := Lib.hid (hB1.trans (hal.mono hB1.size))
  clear hb1 HX HB hX1 hB1 hal hok HP
  simp only [UriD.val]
  go_upto_region 2 with (fail)
  change Code.wp _ _ _ _ (w1.alloc (.cells (uCells u) 94))
  generalize w1.alloc (.cells (uCells u) 94) = w2 at *
  generalize w1.heap.size = Y at *
  have y0 := HU.out.cell 0
  have x7 := HX2.out.cell 7
  simp [uCells, pgCells] at y0 x7
  by_cases he : eu = 0
  · have be : (eu == 0) = true := by rw [he]; rfl
    cases hab : u.abs with
    | true =>
      rw [hab] at y0
      have HR2 := Lib.hid (HOK.out he hab)
      clear he hab HOK
      by_cases hl : body.length ≤ 20000
      · have hli : (body.length : Int) ≤ 20000 := by omega
        clear hl
        go_wp2_with fail
        go_ret
        exact HM.out true rfl (fun _ => HR2.out) HB2.out
      · have hli : ¬ (body.length : Int) ≤ 20000 := by omega
        clear hl
        go_wp2_with fail
        go_ret
        exact HM.out false rfl (fun h => by cases h) HB2.out
    | false =>
      rw [hab] at y0
      clear he hab HOK
      go_wp2_with fail
      go_ret
      exact HM.out false rfl (fun h => by cases h) HB2.out
  · have be : (eu == 0) = false := by rw [beq_eq_false_iff_ne]; exact he
    clear he HOK
    go_wp2_with fail
    go_ret
    exact HM.out false rfl (fun h => by cases h) HB2.out
end Go.Proofs.YtijpfcjlochahaaGreatDoor
