/- The walk of show's same$1 (the closure of same). -/
import Derived.Test.YtijpfcjlochahaaDoorShwO
import Derived.Test.YtijpfcjlochahaaDoorLikP
namespace Go.Proofs.YtijpfcjlochahaaDoor
open Go Go.RowKit

theorem likeE_unf (e f : Elem) : likeE e f = (e.kind == f.kind && e.text == f.text && e.src == f.src && e.alt == f.alt && e.soft == f.soft && e.test == f.test && likeF e.kids f.kids) := by
  cases e; cases f; rfl
theorem bs_beq (a b : List UInt8) : ((bs a).toList == (bs b).toList) = (a == b) := by rw [toList_bs, toList_bs]
set_option maxRecDepth 20000 in
set_option maxHeartbeats 4000000 in
theorem same1_calls (e f : Elem) (A B : Option Addr) (c d : Nat) (w : World) (hsame : ∀ W, Below w.heap.size w W → Calls Tryd.prog 75 #[.slice A e.kids.length c, .slice B f.kids.length d] W fun en W' => en = .returned (.bool (likeF e.kids f.kids)) ∧ Below W.heap.size W W') :
    Calls Tryd.prog 115 #[.agg #[.int .i64 e.kind, .string (bs e.text), .string (bs e.src), .string (bs e.alt), .bool e.soft, .string (bs e.test), .slice A e.kids.length c], .agg #[.int .i64 f.kind, .string (bs f.text), .string (bs f.src), .string (bs f.alt), .bool f.soft, .string (bs f.test), .slice B f.kids.length d]] w fun en w' => en = .returned (.bool (likeE e f)) ∧ Below w.heap.size w w' := by
  have HS := Lib.hid hsame
  have HL := Lib.hid (likeE_unf e f)
  generalize likeE e f = R at *
  clear hsame
  have h1 : Below w.heap.size w (w.alloc (.cells #[.int .i64 e.kind, .string (bs e.text), .string (bs e.src), .string (bs e.alt), .bool e.soft, .string (bs e.test), .slice A e.kids.length c] 46)) := (Below.refl _ _).alloc (Nat.le_refl _) _
  have hX := Blk.new w 46 #[.int .i64 e.kind, .string (bs e.text), .string (bs e.src), .string (bs e.alt), .bool e.soft, .string (bs e.test), .slice A e.kids.length c]
  have hY := Blk.new (w.alloc (.cells #[.int .i64 e.kind, .string (bs e.text), .string (bs e.src), .string (bs e.alt), .bool e.soft, .string (bs e.test), .slice A e.kids.length c] 46)) 46 #[.int .i64 f.kind, .string (bs f.text), .string (bs f.src), .string (bs f.alt), .bool f.soft, .string (bs f.test), .slice B f.kids.length d]
  have hX2 := hX.alloc (.cells #[.int .i64 f.kind, .string (bs f.text), .string (bs f.src), .string (bs f.alt), .bool f.soft, .string (bs f.test), .slice B f.kids.length d] 46)
  have HB := Lib.hid (h1.alloc h1.size (.cells #[.int .i64 f.kind, .string (bs f.text), .string (bs f.src), .string (bs f.alt), .bool f.soft, .string (bs f.test), .slice B f.kids.length d] 46))
  go_enter Tryd.func115, Tryd.ntmps115
  go_upto_region 1 with (fail)
  rw [size_alloc] at hY
  clear hX h1
  generalize (w.alloc (.cells #[.int .i64 e.kind, .string (bs e.text), .string (bs e.src), .string (bs e.alt), .bool e.soft, .string (bs e.test), .slice A e.kids.length c] 46)).alloc (.cells #[.int .i64 f.kind, .string (bs f.text), .string (bs f.src), .string (bs f.alt), .bool f.soft, .string (bs f.test), .slice B f.kids.length d] 46) = w5 at *
  have x0 := hX2.cell 0
  have x1 := hX2.cell 1
  have x2 := hX2.cell 2
  have x3 := hX2.cell 3
  have x4 := hX2.cell 4
  have x5 := hX2.cell 5
  have x6 := hX2.cell 6
  have y0 := hY.cell 0
  have y1 := hY.cell 1
  have y2 := hY.cell 2
  have y3 := hY.cell 3
  have y4 := hY.cell 4
  have y5 := hY.cell 5
  have y6 := hY.cell 6
  clear hX2 hY
  have b1 := bs_beq e.text f.text
  have b2 := bs_beq e.src f.src
  have b3 := bs_beq e.alt f.alt
  have b5 := bs_beq e.test f.test
  cases q0 : (e.kind == f.kind) with
  | false =>
    have HR : Hid (R = false) := by rw [Hid, HL.out, q0]; rfl
    go_wp2_with fail
    go_ret
    exact ⟨by rw [HR.out]; rfl, HB.out⟩
  | true =>
    cases q1 : (e.text == f.text) with
    | false =>
      rw [q1] at b1
      have HR : Hid (R = false) := by rw [Hid, HL.out, q0, q1]; simp
      go_wp2_with fail
      go_ret
      exact ⟨by rw [HR.out]; rfl, HB.out⟩
    | true =>
      rw [q1] at b1
      cases q2 : (e.src == f.src) with
      | false =>
        rw [q2] at b2
        have HR : Hid (R = false) := by rw [Hid, HL.out, q0, q1, q2]; simp
        go_wp2_with fail
        go_ret
        exact ⟨by rw [HR.out]; rfl, HB.out⟩
      | true =>
        rw [q2] at b2
        cases q3 : (e.alt == f.alt) with
        | false =>
          rw [q3] at b3
          have HR : Hid (R = false) := by rw [Hid, HL.out, q0, q1, q2, q3]; simp
          go_wp2_with fail
          go_ret
          exact ⟨by rw [HR.out]; rfl, HB.out⟩
        | true =>
          rw [q3] at b3
          cases q4 : (e.soft == f.soft) with
          | false =>
            have HR : Hid (R = false) := by rw [Hid, HL.out, q0, q1, q2, q3, q4]; simp
            go_wp2_with fail
            go_ret
            exact ⟨by rw [HR.out]; rfl, HB.out⟩
          | true =>
            cases q5 : (e.test == f.test) with
            | false =>
              rw [q5] at b5
              have HR : Hid (R = false) := by rw [Hid, HL.out, q0, q1, q2, q3, q4, q5]; simp
              go_wp2_with fail
              go_ret
              exact ⟨by rw [HR.out]; rfl, HB.out⟩
            | true =>
              rw [q5] at b5
              go_wp2_with fail
              refine (HS.out w5 HB.out).mono ?_
              rintro en w6 ⟨rfl, h6⟩
              have HB6 := Lib.hid (HB.out.trans (h6.mono HB.out.size))
              clear h6
              have HR : Hid (R = likeF e.kids f.kids) := by rw [Hid, HL.out, q0, q1, q2, q3, q4, q5]; rfl
              go_wp2_with fail
              all_goals
                go_ret
                exact ⟨by rw [HR.out]; rfl, HB6.out⟩
end Go.Proofs.YtijpfcjlochahaaDoor
