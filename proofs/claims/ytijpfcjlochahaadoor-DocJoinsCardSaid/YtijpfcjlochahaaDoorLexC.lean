/- The walks of lex's cut, Right, Feed, End, All, Join. -/
import Derived.Test.YtijpfcjlochahaaDoorLexB
import Derived.Recover
import Derived.Defers
namespace Go.Proofs.YtijpfcjlochahaaDoor
open Go Go.RowKit

/-- What the deferred closure of 'cut' finds: the three results' cells. -/
structure CutCells (w : World) (p0 p1 p2 : Nat) : Prop where
  a0 : ∃ u, w.cell? ⟨p0, 0, none⟩ = some u
  a1 : ∃ u, w.cell? ⟨p0, 1, none⟩ = some u
  a2 : ∃ u, w.cell? ⟨p0, 2, none⟩ = some u
  f0 : w.frozen? ⟨p0, 0, none⟩ = false
  f1 : w.frozen? ⟨p0, 1, none⟩ = false
  f2 : w.frozen? ⟨p0, 2, none⟩ = false
  b0 : ∃ u, w.cell? ⟨p1, 0, none⟩ = some u
  g0 : w.frozen? ⟨p1, 0, none⟩ = false
  c0 : ∃ u, w.cell? ⟨p2, 0, none⟩ = some u
  h0 : w.frozen? ⟨p2, 0, none⟩ = false

theorem ta_short (w : World) : (Instr.typeAssert (.iface 96 (.agg #[])) 20 96 true).run Tryd.prog w = .ok (.tuple #[.agg #[], .bool true]) w := by kernel_rfl
theorem ta_err1 (n : Int) (w : World) : (Instr.typeAssert (.iface 24 (.int .i64 n)) 20 96 true).run Tryd.prog w = .ok (.tuple #[.agg #[], .bool false]) w := by kernel_rfl
theorem ta_err2 (n : Int) (w : World) : (Instr.typeAssert (.iface 24 (.int .i64 n)) 20 24 true).run Tryd.prog w = .ok (.tuple #[.int .i64 n, .bool true]) w := by kernel_rfl

set_option maxRecDepth 20000 in
set_option maxHeartbeats 1000000 in
theorem cutfn_idle (p0 p1 p2 : Nat) (w : World) :
    CallsD Tryd.prog 61 #[.pointer (some ⟨p0, 0, none⟩), .pointer (some ⟨p1, 0, none⟩), .pointer (some ⟨p2, 0, none⟩)] .returning w fun e u' w' => e = .returned (.tuple #[]) ∧ u' = .returning ∧ w' = w := by
  refine callsD_of_wpS Tryd.func61 rfl fun c₀ cs hu => ?_
  apply wpS_seq
  apply wpS_region
  simp [wpOpsS, go_sem, recoverD, hu, Tryd.ntmps61, Exit.thenS]
  refine wpS_of_wp ?_
  change Code.wp Tryd.prog _ _ ⟨#[.pointer (some ⟨p0, 0, none⟩), .pointer (some ⟨p1, 0, none⟩), .pointer (some ⟨p2, 0, none⟩), .nilIface, undef, undef, undef, .nilIface, undef, undef, undef, undef, undef, undef, undef, undef, undef, undef, undef, undef], []⟩ w
  go_wp2_with fail
  cases c₀
  simp_all [bodyPostS, results, Tryd.results61]

/-- The results as the closure leaves them. -/
def cutZero (w : World) (p0 p1 : Nat) : World := (set3 w p0 (.int .i64 0) (.string (bs [])) (.slice none 0 0)).setCell ⟨p1, 0, none⟩ (.int .i64 0)

set_option maxRecDepth 20000 in
set_option maxHeartbeats 1000000 in
theorem cutfn_short (p0 p1 p2 : Nat) (w : World) (h : CutCells w p0 p1 p2) (hlt : p0 < p1 ∧ p1 < p2) (older : List PanicEntry) :
    CallsD Tryd.prog 61 #[.pointer (some ⟨p0, 0, none⟩), .pointer (some ⟨p1, 0, none⟩), .pointer (some ⟨p2, 0, none⟩)] (.panicking ({ v := shortV, recovered := false } :: older)) w fun e u' w' =>
      e = .returned (.tuple #[]) ∧ u' = .panicking ({ v := shortV, recovered := true } :: older) ∧ ∃ o, w' = (cutZero w p0 p1).alloc o := by
  obtain ⟨⟨ua0, a0⟩, ⟨ua1, a1⟩, ⟨ua2, a2⟩, f0, f1, f2, ⟨ub0, b0⟩, g0, ⟨uc0, c0⟩, h0⟩ := h
  have hta := ta_short
  refine callsD_of_wpS Tryd.func61 rfl fun c₀ cs hu => ?_
  apply wpS_seq
  apply wpS_region
  simp [wpOpsS, go_sem, recoverD, hu, Tryd.ntmps61, Exit.thenS]
  refine wpS_of_wp ?_
  change Code.wp Tryd.prog _ _ ⟨#[.pointer (some ⟨p0, 0, none⟩), .pointer (some ⟨p1, 0, none⟩), .pointer (some ⟨p2, 0, none⟩), (.iface 96 (.agg #[])), undef, undef, undef, (.iface 96 (.agg #[])), undef, undef, undef, undef, undef, undef, undef, undef, undef, undef, undef, undef], []⟩ w
  have hne1 : p0 ≠ p1 := by omega
  have hne2 : p0 ≠ p2 := by omega
  have hne3 : p1 ≠ p2 := by omega
  go_wp2_with fail
  exact ⟨rfl, _, rfl, _, results_none rfl _ _ _, rfl, rfl, _, rfl⟩
set_option maxRecDepth 20000 in
set_option maxHeartbeats 1000000 in
theorem cutfn_bad (n : Int) (p0 p1 p2 : Nat) (w : World) (h : CutCells w p0 p1 p2) (hlt : p0 < p1 ∧ p1 < p2) (older : List PanicEntry) :
    CallsD Tryd.prog 61 #[.pointer (some ⟨p0, 0, none⟩), .pointer (some ⟨p1, 0, none⟩), .pointer (some ⟨p2, 0, none⟩)] (.panicking ({ v := errV n, recovered := false } :: older)) w fun e u' w' =>
      e = .returned (.tuple #[]) ∧ u' = .panicking ({ v := errV n, recovered := true } :: older) ∧ w' = (cutZero w p0 p1).setCell ⟨p2, 0, none⟩ (.int .i64 n) := by
  obtain ⟨⟨ua0, a0⟩, ⟨ua1, a1⟩, ⟨ua2, a2⟩, f0, f1, f2, ⟨ub0, b0⟩, g0, ⟨uc0, c0⟩, h0⟩ := h
  have hta := ta_err1
  have hta2 := ta_err2
  refine callsD_of_wpS Tryd.func61 rfl fun c₀ cs hu => ?_
  apply wpS_seq
  apply wpS_region
  simp [wpOpsS, go_sem, recoverD, hu, Tryd.ntmps61, Exit.thenS]
  refine wpS_of_wp ?_
  change Code.wp Tryd.prog _ _ ⟨#[.pointer (some ⟨p0, 0, none⟩), .pointer (some ⟨p1, 0, none⟩), .pointer (some ⟨p2, 0, none⟩), (.iface 24 (.int .i64 n)), undef, undef, undef, (.iface 24 (.int .i64 n)), undef, undef, undef, undef, undef, undef, undef, undef, undef, undef, undef, undef], []⟩ w
  have hne1 : p0 ≠ p1 := by omega
  have hne2 : p0 ≠ p2 := by omega
  have hne3 : p1 ≠ p2 := by omega
  go_wp2_with fail
  exact ⟨rfl, _, rfl, _, results_none rfl _ _ _, rfl, rfl, rfl⟩
end Go.Proofs.YtijpfcjlochahaaDoor
