/- The walks of lex's cut, Right, Feed, End, All, Join. The walk of lex.cut. -/
import Derived.Test.YtijpfcjlochahaaGreatDoorLexB
import Derived.Recover
import Derived.Defers
set_option linter.unusedVariables false
set_option linter.unusedSimpArgs false
namespace Go.Proofs.YtijpfcjlochahaaGreatDoor
open Go Go.RowKit
set_option linter.unusedVariables false
set_option linter.unusedSimpArgs false

/-- What the deferred closure of 'cut' finds: the three results' cells. -/
structure CutCells (w : World) (p0 p1 p2 : Nat) : Prop where
  a0 : ∃ u, w.cell? ⟨p0, 0, none⟩ = some u
  a1 : ∃ u, w.cell? ⟨p0, 1, none⟩ = some u
  a2 : ∃ u, w.cell? ⟨p0, 2, none⟩ = some u
  f0 : w.frozen? ⟨p0, 0, none⟩ = false
  f1 : w.frozen? ⟨p0, 1, none⟩ = false
  f2 : w.frozen? ⟨p0, 2, none⟩ = false
  b0 : ∃ u, w.cell? ⟨p1, 0, none⟩ = some u
  g0 : w.frozen? ⟨p1, 0, none⟩ = false
  c0 : ∃ u, w.cell? ⟨p2, 0, none⟩ = some u
  h0 : w.frozen? ⟨p2, 0, none⟩ = false

theorem ta_short (w : World) : (Instr.typeAssert (.iface 116 (.agg #[])) 20 116 true).run Tryz.prog w = .ok (.tuple #[.agg #[], .bool true]) w := by kernel_rfl
theorem ta_err1 (n : Int) (w : World) : (Instr.typeAssert (.iface 29 (.int .i64 n)) 20 116 true).run Tryz.prog w = .ok (.tuple #[.agg #[], .bool false]) w := by kernel_rfl
theorem ta_err2 (n : Int) (w : World) : (Instr.typeAssert (.iface 29 (.int .i64 n)) 20 29 true).run Tryz.prog w = .ok (.tuple #[.int .i64 n, .bool true]) w := by kernel_rfl

set_option maxRecDepth 20000 in
set_option maxHeartbeats 1000000 in
theorem cutfn_idle (p0 p1 p2 : Nat) (w : World) :
    CallsD Tryz.prog 63 #[.pointer (some ⟨p0, 0, none⟩), .pointer (some ⟨p1, 0, none⟩), .pointer (some ⟨p2, 0, none⟩)] .returning w fun e u' w' => e = .returned (.tuple #[]) ∧ u' = .returning ∧ w' = w := by
  refine callsD_of_wpS Tryz.func63 rfl fun c₀ cs hu => ?_
  apply wpS_seq
  apply wpS_region
  simp [wpOpsS, go_sem, recoverD, hu, Tryz.ntmps63, Exit.thenS]
  refine wpS_of_wp ?_
  change Code.wp Tryz.prog _ _ ⟨#[.pointer (some ⟨p0, 0, none⟩), .pointer (some ⟨p1, 0, none⟩), .pointer (some ⟨p2, 0, none⟩), .nilIface, undef, undef, undef, .nilIface, undef, undef, undef, undef, undef, undef, undef, undef, undef, undef, undef, undef], []⟩ w
  go_wp2_with fail
  cases c₀
  simp_all [bodyPostS, results, Tryz.results63]

/-- The results as the closure leaves them. -/
def cutZero (w : World) (p0 p1 : Nat) : World := (set3 w p0 (.int .i64 0) (.string (bs [])) (.slice none 0 0)).setCell ⟨p1, 0, none⟩ (.int .i64 0)

set_option maxRecDepth 20000 in
set_option maxHeartbeats 1000000 in
theorem cutfn_short (p0 p1 p2 : Nat) (w : World) (h : CutCells w p0 p1 p2) (hlt : p0 < p1 ∧ p1 < p2) (older : List PanicEntry) :
    CallsD Tryz.prog 63 #[.pointer (some ⟨p0, 0, none⟩), .pointer (some ⟨p1, 0, none⟩), .pointer (some ⟨p2, 0, none⟩)] (.panicking ({ v := shortV, recovered := false } :: older)) w fun e u' w' =>
      e = .returned (.tuple #[]) ∧ u' = .panicking ({ v := shortV, recovered := true } :: older) ∧ ∃ o, w' = (cutZero w p0 p1).alloc o := by
  obtain ⟨⟨ua0, a0⟩, ⟨ua1, a1⟩, ⟨ua2, a2⟩, f0, f1, f2, ⟨ub0, b0⟩, g0, ⟨uc0, c0⟩, h0⟩ := h
  have hta := ta_short
  refine callsD_of_wpS Tryz.func63 rfl fun c₀ cs hu => ?_
  apply wpS_seq
  apply wpS_region
  simp [wpOpsS, go_sem, recoverD, hu, Tryz.ntmps63, Exit.thenS]
  refine wpS_of_wp ?_
  change Code.wp Tryz.prog _ _ ⟨#[.pointer (some ⟨p0, 0, none⟩), .pointer (some ⟨p1, 0, none⟩), .pointer (some ⟨p2, 0, none⟩), (.iface 116 (.agg #[])), undef, undef, undef, (.iface 116 (.agg #[])), undef, undef, undef, undef, undef, undef, undef, undef, undef, undef, undef, undef], []⟩ w
  have hne1 : p0 ≠ p1 := by omega
  have hne2 : p0 ≠ p2 := by omega
  have hne3 : p1 ≠ p2 := by omega
  go_wp2_with fail
  exact ⟨rfl, _, rfl, _, results_none rfl _ _ _, rfl, rfl, _, rfl⟩
set_option maxRecDepth 20000 in
set_option maxHeartbeats 1000000 in
theorem cutfn_bad (n : Int) (p0 p1 p2 : Nat) (w : World) (h : CutCells w p0 p1 p2) (hlt : p0 < p1 ∧ p1 < p2) (older : List PanicEntry) :
    CallsD Tryz.prog 63 #[.pointer (some ⟨p0, 0, none⟩), .pointer (some ⟨p1, 0, none⟩), .pointer (some ⟨p2, 0, none⟩)] (.panicking ({ v := errV n, recovered := false } :: older)) w fun e u' w' =>
      e = .returned (.tuple #[]) ∧ u' = .panicking ({ v := errV n, recovered := true } :: older) ∧ w' = (cutZero w p0 p1).setCell ⟨p2, 0, none⟩ (.int .i64 n) := by
  obtain ⟨⟨ua0, a0⟩, ⟨ua1, a1⟩, ⟨ua2, a2⟩, f0, f1, f2, ⟨ub0, b0⟩, g0, ⟨uc0, c0⟩, h0⟩ := h
  have hta := ta_err1
  have hta2 := ta_err2
  refine callsD_of_wpS Tryz.func63 rfl fun c₀ cs hu => ?_
  apply wpS_seq
  apply wpS_region
  simp [wpOpsS, go_sem, recoverD, hu, Tryz.ntmps63, Exit.thenS]
  refine wpS_of_wp ?_
  change Code.wp Tryz.prog _ _ ⟨#[.pointer (some ⟨p0, 0, none⟩), .pointer (some ⟨p1, 0, none⟩), .pointer (some ⟨p2, 0, none⟩), (.iface 29 (.int .i64 n)), undef, undef, undef, (.iface 29 (.int .i64 n)), undef, undef, undef, undef, undef, undef, undef, undef, undef, undef, undef, undef], []⟩ w
  have hne1 : p0 ≠ p1 := by omega
  have hne2 : p0 ≠ p2 := by omega
  have hne3 : p1 ≠ p2 := by omega
  go_wp2_with fail
  exact ⟨rfl, _, rfl, _, results_none rfl _ _ _, rfl, rfl, rfl⟩
end Go.Proofs.YtijpfcjlochahaaGreatDoor
namespace Go.Proofs.YtijpfcjlochahaaGreatDoor
set_option linter.unusedVariables false
set_option linter.unusedSimpArgs false
open Go Go.RowKit

/-- What 'cut' leaves. -/
def CutPost (w : World) (r : Token × Nat × Int) (e : Ending) (w' : World) : Prop :=
  ∃ va, e = .returned (.tuple #[.agg #[.int .i64 r.1.kind, .string (bs r.1.text), va], .int .i64 r.2.1, .int .i64 r.2.2]) ∧ GR w' (fun g => w.heap.size ≤ g) (.row 2 (r.1.attrs.map Pair.gv)) [va] ∧ Below w.heap.size w w'

def cutW (w : World) (s : ByteArray) : World :=
  (((w.alloc (.cells #[.int .i64 0, .string (bs []), .slice none 0 0] 80)).alloc (.cells #[.int .i64 0] 3)).alloc (.cells #[.int .i64 0] 29)).alloc (.cells #[.string s, .int .i64 0] 119)
theorem cutW_facts (w : World) (s : ByteArray) : Blk (cutW w s) w.heap.size 80 #[.int .i64 0, .string (bs []), .slice none 0 0] ∧ Blk (cutW w s) (w.heap.size + 1) 3 #[.int .i64 0] ∧ Blk (cutW w s) (w.heap.size + 1 + 1) 29 #[.int .i64 0] ∧
    Rd (cutW w s) (w.heap.size + 1 + 1 + 1) s 0 ∧ Below w.heap.size w (cutW w s) := by
  have s1 := size_alloc w (.cells #[.int .i64 0, .string (bs []), .slice none 0 0] 80)
  have h1 := Blk.new w 80 #[.int .i64 0, .string (bs []), .slice none 0 0]
  have e1 := (Below.refl w.heap.size w).alloc (Nat.le_refl _) (.cells #[.int .i64 0, .string (bs []), .slice none 0 0] 80)
  unfold cutW
  generalize w.alloc (.cells #[.int .i64 0, .string (bs []), .slice none 0 0] 80) = w1 at *
  have s2 := size_alloc w1 (.cells #[.int .i64 0] 3)
  have h2 := Blk.new w1 3 #[.int .i64 0]
  have e2 := e1.alloc (by omega) (.cells #[.int .i64 0] 3)
  have h12 := h1.alloc (.cells #[.int .i64 0] 3)
  generalize w1.alloc (.cells #[.int .i64 0] 3) = w2 at *
  have s3 := size_alloc w2 (.cells #[.int .i64 0] 29)
  have h3 := Blk.new w2 29 #[.int .i64 0]
  have e3 := e2.alloc (by omega) (.cells #[.int .i64 0] 29)
  have h13 := h12.alloc (.cells #[.int .i64 0] 29)
  have h23 := h2.alloc (.cells #[.int .i64 0] 29)
  generalize w2.alloc (.cells #[.int .i64 0] 29) = w3 at *
  have h4 := Blk.new w3 119 #[.string s, .int .i64 0]
  rw [s1] at h2 h23
  rw [s2, s1] at h3
  rw [s3, s2, s1] at h4
  exact ⟨h13.alloc _, h23.alloc _, h3.alloc _, ⟨h4.cell 0, h4.cell 1, h4.frozen 1⟩, e3.alloc (by omega) _⟩

theorem cut_results {w : World} {H : Nat} {tmps : Array Value} {k n b : Int} {t : ByteArray} {v : Value} (h4 : tmps[4]?.getD undef = .pointer (some ⟨H, 0, none⟩)) (h5 : tmps[5]?.getD undef = .pointer (some ⟨H + 1, 0, none⟩)) (h6 : tmps[6]?.getD undef = .pointer (some ⟨H + 1 + 1, 0, none⟩))
    (B0 : Blk w H 80 #[.int .i64 k, .string t, v]) (B1 : Blk w (H + 1) 3 #[.int .i64 n]) (B2 : Blk w (H + 1 + 1) 29 #[.int .i64 b]) :
    (results Tryz.f40 tmps).run Tryz.prog w = .ok (.tuple #[.agg #[.int .i64 k, .string t, v], .int .i64 n, .int .i64 b]) w := by
  have a0 := B0.cell 0
  have a1 := B0.cell 1
  have a2 := B0.cell 2
  have c0 := B1.cell 0
  have d0 := B2.cell 0
  simp [results, Tryz.results40, go_sem, h4, h5, h6, a0, a1, a2, c0, d0]
theorem set3_blk {w : World} {R : Nat} {t : TypeId} {u0 u1 u2 : Value} (h : Blk w R t #[u0, u1, u2]) (x0 x1 x2 : Value) : Blk (set3 w R x0 x1 x2) R t #[x0, x1, x2] :=
  ((h.set_ 0 x0).set_ 1 x1).set_ 2 x2
theorem set3_far {w : World} {g R : Nat} {t : TypeId} {cs : Array Value} (h : Blk w g t cs) (hne : g ≠ R) (x0 x1 x2 : Value) : Blk (set3 w R x0 x1 x2) g t cs :=
  ((h.far (p := ⟨R, 0, none⟩) hne x0).far (p := ⟨R, 1, none⟩) hne x1).far (p := ⟨R, 2, none⟩) hne x2
theorem cutZero_facts {w : World} {H : Nat} {u0 u1 u2 u3 u4 : Value} (c0 : Blk w H 80 #[u0, u1, u2]) (c1 : Blk w (H + 1) 3 #[u3]) (c2 : Blk w (H + 1 + 1) 29 #[u4]) :
    Blk (cutZero w H (H + 1)) H 80 #[.int .i64 0, .string (bs []), .slice none 0 0] ∧ Blk (cutZero w H (H + 1)) (H + 1) 3 #[.int .i64 0] ∧ Blk (cutZero w H (H + 1)) (H + 1 + 1) 29 #[u4] ∧
      Below H w (cutZero w H (H + 1)) := by
  refine ⟨(set3_blk c0 _ _ _).far (p := ⟨H + 1, 0, none⟩) (by simp) _, (set3_far c1 (by omega) _ _ _).set_ 0 _, (set3_far c2 (by omega) _ _ _).far (p := ⟨H + 1, 0, none⟩) (by simp) _, ?_⟩
  unfold cutZero set3
  exact ((((Below.refl H w).setCell (p := ⟨H, 0, none⟩) (Nat.le_refl H) _).setCell (p := ⟨H, 1, none⟩) (Nat.le_refl H) _).setCell (p := ⟨H, 2, none⟩) (Nat.le_refl H) _).setCell (p := ⟨H + 1, 0, none⟩) (Nat.le_succ H) _
/-- Memory where 'cut' returns. -/
def cutOut (w : World) (H : Nat) (x0 x1 x2 x3 : Value) : World :=
  (((set3 (set3 w H x0 x1 x2) H x0 x1 x2).setCell ⟨H + 1, 0, none⟩ x3).setCell ⟨H + 1 + 1, 0, none⟩ (.int .i64 0)).drew
theorem cutOut_facts {w : World} {H : Nat} {u0 u1 u2 u3 u4 : Value} (x0 x1 x2 x3 : Value) (c0 : Blk w H 80 #[u0, u1, u2]) (c1 : Blk w (H + 1) 3 #[u3]) (c2 : Blk w (H + 1 + 1) 29 #[u4]) :
    Blk (cutOut w H x0 x1 x2 x3) H 80 #[x0, x1, x2] ∧ Blk (cutOut w H x0 x1 x2 x3) (H + 1) 3 #[x3] ∧ Blk (cutOut w H x0 x1 x2 x3) (H + 1 + 1) 29 #[.int .i64 0] ∧
      Below H w (cutOut w H x0 x1 x2 x3) ∧ ∀ k, H + 1 + 1 < k → (cutOut w H x0 x1 x2 x3).heap[k]? = w.heap[k]? := by
  have y0 := set3_blk (set3_blk c0 x0 x1 x2) x0 x1 x2
  have y1 := set3_far (set3_far c1 (show H + 1 ≠ H by omega) x0 x1 x2) (show H + 1 ≠ H by omega) x0 x1 x2
  have y2 := set3_far (set3_far c2 (show H + 1 + 1 ≠ H by omega) x0 x1 x2) (show H + 1 + 1 ≠ H by omega) x0 x1 x2
  have yb : Below H w (set3 (set3 w H x0 x1 x2) H x0 x1 x2) := by
    unfold set3
    exact ((((((Below.refl H w).setCell (p := ⟨H, 0, none⟩) (Nat.le_refl H) _).setCell (p := ⟨H, 1, none⟩) (Nat.le_refl H) _).setCell (p := ⟨H, 2, none⟩) (Nat.le_refl H) _).setCell (p := ⟨H, 0, none⟩) (Nat.le_refl H) _).setCell (p := ⟨H, 1, none⟩) (Nat.le_refl H) _).setCell (p := ⟨H, 2, none⟩) (Nat.le_refl H) _
  have yk : ∀ k, k ≠ H → (set3 (set3 w H x0 x1 x2) H x0 x1 x2).heap[k]? = w.heap[k]? := by
    intro k hk
    unfold set3
    rw [Below.heap_setCell _ _ _ _ hk, Below.heap_setCell _ _ _ _ hk, Below.heap_setCell _ _ _ _ hk, Below.heap_setCell _ _ _ _ hk, Below.heap_setCell _ _ _ _ hk, Below.heap_setCell _ _ _ _ hk]
  unfold cutOut
  generalize set3 (set3 w H x0 x1 x2) H x0 x1 x2 = W at *
  have n1 : H ≠ H + 1 := by omega
  have n2 : H ≠ H + 1 + 1 := by omega
  have n3 : H + 1 ≠ H + 1 + 1 := by omega
  refine ⟨(y0.far (p := ⟨H + 1, 0, none⟩) n1 _).far (p := ⟨H + 1 + 1, 0, none⟩) n2 _, (y1.set_ 0 x3).far (p := ⟨H + 1 + 1, 0, none⟩) n3 _, (y2.far (p := ⟨H + 1, 0, none⟩) n3.symm _).set_ 0 _,
    ((yb.setCell (p := ⟨H + 1, 0, none⟩) (Nat.le_succ H) _).setCell (p := ⟨H + 1 + 1, 0, none⟩) (by show H ≤ H + 1 + 1; omega) _).drew, fun k hk => ?_⟩
  have m1 : k ≠ H + 1 + 1 := by omega
  have m2 : k ≠ H + 1 := by omega
  exact (Below.heap_setCell _ ⟨H + 1 + 1, 0, none⟩ _ _ m1).trans ((Below.heap_setCell _ ⟨H + 1, 0, none⟩ _ _ m2).trans (yk k (by omega)))
theorem gr_nil_of {w : World} {F : Nat → Prop} {l : List Pair} (h : l = []) : GR w F (.row 2 (l.map Pair.gv)) [.slice none 0 0] := by subst h; exact gr_nil

set_option maxRecDepth 20000 in
set_option maxHeartbeats 2000000 in
theorem cut_calls (s m : ByteArray) (w : World) (hs : s.size ≤ 10000000) (hm : m.size ≤ 100) :
    Calls Tryz.prog 40 #[.string s, .string m] w (CutPost w (cutF (L s) (L m))) := by
  have hmf : ∀ (fn : Fn) (first cap : Array Value) (w : World), (Instr.makeFunc fn first cap).run Tryz.prog w = .ok (.func fn first cap) w := fun _ _ _ _ => rfl
  generalize hF : tagF (L m) (L s) 0 = F
  have HF := Lib.hid hF
  clear hF
  go_enter_defers Tryz.func40, Tryz.ntmps40
  go_wp2_with fail
  obtain ⟨b0, b1, b2, hrd, hbl⟩ := cutW_facts w s
  have HBL : Hid (Below w.heap.size w (cutW w s)) := hbl
  refine (tag_calls s m _ (cutW w s) hrd hs hm).mono ?_
  have hcs : w.heap.size + 1 + 1 + 1 < (cutW w s).heap.size := World.block_lt_of_cell? _ _ hrd.1
  clear hbl hrd
  generalize cutW w s = W at *
  generalize hH : w.heap.size = H at *
  rintro e w5 ⟨hg, ⟨x, rfl, hx⟩ | ⟨t, r, k, va, ho, rfl, hr, hk, hrd, hgr⟩⟩
  · have c0 := b0.grown hg (by simp; omega)
    have c1 := b1.grown hg (by simp)
    have c2 := b2.grown hg (by simp)
    have hb5 : Below H W w5 := below_of_grown hg (by omega) (fun k hk => by injection hk with hk; omega)
    obtain ⟨z0, z1, z2, hz⟩ := cutZero_facts c0 c1 c2
    have hcc : CutCells w5 H (H + 1) (H + 1 + 1) := ⟨⟨_, c0.cell 0⟩, ⟨_, c0.cell 1⟩, ⟨_, c0.cell 2⟩, c0.frozen 0, c0.frozen 1, c0.frozen 2, ⟨_, c1.cell 0⟩, c1.frozen 0, ⟨_, c2.cell 0⟩, c2.frozen 0⟩
    rcases hx.out with ⟨hxF, rfl⟩ | ⟨n, hxF, rfl⟩
    · refine leaves_cons (f := 63) (args := #[.pointer (some ⟨H, 0, none⟩), .pointer (some ⟨H + 1, 0, none⟩), .pointer (some ⟨H + 1 + 1, 0, none⟩)]) (by simp) (by simp [go_sem]) ?_
      refine (cutfn_short H (H + 1) (H + 1 + 1) _ hcc (by omega) []).mono ?_
      rintro e u' w'' ⟨rfl, rfl, o, rfl⟩
      refine ⟨_, cut_results rfl rfl rfl (z0.alloc o) (z1.alloc o) (z2.alloc o), .slice none 0 0, ?_, gr_nil_of (by rw [cutF, hxF]; rfl), ?_⟩
      · rw [cutF, hxF]; rfl
      · rw [hH]
        exact (HBL.out.trans (hb5.trans hz)).alloc (by have := z0.lt; omega) o
    · refine leaves_cons (f := 63) (args := #[.pointer (some ⟨H, 0, none⟩), .pointer (some ⟨H + 1, 0, none⟩), .pointer (some ⟨H + 1 + 1, 0, none⟩)]) (by simp) (by simp [go_sem]) ?_
      refine (cutfn_bad n H (H + 1) (H + 1 + 1) _ hcc (by omega) []).mono ?_
      rintro e u' w'' ⟨rfl, rfl, rfl⟩
      refine ⟨_, cut_results rfl rfl rfl (z0.far (p := ⟨H + 1 + 1, 0, none⟩) (by simp; omega) _) (z1.far (p := ⟨H + 1 + 1, 0, none⟩) (by simp) _) (z2.set_ 0 _), .slice none 0 0, ?_, gr_nil_of (by rw [cutF, hxF]; rfl), ?_⟩
      · rw [cutF, hxF]; rfl
      · rw [hH]
        exact (HBL.out.trans (hb5.trans hz)).setCell (p := ⟨H + 1 + 1, 0, none⟩) (by show H ≤ H + 1 + 1; omega) _
  · have c0 := b0.grown hg (by simp; omega)
    have c1 := b1.grown hg (by simp)
    have c2 := b2.grown hg (by simp)
    have hb5 : Below H W w5 := below_of_grown hg (by omega) (fun k hk => by injection hk with hk; omega)
    have HB5 := Lib.hid (HBL.out.trans hb5)
    obtain ⟨A, ca, rfl, _⟩ := pairs_open hgr
    have HGR := Lib.hid hgr
    have a0 := c0.cell 0
    have a1 := c0.cell 1
    have a2 := c0.cell 2
    have f0 := c0.frozen 0
    have f1 := c0.frozen 1
    have f2 := c0.frozen 2
    have d0 := c1.cell 0
    have d1 := c1.frozen 0
    have e0 := c2.cell 0
    have e1 := c2.frozen 0
    obtain ⟨r0, r1, r2⟩ := id hrd
    have HC0 := Lib.hid c0
    have HC1 := Lib.hid c1
    have HC2 := Lib.hid c2
    have HCS := Lib.hid hcs
    clear b0 b1 b2 hg hb5 HBL hgr c0 c1 c2 hrd hcs
    have HHH := Lib.hid hH
    clear hH
    go_wp2_with fail
    go_region
    go_wp2_with fail
    refine leaves_cons (f := 63) (args := #[.pointer (some ⟨H, 0, none⟩), .pointer (some ⟨H + 1, 0, none⟩), .pointer (some ⟨H + 1 + 1, 0, none⟩)]) (by simp) (by simp [go_sem]) ?_
    refine (cutfn_idle H (H + 1) (H + 1 + 1) _).mono ?_
    rintro e u' w'' ⟨rfl, rfl, rfl⟩
    obtain ⟨y0, y1, y2, yb, yk⟩ := cutOut_facts (.int .i64 t.kind) (.string (bs t.text)) (.slice A t.attrs.length ca) (.int .i64 k) HC0.out HC1.out HC2.out
    show Leaves Tryz.prog Tryz.f40 _ _ [] .returning (cutOut w5 H (.int .i64 t.kind) (.string (bs t.text)) (.slice A t.attrs.length ca) (.int .i64 k))
    generalize cutOut w5 H (.int .i64 t.kind) (.string (bs t.text)) (.slice A t.attrs.length ca) (.int .i64 k) = WF at *
    refine ⟨_, cut_results rfl rfl rfl y0 y1 y2, .slice A t.attrs.length ca, ?_, ?_, ?_⟩
    · rw [cutF, ho.out]
    · rw [cutF, ho.out]
      have hcs := HCS.out
      refine GR.mono (fun x hx => ?_) (fun x hx _ => ?_) _ _ HGR.out
      · have hx : W.heap.size ≤ x := hx
        show w.heap.size ≤ x
        rw [HHH.out]
        omega
      · have hx : W.heap.size ≤ x := hx
        exact yk x (by omega)
    · rw [HHH.out]
      exact HB5.out.trans yb
end Go.Proofs.YtijpfcjlochahaaGreatDoor
