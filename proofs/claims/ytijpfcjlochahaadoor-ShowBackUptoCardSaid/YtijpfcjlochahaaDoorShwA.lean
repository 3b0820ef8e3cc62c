/- The walk of show's all, where one is walked. -/
import Derived.Test.YtijpfcjlochahaaDoorShw
namespace Go.Proofs.YtijpfcjlochahaaDoor
open Go Go.RowKit

theorem Buf.below {B b : Nat} {l : List UInt8} {w w' : World} (h : Buf B b l w) (hb : Below w.heap.size w w') : Buf B b l w' := by
  have key : ∀ p : Value, Lib.BuilderAt 85 5 B b p (Lib.byteCells l) w → Lib.BuilderAt 85 5 B b p (Lib.byteCells l) w' := by
    intro p h
    have hlt := h.lt
    obtain ⟨hB, v, hk, ho, hne⟩ := h
    exact ⟨hB, v, (hb.block b hlt).trans hk, ho.kept (grown_of_below hb none) (by cases v.ownBlock <;> simp), hne⟩
  rcases h with h | h
  · exact .inl (key _ h)
  · exact .inr (key _ h)
def OneDone (x : Elem) (F : Nat → Prop) (w : World) : Prop := ∀ (A : Option Addr) (c : Nat) (W : World), Below w.heap.size w W → GR w F (.row 7 (x.kids.map Elem.gv)) [.slice A x.kids.length c] →
  Calls Tryd.prog 113 #[.agg #[.int .i64 x.kind, .string (bs x.text), .string (bs x.src), .string (bs x.alt), .bool x.soft, .string (bs x.test), .slice A x.kids.length c]] W fun e W' => e = .returned (.string (bs (shE x))) ∧ Below W.heap.size W W'
theorem shF_take (l : List Elem) (k : Nat) (h : k < l.length) : shF (l.take (k + 1)) = shF (l.take k) ++ shE l[k] := by
  rw [List.take_succ_eq_append_getElem h, shF_append]
  simp only [shF, List.append_nil]
theorem shF_take_le (l : List Elem) (k : Nat) : (shF (l.take k)).length ≤ (shF l).length := by
  have e : shF l = shF (l.take k) ++ shF (l.drop k) := by rw [← shF_append, List.take_append_drop]
  rw [e, List.length_append]; omega
set_option maxRecDepth 20000 in
set_option maxHeartbeats 4000000 in
theorem showAll_step (l : List Elem) (v : Value) (F : Nat → Prop) (w : World) (hv : GR w F (.row 7 (l.map Elem.gv)) [v]) (hsz : (shF l).length ≤ 100000000) (hone : ∀ k (h : k < l.length), OneDone l[k] (fun g => F g ∧ g < w.heap.size) w) :
    Calls Tryd.prog 74 #[v] w fun e w' => e = .returned (.string (bs (shF l))) ∧ Below w.heap.size w w' := by
  obtain ⟨A, c, rfl, hlc, hcm, hop⟩ := elems_open (GR.lt_heap _ _ hv)
  have HOP := Lib.hid hop
  have HONE := Lib.hid hone
  have HSZ := Lib.hid hsz
  clear hop hv hone hsz
  unfold maxLen at hcm
  have HB0 : Hid (Buf w.heap.size w.heap.size (shF (l.take 0)) (w.alloc (.cells #[.pointer none, .slice none 0 0] 85))) := by rw [Hid, List.take_zero, shF]; exact Buf.new w
  have HW0 : Hid (Below w.heap.size w (w.alloc (.cells #[.pointer none, .slice none 0 0] 85))) := (Below.refl _ _).alloc (Nat.le_refl _) _
  go_enter Tryd.func74, Tryd.ntmps74
  go_wp2_with fail
  go_loopw [5, 8] (fun _ i wr => ∃ k : Nat, k ≤ l.length ∧ i = .int .i64 k ∧ Hid (Buf w.heap.size w.heap.size (shF (l.take k)) wr) ∧ Hid (Below w.heap.size w wr))
    (fun _ i wr => l.length - (intOf i).toNat)
  case atStart => exact ⟨0, Nat.zero_le _, rfl, HB0.out, HW0.out⟩
  case round =>
    clear HB0 HW0
    obtain ⟨k, hk, rfl, HB, HW⟩ := hrel
    by_cases hlt : k < l.length
    · obtain ⟨b, off, rfl, ⟨_, hbw⟩, hop⟩ := HOP.out (by rintro rfl; simp at hlt)
      obtain ⟨Ak, ck, hE⟩ := hop k hlt
      have HKI := Lib.hid hE.kids
      have hE := hE.below HW.out hbw
      have e0 := hE.c0
      have e1 := hE.c1
      have e2 := hE.c2
      have e3 := hE.c3
      have e4 := hE.c4
      have e5 := hE.c5
      have e6 := hE.c6
      have H1 := Lib.hid (HONE.out k hlt)
      have HTK := Lib.hid (shF_take l k hlt)
      have HLE := Lib.hid (Nat.le_trans (shF_take_le l (k + 1)) HSZ.out)
      clear hE hop hbw
      generalize l[k] = x at *
      go_upto_region 5 with (fail)
      have hX := Blk.new wr 46 #[.int .i64 x.kind, .string (bs x.text), .string (bs x.src), .string (bs x.alt), .bool x.soft, .string (bs x.test), .slice Ak x.kids.length ck]
      have hal : Below wr.heap.size wr (wr.alloc (.cells #[.int .i64 x.kind, .string (bs x.text), .string (bs x.src), .string (bs x.alt), .bool x.soft, .string (bs x.test), .slice Ak x.kids.length ck] 46)) := (Below.refl _ _).alloc (Nat.le_refl _) _
      have HB5 := Lib.hid (HB.out.below hal)
      have HW5 := Lib.hid (HW.out.trans (hal.mono HW.out.size))
      generalize wr.alloc (.cells #[.int .i64 x.kind, .string (bs x.text), .string (bs x.src), .string (bs x.alt), .bool x.soft, .string (bs x.test), .slice Ak x.kids.length ck] 46) = w5 at *
      clear e0 e1 e2 e3 e4 e5 e6 hal HB HW
      generalize wr.heap.size = X at *
      have x0 := hX.cell 0
      have x1 := hX.cell 1
      have x2 := hX.cell 2
      have x3 := hX.cell 3
      have x4 := hX.cell 4
      have x5 := hX.cell 5
      have x6 := hX.cell 6
      clear hX
      go_wp2_with fail
      refine (H1.out _ _ _ HW5.out HKI.out).mono ?_
      rintro e w6 ⟨rfl, h6⟩
      have HB6 := Lib.hid (HB5.out.below h6)
      have HW6 := Lib.hid (HW5.out.trans (h6.mono HW5.out.size))
      clear h6 x0 x1 x2 x3 x4 x5 x6
      go_wp2_with fail
      refine (write_calls w.heap.size w.heap.size _ (shE x) _ HB6.out (by have := HLE.out; rw [HTK.out, List.length_append] at this; omega) HW6.out.size).mono ?_
      rintro e w7 ⟨rfl, hb7, hw7⟩
      have HB7 : Hid (Buf w.heap.size w.heap.size (shF (l.take (k + 1))) w7) := by rw [Hid, HTK.out]; exact hb7
      have HW7 := Lib.hid (HW6.out.trans hw7)
      clear hb7 hw7
      go_wp2_with fail
      go_roundw
      case rel => exact ⟨k + 1, hlt, by go_num, HB7.out, HW7.out⟩
      case measure => simp [intOf]; omega
    · have hkl : k = l.length := by omega
      subst hkl
      rw [List.take_length] at HB
      go_wp2_with fail
      refine (Tryd.Builder_String_any w.heap.size w.heap.size (shF l) wr HB.out HW.out.size).mono ?_
      rintro e w5 ⟨rfl, hw5⟩
      have HW5 := Lib.hid (HW.out.trans hw5)
      clear hw5
      go_wp2_with fail
      go_ret
      exact ⟨rfl, HW5.out⟩
end Go.Proofs.YtijpfcjlochahaaDoor
