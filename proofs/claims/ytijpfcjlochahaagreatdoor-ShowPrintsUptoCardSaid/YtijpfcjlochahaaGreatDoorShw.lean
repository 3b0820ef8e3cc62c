/- The walks of strings.Builder's copyCheck and WriteString (a builder of the call's own), after the kit's general proofs: here the branch that panics is refused, so the kit's laying does not fit. The walks of show: tag, name. -/
import Derived.Test.YtijpfcjlochahaaGreatDoorLexB
import Derived.Shelf.Strings.BuilderK
import Derived.Deep.CutRange
import Derived.Test.YtijpfcjlochahaaGreatDoorShwP
import Derived.Test.YtijpfcjlochahaaGreatDoorLnkR
import Derived.Test.YtijpfcjlochahaaGreatDoorAsk
import Derived.Test.YtijpfcjlochahaaGreatDoorShelf
import Derived.IntWalk
namespace Go.Proofs.YtijpfcjlochahaaGreatDoor
open Go Go.RowKit
set_option linter.unusedVariables false
set_option linter.unusedSimpArgs false

theorem bufSize : (Tryz.prog.info? 170).map (·.size) = some 2 := by kernel_rfl
theorem bufLies : liesAt Tryz.prog Tryz.prog.depth 170 (2 / Tryz.prog.cellsOf 170) 0 170 1 = true := by kernel_rfl
set_option maxRecDepth 100000 in
set_option maxHeartbeats 2000000 in
theorem copyCheck_used (b : Nat) (w : World) (h0 : w.cell? ⟨b, 0, none⟩ = some (.pointer (some ⟨b, 0, none⟩))) :
    Calls Tryz.prog 165 #[.pointer (some ⟨b, 0, none⟩)] w fun e w' => e = .returned (.tuple #[]) ∧ w' = w := by
  obtain ⟨j, hj, _⟩ := Option.map_eq_some_iff.1 bufSize
  have hq : ∀ W : World, (binOp .neq 168 (.pointer (some ⟨b, 0, none⟩)) (.pointer (some ⟨b, 0, none⟩))).run Tryz.prog W = .ok (.bool false) W := fun W => Lib.run_neq_ptr_same W _ Tryz.underlying168 hj
  go_enter Tryz.func165, Tryz.ntmps165
  go_wp2_with fail
  all_goals
    go_end0
    exact ⟨rfl, rfl⟩
set_option maxRecDepth 100000 in
set_option maxHeartbeats 2000000 in
theorem copyCheck_fresh (b : Nat) (w : World) (h0 : w.cell? ⟨b, 0, none⟩ = some (.pointer none)) (hsh : w.shape? b = some (170, 2)) (hfz : w.frozen? ⟨b, 0, none⟩ = false) :
    Calls Tryz.prog 165 #[.pointer (some ⟨b, 0, none⟩)] w fun e w' => e = .returned (.tuple #[]) ∧ w' = w.setCell ⟨b, 0, none⟩ (.pointer (some ⟨b, 0, none⟩)) := by
  obtain ⟨j, hj, hjs⟩ := Option.map_eq_some_iff.1 bufSize
  have hc1 : (convert 168 214 (.pointer (some ⟨b, 0, none⟩))).run Tryz.prog w = .ok (.pointer (some ⟨b, 0, none⟩)) w := Lib.run_to_unsafe w ⟨b, 0, none⟩ Tryz.underlying168 Tryz.underlying214 hj (by rw [hjs]; decide) hsh (Nat.zero_lt_succ 1)
  have hc2 : (convert 214 168 (.pointer (some ⟨b, 0, none⟩))).run Tryz.prog w = .ok (.pointer (some ⟨b, 0, none⟩)) w := Lib.run_from_unsafe w ⟨b, 0, none⟩ Tryz.underlying214 Tryz.underlying168 hj hsh bufLies
  have hc3 : (callFunc 189 #[.pointer (some ⟨b, 0, none⟩)]).run Tryz.prog w = .ok (.value (.pointer (some ⟨b, 0, none⟩))) w := by
    rw [run_callFunc_extern Tryz.func189 (by kernel_rfl) (by kernel_rfl) (by kernel_rfl) (e := Extern.AbiNoEscape.same) (by kernel_rfl), Lib.run_noEscape]
    rfl
  go_enter Tryz.func165, Tryz.ntmps165
  go_wp2_with fail
  all_goals
    go_end0
    exact ⟨rfl, rfl⟩
/-- A builder of the call's own (at block b, one from B on) that holds the bytes l. -/
def Buf (B b : Nat) (l : List UInt8) (w : World) : Prop := Lib.IsBuilder 170 5 B b (Lib.byteCells l) w
theorem byteInfo : ∃ i, Tryz.prog.info? 5 = some i ∧ i.zero = some (.int .u8 0) ∧ i.size = 1 ∧ i.bytes = 1 := by
  obtain ⟨i0, hi, h0, h1, h2⟩ := info_parts (show (Tryz.prog.info? 5).map (fun i => (i.zero, i.size, i.bytes)) = some (some (.int .u8 0), 1, 1) by kernel_rfl)
  exact ⟨i0, hi, h0, h1, h2⟩
theorem copyCheck_calls (B b : Nat) (l : List UInt8) (w : World) (h : Buf B b l w) :
    Calls Tryz.prog 165 #[.pointer (some ⟨b, 0, none⟩)] w fun e w' => e = .returned (.tuple #[]) ∧ (Lib.BuilderAt 170 5 B b (.pointer (some ⟨b, 0, none⟩)) (Lib.byteCells l) w' ∧ Below B w w') := by
  rcases h with h | h
  · refine (copyCheck_fresh b w h.cell0 h.shape h.frozen0).mono ?_
    rintro e w' ⟨rfl, rfl⟩
    exact ⟨rfl, h.used _, (Below.refl B w).setCell (p := ⟨b, 0, none⟩) h.1 _⟩
  · refine (copyCheck_used b w h.cell0).mono ?_
    rintro e w' ⟨rfl, rfl⟩
    exact ⟨rfl, h, Below.refl B _⟩
set_option maxHeartbeats 2000000 in
set_option maxRecDepth 100000 in
theorem write_calls (B b : Nat) (l s : List UInt8) (w : World) (h : Buf B b l w) (hlen : l.length + s.length ≤ 140737488355328) (hBw : B ≤ w.heap.size) :
    Calls Tryz.prog 128 #[.pointer (some ⟨b, 0, none⟩), .string (bs s)] w fun e w' => e = .returned (.tuple #[.int .i64 s.length, .nilIface]) ∧ (Buf B b (l ++ s) w' ∧ Below B w w') := by
  obtain ⟨i0, hi, hz0, hz1, hz2⟩ := byteInfo
  have hss : (bs s).size = s.length := size_bs s
  have hcl : (Lib.byteCells l).length = l.length := Lib.byteCells_length l
  go_enter Tryz.func128, Tryz.ntmps128
  go_wp2_with fail
  refine (copyCheck_calls B b l w h).mono ?_
  rintro e w1 ⟨rfl, h1, hb1⟩
  obtain ⟨hB, v, hbk, hown, hne⟩ := h1
  have c0 : w1.cell? ⟨b, 0, none⟩ = some (.pointer (some ⟨b, 0, none⟩)) := by rw [Lib.cell_of_heap hbk]; rfl
  have c1 : w1.cell? ⟨b, 1, none⟩ = some v := by rw [Lib.cell_of_heap hbk]; rfl
  go_wp2_with (at_builtin; refine Lib.wpList_append_own_string _ rfl _ _ 162 9 rfl B 5 i0 Tryz.underlying162 Tryz.underlying9 hi hz0 hz1 hz2 _ _ _ rfl hown (bs s) rfl ?c3 ?c4 ?c5 ?_)
  case c3 => unfold maxLen; omega
  case c4 => omega
  case c5 => have := hb1.size; omega
  intro v' w2 hown' hgrow _
  have hlt : b < w1.heap.size := by
    rcases Nat.lt_or_ge b w1.heap.size with h' | h'
    · exact h'
    · simp [Array.getElem?_eq_none h'] at hbk
  have hb2 : w2.heap[b]? = some (.cells #[.pointer (some ⟨b, 0, none⟩), v] 170 (0, 0)) := by
    rw [hgrow.block b hlt (fun e => hne e.symm)]
    exact hbk
  have d0 : w2.cell? ⟨b, 0, none⟩ = some (.pointer (some ⟨b, 0, none⟩)) := by rw [Lib.cell_of_heap hb2]; rfl
  have d1 : w2.cell? ⟨b, 1, none⟩ = some v := by rw [Lib.cell_of_heap hb2]; rfl
  have f1 : w2.frozen? ⟨b, 1, none⟩ = false := Lib.frozen_of_heap hb2 1
  obtain ⟨ao, n', cap, rfl⟩ : ∃ ao n' cap, v' = .slice ao n' cap := by
    rcases hown'.2 with ⟨hv, _⟩ | ⟨g, cap, cur, hv, _⟩
    · exact ⟨_, _, _, hv⟩
    · exact ⟨_, _, _, hv⟩
  have HO := Lib.hid hown'
  have HBB := Lib.hid hb1
  have HG := Lib.hid hgrow
  have HOL := Lib.hid hown
  have HH2 := Lib.hid hb2
  clear hown' hb1 hgrow hown hb2 hbk
  go_wp2_with fail
  go_ret2
  refine ⟨?_, .inr ?_, ?_⟩
  · rfl
  · have e : Lib.byteCells (l ++ s) = Lib.byteCells l ++ Lib.strCells (bs s) := by
      rw [Lib.strCells_eq]
      show Lib.byteCells (l ++ s) = Lib.byteCells l ++ Lib.byteCells (bs s).data.toList
      have e2 : (bs s).data.toList = s := rfl
      rw [e2]
      simp [Lib.byteCells]
    rw [e]
    exact Lib.BuilderAt.put (T := 170) (e := 5) hB HH2.out (bs' := Lib.byteCells l ++ Lib.strCells (bs s)) (by rw [List.length_append, Lib.strCells_length, hcl, hss]; exact HO.out) (by decide)
  · exact (HBB.out.grown HG.out (by have := HBB.out.size; omega) (fun k hk => (HOL.out.lt k hk).1)).setCell (p := ⟨b, 1, none⟩) hB _
end Go.Proofs.YtijpfcjlochahaaGreatDoor
namespace Go.Proofs.YtijpfcjlochahaaGreatDoor
set_option linter.unusedVariables false
set_option linter.unusedSimpArgs false
open Go Go.RowKit

theorem Buf.new (w : World) : Buf w.heap.size w.heap.size [] (w.alloc (.cells #[.pointer none, .slice none 0 0] 170)) :=
  .inl ⟨Nat.le_refl _, .slice none 0 0, heap_alloc_new w _, World.ownsRow_nil _ _ _ _, fun e => by cases e⟩
theorem Buf.drew {B b : Nat} {l : List UInt8} {w : World} (h : Buf B b l w) : Buf B b l w.drew := h
theorem add5 (x y : List UInt8) : (({ data := #[32] } : ByteArray) ++ bs x ++ { data := #[61, 34] } ++ bs y ++ { data := #[34] }) = bs ([32] ++ x ++ [61, 34] ++ y ++ [34]) := by
  show bs [32] ++ bs x ++ bs [61, 34] ++ bs y ++ bs [34] = _
  rw [bs_append, bs_append, bs_append, bs_append]
theorem addA (t : List UInt8) : bs t ++ ({ data := #[47, 62] } : ByteArray) = bs (t ++ [47, 62]) := bs_append _ _
theorem addB (t inn n : List UInt8) : bs t ++ ({ data := #[62] } : ByteArray) ++ bs inn ++ { data := #[60, 47, 101, 115, 105, 58] } ++ bs n ++ { data := #[62] } = bs (t ++ [62] ++ inn ++ [60, 47, 101, 115, 105, 58] ++ n ++ [62]) := by
  show bs t ++ bs [62] ++ bs inn ++ bs [60, 47, 101, 115, 105, 58] ++ bs n ++ bs [62] = _
  rw [bs_append, bs_append, bs_append, bs_append, bs_append]
theorem bs_lit (a : Array UInt8) : (⟨a⟩ : ByteArray) = bs a.toList := rfl
set_option maxRecDepth 20000 in
set_option maxHeartbeats 2000000 in
theorem shName_calls (k : Int) (w : World) : Calls Tryz.prog 167 #[.int .i64 k] w fun e w' => e = .returned (.string (bs (shName k))) ∧ w' = w := by
  obtain ⟨s, hs⟩ : ∃ s, s = bs (shName k) := ⟨_, rfl⟩
  rw [← hs]
  have HS := Lib.hid hs
  clear hs
  go_enter Tryz.func167, Tryz.ntmps167
  go_wp2_with fail
  all_goals
    go_ret
    refine ⟨?_, rfl⟩
    show Ending.returned (.string _) = _
    have HE := HS.out
    clear HS
    congr 2
    rw [HE]
    clear HE
    have key : ∀ l : List UInt8, shName k = l → (⟨l.toArray⟩ : ByteArray) = bs (shName k) := fun l e => by rw [e]; rfl
    refine key _ ?_
    simp only [shName]
    simp_all
set_option maxRecDepth 20000 in
set_option maxHeartbeats 4000000 in
theorem shTag_calls (n : List UInt8) (alone : Bool) (inn : List UInt8) (ps : List (List UInt8 × List UInt8)) (va : Value) (F : Nat → Prop) (w : World) (ha : GR w F (.row 1 ((flatP ps).map .str)) [va]) (hsz : n.length + inn.length + (shAttrs ps).length ≤ 100000000) :
    Calls Tryz.prog 166 #[.string (bs n), .bool alone, .string (bs inn), va] w fun e w' => e = .returned (.string (bs (shTag n alone inn ps))) ∧ Below w.heap.size w w' := by
  obtain ⟨A, c, rfl, hlc, hcm, hop⟩ := strs_open (GR.lt_heap _ _ ha)
  have HOP := Lib.hid hop
  clear hop ha
  unfold maxLen at hcm
  have HSZ := Lib.hid hsz
  have hfl := flatP_len ps
  have HFA := Lib.hid (fun (k : Nat) (h : k < ps.length) => flatP_at h)
  obtain ⟨FL, HFL⟩ : ∃ FL, Hid (FL = flatP ps) := ⟨_, rfl⟩
  rw [← HFL.out] at hfl hlc HOP HFA ⊢
  obtain ⟨N, hN⟩ : ∃ N, N = FL.length := ⟨_, rfl⟩
  rw [← hN] at hfl hlc ⊢
  have HN := Lib.hid hN
  have HFN := Lib.hid hfl
  clear hN hsz hfl
  have HB0 := Lib.hid (Buf.new w)
  have HW0 : Hid (Below w.heap.size w (w.alloc (.cells #[.pointer none, .slice none 0 0] 170))) := (Below.refl _ _).alloc (Nat.le_refl _) _
  have hns : (bs n).size = n.length := size_bs n
  have hp5 : ¬ 9223372036854775807 < 5 + n.length := by have := HSZ.out; omega
  go_enter Tryz.func166, Tryz.ntmps166
  go_wp2_with fail
  rw [show ({ data := #[60, 101, 115, 105, 58] } : ByteArray) ++ bs n = bs ([60, 101, 115, 105, 58] ++ n) from bs_append _ _]
  refine (write_calls w.heap.size w.heap.size [] ([60, 101, 115, 105, 58] ++ n) _ HB0.out (by have := HSZ.out; simp only [List.length_nil, List.length_append, List.length_cons]; omega) HW0.out.size).mono ?_
  rintro e w1 ⟨rfl, hb1, hw1⟩
  have HB1 : Hid (Buf w.heap.size w.heap.size ([60, 101, 115, 105, 58] ++ n ++ shAttrs (ps.take 0)) w1) := by rw [Hid, List.take_zero, shAttrs, List.append_nil]; exact hb1
  have HW1 := Lib.hid (HW0.out.trans hw1)
  clear hb1 hw1 HB0 HW0
  go_wp2_with fail
  go_loopw [10] (fun i wr => ∃ (k j : Nat), k ≤ ps.length ∧ i = .int .i64 j ∧ Hid (j = 2 * k) ∧ Hid (Buf w.heap.size w.heap.size ([60, 101, 115, 105, 58] ++ n ++ shAttrs (ps.take k)) wr) ∧ Hid (Below w.heap.size w wr))
    (fun i wr => N - (intOf i).toNat)
  case atStart => exact ⟨0, 0, Nat.zero_le _, rfl, rfl, HB1.out, HW1.out⟩
  case round =>
    clear HB1 HW1
    obtain ⟨k, j, hk, rfl, HJ, HB, HW⟩ := hrel
    by_cases hlt : k < ps.length
    · have hjN : j + 1 < N := by have := HJ.out; have := HFN.out; omega
      obtain ⟨b, off, rfl, ⟨_, hbw⟩, hop⟩ := HOP.out (by rintro rfl; have := HN.out; simp at this; omega)
      obtain ⟨f1, f2⟩ := HFA.out k hlt
      rw [← HJ.out] at f1 f2
      obtain ⟨q1, f1⟩ := List.getElem?_eq_some_iff.1 f1
      obtain ⟨q2, f2⟩ := List.getElem?_eq_some_iff.1 f2
      have e1 := (HW.out.cell (p := ⟨b, off + j, none⟩) hbw).trans (hop j q1)
      have e2 := (HW.out.cell (p := ⟨b, off + (j + 1), none⟩) hbw).trans (hop (j + 1) q2)
      rw [f1] at e1
      rw [f2] at e2
      have HTK := Lib.hid (shAttrs_take hlt)
      have hle : (shAttrs (ps.take (k + 1))).length ≤ 100000000 - n.length := by have := shAttrs_take_le ps (k + 1); have := HSZ.out; omega
      rw [HTK.out] at hle
      simp only [List.length_append, List.length_cons, List.length_nil] at hle
      generalize ps[k].1 = x at *
      generalize ps[k].2 = y at *
      have z1 : (bs x).size = x.length := size_bs _
      have z2 : (bs y).size = y.length := size_bs _
      have HBW := Lib.hid hbw
      have HLE := Lib.hid hle
      clear hop hbw q1 q2 f1 f2
      have hj0 : (0 : Int) ≤ (j : Int) := by omega
      have hj1 : (j : Int) < (N : Int) := by omega
      have hj2 : (j : Int) + 1 < (N : Int) := by omega
      have s1 : ¬ 9223372036854775807 < 1 + x.length := by omega
      have s2 : ¬ 9223372036854775807 < 1 + x.length + 2 := by omega
      have s3 : ¬ 9223372036854775807 < 1 + x.length + 2 + y.length := by omega
      have s4 : ¬ 9223372036854775807 < 1 + x.length + 2 + y.length + 1 := by omega
      have s5 : IntKind.i64.wrap ((j : Int) + 1) = (j : Int) + 1 := IntWalk.i64_in _ (by omega)
      have s6 : (((j : Int) + 1).toNat) = j + 1 := by omega
      have s7 : (0 : Int) ≤ (j : Int) + 1 := by omega
      go_wp2_with fail
      refine wp_region_held (S := (fun w' => w'.cell? ⟨b, off + j, none⟩ = some (.string (bs x)) ∧ w'.cell? ⟨b, off + (j + 1), none⟩ = some (.string (bs y)))) (by kernel_rfl) ?_
      change wpAnyH _ _ _ _ _ _ _ _ (World.drew _)
      refine wpAnyH_take (i := 0) (v := ?_) rfl (by kernel_rfl) (by kernel_rfl) (by kernel_rfl) (fun _ _ _ h => h) (Or.inl ⟨by rfl, ?_⟩) ⟨e1, e2⟩ ?_
      rotate_left
      · (intro w_ hS_; obtain ⟨q1, q2⟩ := hS_; go_simp; try with_reducible rfl)
      refine wpAnyH_take (i := 1) (v := ?_) rfl (by kernel_rfl) (by kernel_rfl) (by kernel_rfl) (fun _ _ _ h => h) (Or.inl ⟨by rfl, ?_⟩) ⟨e1, e2⟩ ?_
      rotate_left
      · (intro w_ hS_; obtain ⟨q1, q2⟩ := hS_; go_simp; try with_reducible rfl)
      refine wpAnyH_take (i := 2) (v := ?_) rfl (by kernel_rfl) (by kernel_rfl) (by kernel_rfl) (fun _ _ _ h => h) (Or.inl ⟨by rfl, ?_⟩) ⟨e1, e2⟩ ?_
      rotate_left
      · (intro w_ hS_; obtain ⟨q1, q2⟩ := hS_; go_simp; try with_reducible rfl)
      refine wpAnyH_take (i := 3) (v := ?_) rfl (by kernel_rfl) (by kernel_rfl) (by kernel_rfl) (fun _ _ _ h => h) (Or.inl ⟨by rfl, ?_⟩) ⟨e1, e2⟩ ?_
      rotate_left
      · (intro w_ hS_; obtain ⟨q1, q2⟩ := hS_; go_simp; try with_reducible rfl)
      refine wpAnyH_take (i := 4) (v := ?_) rfl (by kernel_rfl) (by kernel_rfl) (by kernel_rfl) (fun _ _ _ h => h) (Or.inl ⟨by rfl, ?_⟩) ⟨e1, e2⟩ ?_
      rotate_left
      · (intro w_ hS_; obtain ⟨q1, q2⟩ := hS_; go_simp; try with_reducible rfl)
      refine wpAnyH_take (i := 5) (v := ?_) rfl (by kernel_rfl) (by kernel_rfl) (by kernel_rfl) (fun _ _ _ h => h) (Or.inl ⟨by rfl, ?_⟩) ⟨e1, e2⟩ ?_
      rotate_left
      · (intro w_ hS_; obtain ⟨q1, q2⟩ := hS_; go_simp; try with_reducible rfl)
      refine wpAnyH_take (i := 6) (v := ?_) rfl (by kernel_rfl) (by kernel_rfl) (by kernel_rfl) (fun _ _ _ h => h) (Or.inl ⟨by rfl, ?_⟩) ⟨e1, e2⟩ ?_
      rotate_left
      · (intro w_ hS_; obtain ⟨q1, q2⟩ := hS_; go_simp; try with_reducible rfl)
      refine wpAnyH_take (i := 7) (v := ?_) rfl (by kernel_rfl) (by kernel_rfl) (by kernel_rfl) (fun _ _ _ h => h) (Or.inl ⟨by rfl, ?_⟩) ⟨e1, e2⟩ ?_
      rotate_left
      · (intro w_ hS_; obtain ⟨q1, q2⟩ := hS_; go_simp; try with_reducible rfl)
      refine wpAnyH_take (i := 8) (v := ?_) rfl (by kernel_rfl) (by kernel_rfl) (by kernel_rfl) (fun _ _ _ h => h) (Or.inl ⟨by rfl, ?_⟩) ⟨e1, e2⟩ ?_
      rotate_left
      · (intro w_ hS_; obtain ⟨q1, q2⟩ := hS_; go_simp; try with_reducible rfl)
      refine wpAnyH_take (i := 9) (v := ?_) rfl (by kernel_rfl) (by kernel_rfl) (by kernel_rfl) (fun _ _ _ h => h) (Or.inl ⟨by rfl, ?_⟩) ⟨e1, e2⟩ ?_
      rotate_left
      · (intro w_ hS_; obtain ⟨q1, q2⟩ := hS_; go_simp; try with_reducible rfl)
      refine wpAnyH_take (i := 10) (v := ?_) rfl (by kernel_rfl) (by kernel_rfl) (by kernel_rfl) (fun _ _ _ h => h) (Or.inl ⟨by rfl, ?_⟩) ⟨e1, e2⟩ ?_
      rotate_left
      · (intro w_ hS_; obtain ⟨q1, q2⟩ := hS_; go_simp; try with_reducible rfl)
      refine wpAnyH_take (i := 11) (v := ?_) rfl (by kernel_rfl) (by kernel_rfl) (by kernel_rfl) (fun _ _ _ h => h) (Or.inl ⟨by rfl, ?_⟩) ⟨e1, e2⟩ ?_
      rotate_left
      · (intro w_ hS_; obtain ⟨q1, q2⟩ := hS_; go_simp; try with_reducible rfl)
      refine wpAnyH_take (i := 12) (v := ?_) rfl (by kernel_rfl) (by kernel_rfl) (by kernel_rfl) (fun _ _ _ h => h) (Or.inl ⟨by rfl, ?_⟩) ⟨e1, e2⟩ ?_
      rotate_left
      · (intro w_ hS_; obtain ⟨q1, q2⟩ := hS_; go_simp; try with_reducible rfl)
      refine wpAnyH_ready (rs := [13]) (by kernel_rfl) (by simp) ?_
      refine AllReadyH.cons rfl (fun K_ hK_ => ?_) AllReadyH.nil
      go_simp
      rw [add5]
      refine (write_calls w.heap.size w.heap.size _ ([32] ++ x ++ [61, 34] ++ y ++ [34]) _ (Buf.drew HB.out) (by have := HLE.out; have := HSZ.out; have := shAttrs_take_le ps k; simp only [List.length_append, List.length_cons, List.length_nil]; omega) (HW.out.drew.size)).mono ?_
      rintro e w5 ⟨rfl, hb5, hw5⟩
      have HB5 : Hid (Buf w.heap.size w.heap.size ([60, 101, 115, 105, 58] ++ n ++ shAttrs (ps.take (k + 1))) w5) := by rw [Hid, HTK.out, ← List.append_assoc]; exact hb5
      have HW5 := Lib.hid (HW.out.drew.trans hw5)
      have g1 := (hw5.cell (p := ⟨b, off + j, none⟩) HBW.out).trans e1
      have g2 := (hw5.cell (p := ⟨b, off + (j + 1), none⟩) HBW.out).trans e2
      clear hb5 hw5
      refine hK_.out _ _ (by exact ⟨g1, g2⟩) fun _ => ?_
      clear hK_ K_ g1 g2
      refine wpAnyH_done (by kernel_rfl) ?_ _
      go_wp2_with fail
      go_roundw
      case rel => exact ⟨k + 1, j + 2, hlt, by go_num, by have := HJ.out; rw [Hid]; omega, HB5.out, HW5.out⟩
      case measure => simp [intOf]; omega
    · have hjN : ¬ (j : Int) + 1 < (N : Int) := by have := HJ.out; have := HFN.out; omega
      have hd : decide ((j : Int) + 1 < (N : Int)) = false := by simpa using hjN
      have hjb : j ≤ N := by have := HJ.out; have := HFN.out; omega
      have hjb2 : (j : Int) + 1 ≤ 9223372036854775807 := by have := HJ.out; have := HFN.out; omega
      have s5 : IntKind.i64.wrap ((j : Int) + 1) = (j : Int) + 1 := IntWalk.i64_in _ (by omega)
      have hkk : k = ps.length := by omega
      subst hkk
      rw [List.take_length] at HB
      have hTL : ([60, 101, 115, 105, 58] ++ n ++ shAttrs ps).length ≤ 100000010 := by have := HSZ.out; simp only [List.length_append, List.length_cons, List.length_nil]; omega
      have HT1 : alone = true → Hid (bs (shTag n alone inn ps) = bs (([60, 101, 115, 105, 58] ++ n ++ shAttrs ps) ++ [47, 62])) := by rintro rfl; rw [Hid, shTag, if_pos rfl]
      have HT2 : alone = false → Hid (bs (shTag n alone inn ps) = bs (([60, 101, 115, 105, 58] ++ n ++ shAttrs ps) ++ [62] ++ inn ++ [60, 47, 101, 115, 105, 58] ++ n ++ [62])) := by rintro rfl; rw [Hid, shTag, if_neg (by simp)]
      generalize ([60, 101, 115, 105, 58] ++ n ++ shAttrs ps) = T at *
      have hnl : n.length + inn.length ≤ 100000000 := by have := HSZ.out; omega
      have t0 : (bs T).size = T.length := size_bs _
      have t9 : (bs inn).size = inn.length := size_bs _
      cases alone with
      | true =>
        have HT := HT1 rfl
        have p1 : ¬ 9223372036854775807 < T.length + 2 := by omega
        clear HT1 HT2
        go_wp2_with fail
        refine (Tryz.Builder_String_any w.heap.size w.heap.size T wr HB.out HW.out.size).mono ?_
        rintro e w5 ⟨rfl, hw5⟩
        have HW5 := Lib.hid (HW.out.trans hw5)
        clear hw5
        rw [show (⟨T.toArray⟩ : ByteArray) = bs T from rfl]
        go_wp2_with fail
        go_ret
        refine ⟨?_, HW5.out⟩
        rw [HT.out, ← addA]
        rfl
      | false =>
        have HT := HT2 rfl
        have p1 : ¬ 9223372036854775807 < T.length + 1 := by omega
        have p2 : ¬ 9223372036854775807 < T.length + 1 + inn.length := by omega
        have p3 : ¬ 9223372036854775807 < T.length + 1 + inn.length + 6 := by omega
        have p4 : ¬ 9223372036854775807 < T.length + 1 + inn.length + 6 + n.length := by omega
        have p6 : ¬ 9223372036854775807 < T.length + 1 + inn.length + 6 + n.length + 1 := by omega
        clear HT1 HT2
        go_wp2_with fail
        refine (Tryz.Builder_String_any w.heap.size w.heap.size T wr HB.out HW.out.size).mono ?_
        rintro e w5 ⟨rfl, hw5⟩
        have HW5 := Lib.hid (HW.out.trans hw5)
        clear hw5
        rw [show (⟨T.toArray⟩ : ByteArray) = bs T from rfl]
        go_wp2_with fail
        go_ret
        refine ⟨?_, HW5.out⟩
        rw [HT.out, ← addB]
        rfl
end Go.Proofs.YtijpfcjlochahaaGreatDoor
