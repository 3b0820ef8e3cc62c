/- The walk of vars.Sub at texts in which no variable begins; strings.Builder's copyCheck and WriteString after the kit's general proofs. -/
import Derived.Test.YtijpfcjlochahaaGreatDoorEvM
import Derived.Shelf.Strings.BuilderK
import Derived.Test.YtijpfcjlochahaaGreatDoorShelf
set_option linter.unusedVariables false
set_option linter.unusedSimpArgs false
namespace Go.Proofs.YtijpfcjlochahaaGreatDoor
open Go Go.RowKit
set_option linter.unusedVariables false
set_option linter.unusedSimpArgs false

theorem bufSize : (Tryz.prog.info? 170).map (·.size) = some 2 := by kernel_rfl
theorem bufLies : liesAt Tryz.prog Tryz.prog.depth 170 (2 / Tryz.prog.cellsOf 170) 0 170 1 = true := by kernel_rfl
set_option maxRecDepth 100000 in
set_option maxHeartbeats 2000000 in
theorem copyCheck_used (b : Nat) (w : World) (h0 : w.cell? ⟨b, 0, none⟩ = some (.pointer (some ⟨b, 0, none⟩))) :
    Calls Tryz.prog 165 #[.pointer (some ⟨b, 0, none⟩)] w fun e w' => e = .returned (.tuple #[]) ∧ w' = w := by
  obtain ⟨j, hj, _⟩ := Option.map_eq_some_iff.1 bufSize
  have hq : ∀ W : World, (binOp .neq 168 (.pointer (some ⟨b, 0, none⟩)) (.pointer (some ⟨b, 0, none⟩))).run Tryz.prog W = .ok (.bool false) W := fun W => Lib.run_neq_ptr_same W _ Tryz.underlying168 hj
  go_enter Tryz.func165, Tryz.ntmps165
  go_wp2_with fail
  all_goals
    go_end0
    exact ⟨rfl, rfl⟩
set_option maxRecDepth 100000 in
set_option maxHeartbeats 2000000 in
theorem copyCheck_fresh (b : Nat) (w : World) (h0 : w.cell? ⟨b, 0, none⟩ = some (.pointer none)) (hsh : w.shape? b = some (170, 2)) (hfz : w.frozen? ⟨b, 0, none⟩ = false) :
    Calls Tryz.prog 165 #[.pointer (some ⟨b, 0, none⟩)] w fun e w' => e = .returned (.tuple #[]) ∧ w' = w.setCell ⟨b, 0, none⟩ (.pointer (some ⟨b, 0, none⟩)) := by
  obtain ⟨j, hj, hjs⟩ := Option.map_eq_some_iff.1 bufSize
  have hc1 : (convert 168 214 (.pointer (some ⟨b, 0, none⟩))).run Tryz.prog w = .ok (.pointer (some ⟨b, 0, none⟩)) w := Lib.run_to_unsafe w ⟨b, 0, none⟩ Tryz.underlying168 Tryz.underlying214 hj (by rw [hjs]; decide) hsh (Nat.zero_lt_succ 1)
  have hc2 : (convert 214 168 (.pointer (some ⟨b, 0, none⟩))).run Tryz.prog w = .ok (.pointer (some ⟨b, 0, none⟩)) w := Lib.run_from_unsafe w ⟨b, 0, none⟩ Tryz.underlying214 Tryz.underlying168 hj hsh bufLies
  have hc3 : (callFunc 189 #[.pointer (some ⟨b, 0, none⟩)]).run Tryz.prog w = .ok (.value (.pointer (some ⟨b, 0, none⟩))) w := by
    rw [run_callFunc_extern Tryz.func189 (by kernel_rfl) (by kernel_rfl) (by kernel_rfl) (e := Extern.AbiNoEscape.same) (by kernel_rfl), Lib.run_noEscape]
    rfl
  go_enter Tryz.func165, Tryz.ntmps165
  go_wp2_with fail
  all_goals
    go_end0
    exact ⟨rfl, rfl⟩
/-- A builder of the call's own (at block b, one from B on) that holds the bytes l. -/
def Buf (B b : Nat) (l : List UInt8) (w : World) : Prop := Lib.IsBuilder 170 5 B b (Lib.byteCells l) w
theorem byteInfo : ∃ i, Tryz.prog.info? 5 = some i ∧ i.zero = some (.int .u8 0) ∧ i.size = 1 ∧ i.bytes = 1 := by
  obtain ⟨i0, hi, h0, h1, h2⟩ := info_parts (show (Tryz.prog.info? 5).map (fun i => (i.zero, i.size, i.bytes)) = some (some (.int .u8 0), 1, 1) by kernel_rfl)
  exact ⟨i0, hi, h0, h1, h2⟩
theorem copyCheck_calls (B b : Nat) (l : List UInt8) (w : World) (h : Buf B b l w) :
    Calls Tryz.prog 165 #[.pointer (some ⟨b, 0, none⟩)] w fun e w' => e = .returned (.tuple #[]) ∧ (Lib.BuilderAt 170 5 B b (.pointer (some ⟨b, 0, none⟩)) (Lib.byteCells l) w' ∧ Below B w w') := by
  rcases h with h | h
  · refine (copyCheck_fresh b w h.cell0 h.shape h.frozen0).mono ?_
    rintro e w' ⟨rfl, rfl⟩
    exact ⟨rfl, h.used _, (Below.refl B w).setCell (p := ⟨b, 0, none⟩) h.1 _⟩
  · refine (copyCheck_used b w h.cell0).mono ?_
    rintro e w' ⟨rfl, rfl⟩
    exact ⟨rfl, h, Below.refl B _⟩
set_option maxHeartbeats 2000000 in
set_option maxRecDepth 100000 in
theorem write_calls (B b : Nat) (l s : List UInt8) (w : World) (h : Buf B b l w) (hlen : l.length + s.length ≤ 140737488355328) (hBw : B ≤ w.heap.size) :
    Calls Tryz.prog 128 #[.pointer (some ⟨b, 0, none⟩), .string (bs s)] w fun e w' => e = .returned (.tuple #[.int .i64 s.length, .nilIface]) ∧ (Buf B b (l ++ s) w' ∧ Below B w w') := by
  obtain ⟨i0, hi, hz0, hz1, hz2⟩ := byteInfo
  have hss : (bs s).size = s.length := size_bs s
  have hcl : (Lib.byteCells l).length = l.length := Lib.byteCells_length l
  go_enter Tryz.func128, Tryz.ntmps128
  go_wp2_with fail
  refine (copyCheck_calls B b l w h).mono ?_
  rintro e w1 ⟨rfl, h1, hb1⟩
  obtain ⟨hB, v, hbk, hown, hne⟩ := h1
  have c0 : w1.cell? ⟨b, 0, none⟩ = some (.pointer (some ⟨b, 0, none⟩)) := by rw [Lib.cell_of_heap hbk]; rfl
  have c1 : w1.cell? ⟨b, 1, none⟩ = some v := by rw [Lib.cell_of_heap hbk]; rfl
  go_wp2_with (at_builtin; refine Lib.wpList_append_own_string _ rfl _ _ 162 9 rfl B 5 i0 Tryz.underlying162 Tryz.underlying9 hi hz0 hz1 hz2 _ _ _ rfl hown (bs s) rfl ?c3 ?c4 ?c5 ?_)
  case c3 => unfold maxLen; omega
  case c4 => omega
  case c5 => have := hb1.size; omega
  intro v' w2 hown' hgrow _
  have hlt : b < w1.heap.size := by
    rcases Nat.lt_or_ge b w1.heap.size with h' | h'
    · exact h'
    · simp [Array.getElem?_eq_none h'] at hbk
  have hb2 : w2.heap[b]? = some (.cells #[.pointer (some ⟨b, 0, none⟩), v] 170 (0, 0)) := by
    rw [hgrow.block b hlt (fun e => hne e.symm)]
    exact hbk
  have d0 : w2.cell? ⟨b, 0, none⟩ = some (.pointer (some ⟨b, 0, none⟩)) := by rw [Lib.cell_of_heap hb2]; rfl
  have d1 : w2.cell? ⟨b, 1, none⟩ = some v := by rw [Lib.cell_of_heap hb2]; rfl
  have f1 : w2.frozen? ⟨b, 1, none⟩ = false := Lib.frozen_of_heap hb2 1
  obtain ⟨ao, n', cap, rfl⟩ : ∃ ao n' cap, v' = .slice ao n' cap := by
    rcases hown'.2 with ⟨hv, _⟩ | ⟨g, cap, cur, hv, _⟩
    · exact ⟨_, _, _, hv⟩
    · exact ⟨_, _, _, hv⟩
  have HO := Lib.hid hown'
  have HBB := Lib.hid hb1
  have HG := Lib.hid hgrow
  have HOL := Lib.hid hown
  have HH2 := Lib.hid hb2
  clear hown' hb1 hgrow hown hb2 hbk
  go_wp2_with fail
  go_ret2
  refine ⟨?_, .inr ?_, ?_⟩
  · rfl
  · have e : Lib.byteCells (l ++ s) = Lib.byteCells l ++ Lib.strCells (bs s) := by
      rw [Lib.strCells_eq]
      show Lib.byteCells (l ++ s) = Lib.byteCells l ++ Lib.byteCells (bs s).data.toList
      have e2 : (bs s).data.toList = s := rfl
      rw [e2]
      simp [Lib.byteCells]
    rw [e]
    exact Lib.BuilderAt.put (T := 170) (e := 5) hB HH2.out (bs' := Lib.byteCells l ++ Lib.strCells (bs s)) (by rw [List.length_append, Lib.strCells_length, hcl, hss]; exact HO.out) (by decide)
  · exact (HBB.out.grown HG.out (by have := HBB.out.size; omega) (fun k hk => (HOL.out.lt k hk).1)).setCell (p := ⟨b, 1, none⟩) hB _
theorem Buf.new (w : World) : Buf w.heap.size w.heap.size [] (w.alloc (.cells #[.pointer none, .slice none 0 0] 170)) :=
  .inl ⟨Nat.le_refl _, .slice none 0 0, heap_alloc_new w _, World.ownsRow_nil _ _ _ _, fun e => by cases e⟩
theorem Buf.below {B b : Nat} {l : List UInt8} {w w' : World} (h : Buf B b l w) (hb : Below w.heap.size w w') : Buf B b l w' := by
  have key : ∀ p : Value, Lib.BuilderAt 170 5 B b p (Lib.byteCells l) w → Lib.BuilderAt 170 5 B b p (Lib.byteCells l) w' := by
    intro p h
    have hlt := h.lt
    obtain ⟨hB, v, hk, ho, hne⟩ := h
    exact ⟨hB, v, (hb.block b hlt).trans hk, ho.kept (grown_of_below hb none) (by cases v.ownBlock <;> simp), hne⟩
  rcases h with h | h
  · exact .inl (key _ h)
  · exact .inr (key _ h)
set_option maxRecDepth 20000 in
set_option maxHeartbeats 4000000 in
theorem sub_plain (v : EnvD) (s : List UInt8) (hs : s.length ≤ 100000) (hi : Lib.index s [36, 40] = -1) (w : World) (hg : Glob w) :
    Calls Tryz.prog 144 #[v.val, .string (bs s)] w fun e w' => e = .returned (.string (bs s)) ∧ Below w.heap.size w w' := by
  have hal : Below w.heap.size w (w.alloc (.cells #[.string (bs v.e0), .string (bs v.e1), .string (bs v.e2), .string (bs v.e3), .string (bs v.e4), .string (bs v.e5)] 23)) := (Below.refl _ _).alloc (Nat.le_refl _) _
  have hbuf := Buf.new (w.alloc (.cells #[.string (bs v.e0), .string (bs v.e1), .string (bs v.e2), .string (bs v.e3), .string (bs v.e4), .string (bs v.e5)] 23))
  have hb1 := hal.alloc hal.size (.cells #[.pointer none, .slice none 0 0] 170)
  have hg1 := hg.below hb1
  rw [size_alloc] at hbuf
  have HBUF := Lib.hid hbuf
  have HB := Lib.hid hb1
  have HG := Lib.hid hg1
  have hsz := size_bs s
  have HI := Lib.hid hi
  clear hal hbuf hb1 hg1 hg hi
  simp only [EnvD.val]
  go_enter Tryz.func144, Tryz.ntmps144
  go_wp2_with fail
  obtain ⟨w1, hw1⟩ : ∃ w1, w1 = (w.alloc (.cells #[.string (bs v.e0), .string (bs v.e1), .string (bs v.e2), .string (bs v.e3), .string (bs v.e4), .string (bs v.e5)] 23)).alloc (.cells #[.pointer none, .slice none 0 0] 170) := ⟨_, rfl⟩
  rw [← hw1] at HBUF HB HG ⊢
  clear hw1
  go_loopw [1] (fun sv wr => sv = .string (bs s) ∧ wr = w1) (fun _ _ => 0)
  case atStart => exact ⟨rfl, rfl⟩
  case round =>
    obtain ⟨rfl, hww⟩ := hrel
    have hww := hww.symm
    subst hww
    by_cases h0 : s = []
    · have e1 : (bs s).toList = [] := by rw [toList_bs]; exact h0
      have e2 : (bs s).toList.isEmpty = true := by rw [e1]; rfl
      have HBF : Hid (Buf (w.heap.size + 1) (w.heap.size + 1) s w1) := by rw [Hid, h0]; exact HBUF.out
      clear h0 HBUF
      go_wp2_with fail
      refine (Tryz.Builder_String_any (w.heap.size + 1) (w.heap.size + 1) s w1 HBF.out (by have := HB.out.size; have := (HBF.out); rcases this with h | h <;> exact Nat.le_of_lt h.lt)).mono ?_
      rintro e w5 ⟨rfl, hw5⟩
      have HW5 := Lib.hid (HB.out.trans (hw5.mono (by omega)))
      clear hw5
      go_wp2_with fail
      go_ret
      exact ⟨rfl, HW5.out⟩
    · have e1 : ¬ (bs s).toList = [] := by rw [toList_bs]; exact h0
      have e2 : (bs s).toList.isEmpty = false := by rw [toList_bs]; cases s with | nil => exact absurd rfl h0 | cons _ _ => rfl
      obtain ⟨m, hm⟩ := HG.out.1
      have HIC := Lib.hid (Tryz.strings_Index (bs s) ⟨#[36, 40]⟩ m w1 (by omega) hm)
      rw [bs_toL, show (⟨#[36, 40]⟩ : ByteArray).data.toList = [36, 40] from rfl, HI.out] at HIC
      have hex0 : (bs s).extract 0 s.length = bs s := by rw [take_bs, List.take_length]
      have hex1 : (bs s).extract s.length s.length = bs [] := by rw [extract_bs, List.take_length, List.drop_length]
      have hlt : w.heap.size + 1 ≤ w1.heap.size := by rcases HBUF.out with h | h <;> exact Nat.le_of_lt h.lt
      have HLT := Lib.hid hlt
      have n1 : (bs ([] : List UInt8)).toList = [] := by rw [toList_bs]
      have n2 : (bs ([] : List UInt8)).toList.isEmpty = true := by rw [n1]; rfl
      clear h0 hm hlt
      go_wp2_with fail
      refine HIC.out.mono ?_
      rintro e w2 ⟨rfl, hw2⟩
      have hw2 := hw2.symm
      subst hw2
      go_wp2_with fail
      refine (write_calls (w.heap.size + 1) (w.heap.size + 1) [] s w1 HBUF.out (by simp; omega) HLT.out).mono ?_
      rintro e w7 ⟨rfl, hb7, hw7⟩
      rw [List.nil_append] at hb7
      have HB7 := Lib.hid hb7
      have HW7 := Lib.hid (HB.out.trans (hw7.mono (by omega)))
      have HL7 : Hid (w.heap.size + 1 ≤ w7.heap.size) := Nat.le_trans HLT.out hw7.size
      clear hb7 hw7
      go_wp2_with fail
      refine (Tryz.Builder_String_any (w.heap.size + 1) (w.heap.size + 1) s w7 HB7.out HL7.out).mono ?_
      rintro e w8 ⟨rfl, hw8⟩
      have HW8 := Lib.hid (HW7.out.trans (hw8.mono (by omega)))
      clear hw8
      go_wp2_with fail
      go_ret
      exact ⟨rfl, HW8.out⟩
end Go.Proofs.YtijpfcjlochahaaGreatDoor
