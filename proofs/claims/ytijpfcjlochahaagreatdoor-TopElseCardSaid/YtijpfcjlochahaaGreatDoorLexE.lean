/- The walk of lex.mark. -/
import Derived.Test.YtijpfcjlochahaaGreatDoorLexA
set_option linter.unusedVariables false
set_option linter.unusedSimpArgs false
namespace Go.Proofs.YtijpfcjlochahaaGreatDoor
open Go Go.RowKit
set_option linter.unusedVariables false
set_option linter.unusedSimpArgs false

theorem hits_min (l m : List UInt8) (n : Nat) (hn : n = min m.length l.length) : (l.take n == m.take n) = hits l m := by
  subst hn
  unfold hits
  rcases Nat.le_total m.length l.length with h | h
  · rw [Nat.min_eq_left h, List.take_of_length_le h, List.take_of_length_le (Nat.le_refl m.length)]
  · rw [Nat.min_eq_right h, List.take_of_length_le (Nat.le_refl l.length), List.take_of_length_le h]

/-- The mark of a number. -/
def markNo (b : Bool) (j : Nat) : List UInt8 := if j = 0 then openB else if j = 1 then closB else lastMark b
theorem markAt_none (b : Bool) (l : List UInt8) (h : ∀ j, j < 3 → hits l (markNo b j) = false) : markAt b l = none := by
  have h0 := h 0 (by omega)
  have h1 := h 1 (by omega)
  have h2 := h 2 (by omega)
  simp only [markNo, if_true, Nat.one_ne_zero, if_false, show (2 : Nat) ≠ 0 by omega, show (2 : Nat) ≠ 1 by omega] at h0 h1 h2
  simp [markAt, h0, h1, h2]
theorem markAt_some (b : Bool) (l : List UInt8) (j : Nat) (hj : j < 3) (h : ∀ i, i < j → hits l (markNo b i) = false) (hh : hits l (markNo b j) = true) : markAt b l = some (markNo b j) := by
  rcases (by omega : j = 0 ∨ j = 1 ∨ j = 2) with rfl | rfl | rfl
  · simp only [markNo, if_true] at hh ⊢
    simp [markAt, hh]
  · have h0 := h 0 (by omega)
    simp only [markNo, if_true, Nat.one_ne_zero, if_false] at h0 hh ⊢
    simp [markAt, h0, hh]
  · have h0 := h 0 (by omega)
    have h1 := h 1 (by omega)
    simp only [markNo, if_true, Nat.one_ne_zero, if_false, show (2 : Nat) ≠ 0 by omega, show (2 : Nat) ≠ 1 by omega] at h0 h1 hh ⊢
    simp [markAt, h0, h1, hh]
theorem markNo_len (b : Bool) (j : Nat) : (markNo b j).length ≤ 7 := by
  unfold markNo lastMark
  split
  · decide
  · split
    · decide
    · split <;> decide

theorem _root_.Go.RowKit.Below.drewN' {B : Nat} {a w : World} (h : Below B a w) (n : Nat) : Below B a (w.drewN n) := ⟨h.os, h.tape, h.output, h.size, h.block⟩

set_option maxRecDepth 20000 in
set_option maxHeartbeats 2000000 in
theorem mark_calls (s : ByteArray) (b : Bool) (w : World) (hs : s.size ≤ 10000000) :
    Calls Tryz.prog 39 #[.string s, .bool b] w fun e w' => e = .returned (.tuple #[.string (bs (markF b (L s)).1), .int .i64 (markF b (L s)).2]) ∧ Below w.heap.size w w' := by
  go_enter Tryz.func39, Tryz.ntmps39
  go_wp2_with fail
  go_loopw [6, 12] (fun _ i wr => ∃ k : Nat, k ≤ s.size ∧ i = .int .i64 k ∧ Below w.heap.size w wr ∧ Hid (markF b (L s) = ((markF b ((L s).drop k)).1, (markF b ((L s).drop k)).2 + k)))
     (fun _ i wr => s.size - (intOf i).toNat)
  case atStart => exact ⟨0, Nat.zero_le _, rfl, Below.refl _ _, rfl⟩
  case round =>
    obtain ⟨k, hk, rfl, hb, HF⟩ := hrel
    by_cases hlt : k < s.size
    · by_cases hc : s[k] = 60 ∨ s[k] = 45
      · have HC := Lib.hid hc
        have hor : ((s[k].toNat : Int) != 60 && (s[k].toNat : Int) != 45) = false := by
          rcases hc with h | h <;> rw [h] <;> rfl
        clear hc
        have hdr : ((L s).drop k).length = s.size - k := by rw [List.length_drop, ← size_L]
        have HD := Lib.hid hdr
        clear hdr
        have hgo : ∀ hxx : Bool, ((s[k].toNat : Int) != 60) = hxx → True := fun _ _ => trivial
        clear hgo
        have two : (((s[k].toNat : Int) != 60) = false) ∨ (((s[k].toNat : Int) != 60) = true ∧ ((s[k].toNat : Int) != 45) = false) := by
          rcases h : ((s[k].toNat : Int) != 60) with _ | _
          · exact .inl rfl
          · rw [h] at hor
            exact .inr ⟨rfl, by simpa using hor⟩
        clear hor
        rcases two with h60 | ⟨h60, h45⟩
        all_goals
          go_wp2_with (go_at_call 62; refine (marks_calls _ _).mono ?_; rintro e w' ⟨rfl, rfl⟩)
          have HM := Blk.new wr 9 #[.string (bs openB), .string (bs closB), .string (bs (lastMark b))]
          have hb2 := hb.alloc hb.size (.cells #[.string (bs openB), .string (bs closB), .string (bs (lastMark b))] 9)
          generalize wr.alloc (.cells #[.string (bs openB), .string (bs closB), .string (bs (lastMark b))] 9) = w2 at *
          generalize wr.heap.size = M at *
          have m0 := HM.cell 0
          have m1 := HM.cell 1
          have m2 := HM.cell 2
          clear HM
          go_loopw [8, 9, 28] (fun _ _ i w3 => ∃ j : Nat, j ≤ 3 ∧ i = .int .i64 j ∧ (∃ n, w3 = w2.drewN n) ∧ Hid (∀ i, i < j → hits ((L s).drop k) (markNo b i) = false))
             (fun _ _ i _ => 3 - (intOf i).toNat)
          case atStart => exact ⟨0, by omega, rfl, ⟨0, rfl⟩, fun i hi => absurd hi (by omega)⟩
          case round =>
            obtain ⟨j, hj, rfl, ⟨n, rfl⟩, HJ⟩ := hrel
            by_cases hj3 : j < 3
            · have hm : w2.cell? ⟨M, j, none⟩ = some (.string (bs (markNo b j))) := by
                rcases (by omega : j = 0 ∨ j = 1 ∨ j = 2) with rfl | rfl | rfl
                · exact m0
                · exact m1
                · exact m2
              have hml := markNo_len b j
              obtain ⟨mk, hmk⟩ : ∃ mk, mk = markNo b j := ⟨_, rfl⟩
              rw [← hmk] at hm hml
              have HMK := Lib.hid hmk
              clear hmk m0 m1 m2
              have hsz : (bs mk).size = mk.length := size_bs mk
              have hw0 : (0 : Int) ≤ (k : Int) := by omega
              rcases Nat.lt_or_ge (s.size - k) mk.length with hle | hle
              · have hn1 : ¬ (mk.length : Int) ≤ (s.size : Int) - (k : Int) := by omega
                have hw : IntKind.i64.wrap ((k : Int) + ((s.size : Int) - (k : Int))) = (s.size : Int) := by rw [IntWalk.i64_in _ (by omega)]; omega
                have hw1 : (0 : Int) ≤ (s.size : Int) - (k : Int) := by omega
                have hw2 : ((s.size : Int) - (k : Int)).toNat = s.size - k := by omega
                have hw3 : (k : Int) ≤ (s.size : Int) := by omega
                have hw4 : (s.size : Int) - (k : Int) ≤ (mk.length : Int) := by omega
                have hcmp : ((s.extract k s.size).toList == ((bs mk).extract 0 (s.size - k)).toList) = hits ((L s).drop k) mk := by
                  rw [toList_L, toList_L, L_extract, L_extract, L_bs, List.drop_zero, ← hits_min _ _ (s.size - k) (by rw [HD.out]; omega), ← HD.out, List.take_of_length_le (Nat.le_refl _), List.take_of_length_le (by rw [size_L]; exact Nat.le_refl _)]
                rcases hhit : hits ((L s).drop k) mk with _ | _
                · rw [hhit] at hcmp
                  have HH := Lib.hid hhit
                  clear hhit
                  go_wp2_with fail
                  go_quiet (fail)
                  go_wp2_with fail
                  go_roundw
                  case rel => exact ⟨j + 1, by omega, by go_num, ⟨_, rfl⟩, fun i hi => by
                      rcases (by omega : i < j ∨ i = j) with h | h
                      · exact HJ.out i h
                      · rw [h, ← HMK.out]; exact HH.out⟩
                  case measure => simp [intOf]; omega
                · rw [hhit] at hcmp
                  have HH := Lib.hid hhit
                  clear hhit
                  go_wp2_with fail
                  go_quiet (fail)
                  go_wp2_with fail
                  go_ret2
                  have e := HF.out
                  rw [drop_cons_L (by rw [← size_L]; exact hlt), markF, if_pos (by rw [← getElem_L s k hlt]; exact HC.out), ← drop_cons_L,
                    markAt_some b _ j hj3 HJ.out (by rw [← HMK.out]; exact HH.out)] at e
                  refine ⟨?_, (hb2.drewN' _).drewN' _⟩
                  rw [e, ← HMK.out]
                  simp
              · have hn1 : (mk.length : Int) ≤ (s.size : Int) - (k : Int) := by omega
                have hw : IntKind.i64.wrap ((k : Int) + (mk.length : Int)) = ((k + mk.length : Nat) : Int) := by rw [IntWalk.i64_in _ (by omega)]; omega
                have hw3 : (k : Int) ≤ ((k + mk.length : Nat) : Int) := by omega
                have hw4 : ((k + mk.length : Nat) : Int) ≤ (s.size : Int) := by omega
                have hcmp : ((s.extract k (k + mk.length)).toList == ((bs mk).extract 0 mk.length).toList) = hits ((L s).drop k) mk := by
                  rw [toList_L, toList_L, L_extract, L_extract, L_bs, List.drop_zero, ← hits_min _ _ mk.length (by rw [HD.out]; omega), List.drop_take]; simp only [Nat.add_sub_cancel_left]
                rcases hhit : hits ((L s).drop k) mk with _ | _
                · rw [hhit] at hcmp
                  have HH := Lib.hid hhit
                  clear hhit
                  go_wp2_with fail
                  go_quiet (fail)
                  go_wp2_with fail
                  go_roundw
                  case rel => exact ⟨j + 1, by omega, by go_num, ⟨_, rfl⟩, fun i hi => by
                      rcases (by omega : i < j ∨ i = j) with h | h
                      · exact HJ.out i h
                      · rw [h, ← HMK.out]; exact HH.out⟩
                  case measure => simp [intOf]; omega
                · rw [hhit] at hcmp
                  have HH := Lib.hid hhit
                  clear hhit
                  go_wp2_with fail
                  go_quiet (fail)
                  go_wp2_with fail
                  go_ret2
                  have e := HF.out
                  rw [drop_cons_L (by rw [← size_L]; exact hlt), markF, if_pos (by rw [← getElem_L s k hlt]; exact HC.out), ← drop_cons_L,
                    markAt_some b _ j hj3 HJ.out (by rw [← HMK.out]; exact HH.out)] at e
                  refine ⟨?_, (hb2.drewN' _).drewN' _⟩
                  rw [e, ← HMK.out]
                  simp
            · go_wp2_with fail
              refine ⟨⟨k + 1, by omega, by go_num, hb2.drewN' _, ?_⟩, by simp [intOf]; omega⟩
              have e := HF.out
              rw [drop_cons_L (by rw [← size_L]; exact hlt), markF, if_pos (by rw [← getElem_L s k hlt]; exact HC.out), ← drop_cons_L,
                markAt_none b _ (fun i hi => HJ.out i (by omega))] at e
              rw [Hid, e]
              simp only [Prod.mk.injEq, true_and]
              omega
      · have h1 : ((s[k].toNat : Int) != 60) = true := by rw [bne_iff_ne]; exact fun e => hc (.inl ((u8_eq _ _).2 e))
        have h2 : ((s[k].toNat : Int) != 45) = true := by rw [bne_iff_ne]; exact fun e => hc (.inr ((u8_eq _ _).2 e))
        have HC := Lib.hid hc
        clear hc
        go_wp2_with fail
        go_roundw
        case rel => exact ⟨k + 1, by omega, by go_num, hb, by
            have e := HF.out
            rw [drop_cons_L (by rw [← size_L]; exact hlt), markF, if_neg (by rw [← getElem_L s k hlt]; exact HC.out)] at e
            rw [Hid, e]
            simp only [Prod.mk.injEq, true_and]
            omega⟩
        case measure => simp [intOf]; omega
    · have hk2 : k = s.size := by omega
      have HK := Lib.hid hk2
      clear hk2
      go_wp2_with fail
      go_ret2
      refine ⟨?_, hb⟩
      have e := HF.out
      rw [List.drop_of_length_le (by rw [← size_L]; omega), markF] at e
      rw [e, ← HK.out]
      simp
      rfl
end Go.Proofs.YtijpfcjlochahaaGreatDoor
