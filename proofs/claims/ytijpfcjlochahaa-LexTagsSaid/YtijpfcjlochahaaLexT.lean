/- The walks of LexTags' closures. -/
import Derived.Test.YtijpfcjlochahaaLexM
import Derived.Test.YtijpfcjlochahaaLexS
import Derived.Deep.CutRange
namespace Go.Proofs.Ytijpfcjlochahaa
open Go Go.RowKit

theorem letter2_calls (c : UInt8) (w : World) : Calls Try.prog 13 #[.int .u8 c.toNat] w fun e w' => e = .returned (.bool (letterB c)) ∧ w = w' := by
  go_enter Try.func13, Try.ntmps13
  go_wp2
  all_goals
    go_ret
    refine ⟨ret_bool ?_, rfl⟩
    simp only [letterB, u8_beq, u8_le, UInt8.reduceToNat]
    first | rfl | (simp [*]; done) | (simp [*]; omega)
theorem plain3_calls (c : UInt8) (w : World) : Calls Try.prog 15 #[.int .u8 c.toNat] w fun e w' => e = .returned (.bool (plainB c)) ∧ w = w' := by
  go_enter Try.func15, Try.ntmps15
  go_wp2
  all_goals
    go_ret
    refine ⟨ret_bool ?_, rfl⟩
    simp only [plainB, u8_bne, UInt8.reduceToNat]
    first | rfl | (simp [*]; done)

/-- What 'clean' keeps. -/
def cleanF (p : UInt8 → Bool) (l : List UInt8) : List UInt8 := (l.take 30).filter p
theorem clean_succ (p : UInt8 → Bool) (l : List UInt8) (k : Nat) (h : k < l.length) : (l.take (k + 1)).filter p = (l.take k).filter p ++ if p l[k] then [l[k]] else [] := by
  rw [List.take_succ_eq_append_getElem h, List.filter_append]
  congr 1
  simp only [List.filter_cons, List.filter_nil]
theorem cleanF_mem {p : UInt8 → Bool} {l : List UInt8} : ∀ x ∈ cleanF p l, p x = true := fun _ hx => (List.mem_filter.1 hx).2
theorem cleanF_len (p : UInt8 → Bool) (l : List UInt8) : (cleanF p l).length ≤ 30 := by
  have h1 := List.length_filter_le p (l.take 30)
  have h2 := List.length_take_le 30 l
  show ((l.take 30).filter p).length ≤ 30
  omega

set_option maxRecDepth 20000 in
set_option maxHeartbeats 1000000 in
theorem clean_letter (s : ByteArray) (w : World) : Calls Try.prog 12 #[.string s, .func (.func 13) #[] #[]] w fun e w' => e = .returned (.string (bs (cleanF letterB (L s)))) ∧ w = w' := by
  obtain ⟨m, hm⟩ : ∃ m, m = min s.size 30 := ⟨_, rfl⟩
  have hm1 : m ≤ 30 := by omega
  have hm2 : m ≤ s.size := by omega
  have HM := Lib.hid hm
  clear hm
  go_enter Try.func12, Try.ntmps12
  go_upto_region 2 with (fail)
  go_cut [9, 10] from 7 to 10 (fun n i wx => n = .int .i64 m ∧ i = .int .i64 0 ∧ wx = w)
  case first =>
    go_wp2_with fail
    all_goals
      go_meet
      case rel =>
        refine ⟨congrArg (Value.int .i64) ?_, rfl, rfl⟩
        have := HM.out
        omega
  case rest =>
    obtain ⟨rfl, rfl, hww⟩ := hcut
    have hww := hww.symm
    subst hww
    go_wp2_with fail
    go_loop [5, 6, 10] (fun out _ i => ∃ k : Nat, k ≤ m ∧ i = .int .i64 k ∧ out = .string (bs (((L s).take k).filter letterB))) (fun _ _ i => m - (intOf i).toNat)
    case atStart => exact ⟨0, Nat.zero_le _, rfl, rfl⟩
    case round =>
      obtain ⟨k, hk, rfl, rfl⟩ := hrel
      by_cases hlt : k < m
      · have hks : k < s.size := by omega
        have hkl : k < (L s).length := by rw [← size_L]; exact hks
        have HS := Lib.hid (clean_succ letterB (L s) k hkl)
        have hcz : Hid ((L s)[k]'hkl = s[k]) := (getElem_L s k hks).symm
        have hi1 : (0 : Int) ≤ (k : Int) := by omega
        have hi2 : (k : Int) < (s.size : Int) := by omega
        have hcl : (((L s).take k).filter letterB).length ≤ 30 := by
          have h1 := List.length_filter_le letterB ((L s).take k)
          have h2 := List.length_take_le k (L s)
          omega
        have hsz : (bs (((L s).take k).filter letterB)).size + (s.extract k (k + 1)).size ≤ 1000 := by
          rw [size_bs, ByteArray.size_extract]; omega
        cases hp : letterB s[k] with
        | true =>
          have HP := Lib.hid hp
          go_wp2_with (refine (letter2_calls s[k] _).mono ?_; rintro e w' ⟨rfl, rfl⟩; rw [hp])
          go_round
          case rel =>
            refine ⟨k + 1, by omega, by go_num, congrArg Value.string ?_⟩
            rw [HS.out, hcz.out, HP.out, if_pos rfl, ← bs_append]
            congr 1
            apply L_ext
            rw [L_extract, L_bs, List.take_succ_eq_append_getElem hkl, List.drop_left' (by rw [List.length_take]; omega), hcz.out]
          case measure => simp [intOf]; omega
        | false =>
          have HP := Lib.hid hp
          go_wp2_with (refine (letter2_calls s[k] _).mono ?_; rintro e w' ⟨rfl, rfl⟩; rw [hp])
          go_round
          case rel =>
            refine ⟨k + 1, by omega, by go_num, ?_⟩
            rw [HS.out, hcz.out, HP.out, if_neg (by simp), List.append_nil]
          case measure => simp [intOf]; omega
      · have hkm : k = m := by omega
        have HK := Lib.hid hkm
        clear hkm
        go_wp2_with fail
        go_ret
        refine ⟨ret_eq (congrArg Value.string (congrArg bs ?_)), rfl⟩
        show ((L s).take k).filter letterB = ((L s).take 30).filter letterB
        have h1 := HM.out
        have h2 := HK.out
        have e : (L s).take k = (L s).take 30 := by
          rcases Nat.lt_or_ge s.size 30 with h | h
          · rw [List.take_of_length_le (by rw [← size_L]; omega), List.take_of_length_le (by rw [← size_L]; omega)]
          · rw [show k = 30 by omega]
        rw [e]

set_option maxRecDepth 20000 in
set_option maxHeartbeats 1000000 in
theorem clean_plain (s : ByteArray) (w : World) : Calls Try.prog 12 #[.string s, .func (.func 15) #[] #[]] w fun e w' => e = .returned (.string (bs (cleanF plainB (L s)))) ∧ w = w' := by
  obtain ⟨m, hm⟩ : ∃ m, m = min s.size 30 := ⟨_, rfl⟩
  have hm1 : m ≤ 30 := by omega
  have hm2 : m ≤ s.size := by omega
  have HM := Lib.hid hm
  clear hm
  go_enter Try.func12, Try.ntmps12
  go_upto_region 2 with (fail)
  go_cut [9, 10] from 7 to 10 (fun n i wx => n = .int .i64 m ∧ i = .int .i64 0 ∧ wx = w)
  case first =>
    go_wp2_with fail
    all_goals
      go_meet
      case rel =>
        refine ⟨congrArg (Value.int .i64) ?_, rfl, rfl⟩
        have := HM.out
        omega
  case rest =>
    obtain ⟨rfl, rfl, hww⟩ := hcut
    have hww := hww.symm
    subst hww
    go_wp2_with fail
    go_loop [5, 6, 10] (fun out _ i => ∃ k : Nat, k ≤ m ∧ i = .int .i64 k ∧ out = .string (bs (((L s).take k).filter plainB))) (fun _ _ i => m - (intOf i).toNat)
    case atStart => exact ⟨0, Nat.zero_le _, rfl, rfl⟩
    case round =>
      obtain ⟨k, hk, rfl, rfl⟩ := hrel
      by_cases hlt : k < m
      · have hks : k < s.size := by omega
        have hkl : k < (L s).length := by rw [← size_L]; exact hks
        have HS := Lib.hid (clean_succ plainB (L s) k hkl)
        have hcz : Hid ((L s)[k]'hkl = s[k]) := (getElem_L s k hks).symm
        have hi1 : (0 : Int) ≤ (k : Int) := by omega
        have hi2 : (k : Int) < (s.size : Int) := by omega
        have hcl : (((L s).take k).filter plainB).length ≤ 30 := by
          have h1 := List.length_filter_le plainB ((L s).take k)
          have h2 := List.length_take_le k (L s)
          omega
        have hsz : (bs (((L s).take k).filter plainB)).size + (s.extract k (k + 1)).size ≤ 1000 := by
          rw [size_bs, ByteArray.size_extract]; omega
        cases hp : plainB s[k] with
        | true =>
          have HP := Lib.hid hp
          go_wp2_with (refine (plain3_calls s[k] _).mono ?_; rintro e w' ⟨rfl, rfl⟩; rw [hp])
          go_round
          case rel =>
            refine ⟨k + 1, by omega, by go_num, congrArg Value.string ?_⟩
            rw [HS.out, hcz.out, HP.out, if_pos rfl, ← bs_append]
            congr 1
            apply L_ext
            rw [L_extract, L_bs, List.take_succ_eq_append_getElem hkl, List.drop_left' (by rw [List.length_take]; omega), hcz.out]
          case measure => simp [intOf]; omega
        | false =>
          have HP := Lib.hid hp
          go_wp2_with (refine (plain3_calls s[k] _).mono ?_; rintro e w' ⟨rfl, rfl⟩; rw [hp])
          go_round
          case rel =>
            refine ⟨k + 1, by omega, by go_num, ?_⟩
            rw [HS.out, hcz.out, HP.out, if_neg (by simp), List.append_nil]
          case measure => simp [intOf]; omega
      · have hkm : k = m := by omega
        have HK := Lib.hid hkm
        clear hkm
        go_wp2_with fail
        go_ret
        refine ⟨ret_eq (congrArg Value.string (congrArg bs ?_)), rfl⟩
        show ((L s).take k).filter plainB = ((L s).take 30).filter plainB
        have h1 := HM.out
        have h2 := HK.out
        have e : (L s).take k = (L s).take 30 := by
          rcases Nat.lt_or_ge s.size 30 with h | h
          · rw [List.take_of_length_le (by rw [← size_L]; omega), List.take_of_length_le (by rw [← size_L]; omega)]
          · rw [show k = 30 by omega]
        rw [e]
end Go.Proofs.Ytijpfcjlochahaa
