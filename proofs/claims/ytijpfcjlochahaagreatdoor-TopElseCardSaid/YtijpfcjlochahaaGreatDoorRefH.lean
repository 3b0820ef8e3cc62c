/- The walks of the reference's uri: find, last, begins, Bytes, host. The walks of the reference's numbers and of Lower: value, Read (decimal), Digits (decimal), Lower. The walks of the reference's Digits (decimal), Write and Right. -/
import Derived.Test.YtijpfcjlochahaaGreatDoorUriW
import Derived.BigQuiet
import Derived.BigRegion
set_option linter.unusedVariables false
set_option linter.unusedSimpArgs false
namespace Go.Proofs.YtijpfcjlochahaaGreatDoor
open Go Go.RowKit
set_option linter.unusedVariables false
set_option linter.unusedSimpArgs false

theorem ixb_append (c : UInt8) : ∀ a b : List UInt8, Lib.indexByte (a ++ b) c = if Lib.indexByte a c = -1 then (if Lib.indexByte b c = -1 then -1 else (a.length : Int) + Lib.indexByte b c) else Lib.indexByte a c
  | [], b => by
    simp only [List.nil_append, Lib.indexByte, if_true, List.length_nil]
    split <;> omega
  | x :: a, b => by
    have ih := ixb_append c a b
    have ga := Lib.indexByte_ge a c
    have gb := Lib.indexByte_ge b c
    rw [List.cons_append, Lib.indexByte, Lib.indexByte, ih]
    by_cases hx : (x == c) = true
    · simp [hx]
    · rw [if_neg hx, if_neg hx]
      by_cases h1 : Lib.indexByte a c = -1
      · by_cases h2 : Lib.indexByte b c = -1
        · simp [h1, h2]
        · have h3 : ¬ ((a.length : Int) + Lib.indexByte b c = -1) := by omega
          simp [h1, h2, h3]
          omega
      · have h3 : ¬ (Lib.indexByte a c + 1 = -1) := by omega
        simp [h1, h3]
theorem ixb_one (x c : UInt8) : Lib.indexByte [x] c = if x = c then 0 else -1 := by
  by_cases h : x = c
  · simp [Lib.indexByte, h]
  · simp [Lib.indexByte, h]
theorem rfind_at {c : UInt8} {l : List UInt8} {i : Nat} (hi : i < l.length) (h0 : Lib.indexByte (l.take i) c = -1) (h : l[i] = c) : Lib.indexByte l c = i := by
  have e : l = l.take i ++ (l[i] :: l.drop (i + 1)) := by rw [← List.drop_eq_getElem_cons hi, List.take_append_drop]
  have h1 : Lib.indexByte (l[i] :: l.drop (i + 1)) c = 0 := by rw [Lib.indexByte, h]; simp
  rw [e, ixb_append, if_pos h0, h1, if_neg (by omega), List.length_take]; omega
theorem rfind_not {c : UInt8} {l : List UInt8} {i : Nat} (hi : i < l.length) (h0 : Lib.indexByte (l.take i) c = -1) (h : l[i] ≠ c) : Lib.indexByte (l.take (i + 1)) c = -1 := by
  rw [List.take_succ_eq_append_getElem hi, ixb_append, if_pos h0, ixb_one, if_neg h]; rfl
theorem last_step {c : UInt8} {l : List UInt8} {i : Nat} (hi : i < l.length) : lastF c (l.take (i + 1)) = if l[i] = c then i + 1 else lastF c (l.take i) := by
  rw [List.take_succ_eq_append_getElem hi, lastF_append, List.length_take]
  have h1 : lastF c [l[i]] = if l[i] = c then 1 else 0 := by simp [lastF]
  rw [h1]
  by_cases h : l[i] = c
  · rw [if_pos h, if_neg (by omega), if_pos h]; omega
  · rw [if_neg h, if_pos rfl, if_neg h]
set_option maxRecDepth 20000 in
set_option maxHeartbeats 1000000 in
theorem rfind_calls (s : ByteArray) (c : UInt8) (w : World) (hs : s.size ≤ 1000000) :
    Calls Tryz.prog 76 #[.string s, .int .u8 c.toNat] w fun e w' => e = .returned (.int .i64 (Lib.indexByte (L s) c)) ∧ w = w' := by
  have hsl := size_L s
  go_enter Tryz.func76, Tryz.ntmps76
  go_wp2_with fail
  go_loopw [5] (fun i wr => ∃ k : Nat, k ≤ s.size ∧ i = .int .i64 k ∧ Hid (Lib.indexByte ((L s).take k) c = -1) ∧ Hid (wr = w))
     (fun i wr => s.size - (intOf i).toNat)
  case atStart => exact ⟨0, Nat.zero_le _, rfl, rfl, rfl⟩
  case round =>
    obtain ⟨k, hk, rfl, HO, HW⟩ := hrel
    obtain rfl := HW.out
    clear HW
    by_cases hlt : k < s.size
    · have h1 : (k : Int) < (s.size : Int) := by omega
      have h0 : (0 : Int) ≤ (k : Int) := by omega
      have hjl : k < (L s).length := by omega
      by_cases hc : s[k] = c
      · have hb : ((s[k].toNat : Int) == (c.toNat : Int)) = true := by rw [hc]; simp
        have HR : Hid (Lib.indexByte (L s) c = k) := rfind_at hjl HO.out (by rw [← getElem_L s k hlt]; exact hc)
        clear hc
        go_wp2_with fail
        go_ret
        refine ⟨?_, rfl⟩
        rw [HR.out]
        rfl
      · have hb : ((s[k].toNat : Int) == (c.toNat : Int)) = false := by rw [beq_eq_false_iff_ne]; exact fun e => hc ((u8_eq _ _).2 e)
        have HR : Hid (Lib.indexByte ((L s).take (k + 1)) c = -1) := rfind_not hjl HO.out (by rw [← getElem_L s k hlt]; exact hc)
        clear hc
        go_wp2_with fail
        go_roundw
        case rel => exact ⟨k + 1, by omega, by go_num, HR.out, (by first | exact trivial | exact rfl)⟩
        case measure => simp [intOf] <;> omega
    · have h1 : ¬ (k : Int) < (s.size : Int) := by omega
      have HR : Hid (Lib.indexByte (L s) c = -1) := by have := HO.out; rwa [List.take_of_length_le (by omega)] at this
      go_wp2_with fail
      go_ret
      refine ⟨?_, rfl⟩
      rw [HR.out]
      rfl
set_option maxRecDepth 20000 in
set_option maxHeartbeats 1000000 in
theorem rlast_calls (s : ByteArray) (c : UInt8) (w : World) (hs : s.size ≤ 1000000) :
    Calls Tryz.prog 122 #[.string s, .int .u8 c.toNat] w fun e w' => e = .returned (.int .i64 ((lastF c (L s) : Int) - 1)) ∧ w = w' := by
  have hsl := size_L s
  go_enter Tryz.func122, Tryz.ntmps122
  go_wp2_with fail
  go_loopw [5, 6] (fun z i wr => ∃ (k : Nat) (y : Int), k ≤ s.size ∧ i = .int .i64 k ∧ z = .int .i64 y ∧ Hid (y = (lastF c ((L s).take k) : Int) - 1) ∧ Hid (wr = w))
     (fun z i wr => s.size - (intOf i).toNat)
  case atStart => exact ⟨0, -1, Nat.zero_le _, rfl, rfl, rfl, rfl⟩
  case round =>
    obtain ⟨k, y, hk, rfl, rfl, HO, HW⟩ := hrel
    obtain rfl := HW.out
    clear HW
    by_cases hlt : k < s.size
    · have h1 : (k : Int) < (s.size : Int) := by omega
      have h0 : (0 : Int) ≤ (k : Int) := by omega
      have hjl : k < (L s).length := by omega
      by_cases hc : s[k] = c
      · have hb : ((s[k].toNat : Int) == (c.toNat : Int)) = true := by rw [hc]; simp
        have HR : Hid ((k : Int) = (lastF c ((L s).take (k + 1)) : Int) - 1) := by rw [Hid, last_step hjl, if_pos (by rw [← getElem_L s k hlt]; exact hc)]; omega
        clear hc
        go_wp2_with fail
        go_roundw
        case rel => exact ⟨k + 1, k, by omega, by go_num, rfl, HR.out, (by first | exact trivial | exact rfl)⟩
        case measure => simp [intOf] <;> omega
      · have hb : ((s[k].toNat : Int) == (c.toNat : Int)) = false := by rw [beq_eq_false_iff_ne]; exact fun e => hc ((u8_eq _ _).2 e)
        have HR : Hid (y = (lastF c ((L s).take (k + 1)) : Int) - 1) := by rw [Hid, last_step hjl, if_neg (by rw [← getElem_L s k hlt]; exact hc)]; exact HO.out
        clear hc
        go_wp2_with fail
        go_roundw
        case rel => exact ⟨k + 1, y, by omega, by go_num, rfl, HR.out, (by first | exact trivial | exact rfl)⟩
        case measure => simp [intOf] <;> omega
    · have h1 : ¬ (k : Int) < (s.size : Int) := by omega
      have HR : Hid (y = (lastF c (L s) : Int) - 1) := by have := HO.out; rwa [List.take_of_length_le (by omega)] at this
      go_wp2_with fail
      go_ret
      refine ⟨?_, rfl⟩
      rw [HR.out]
      rfl
theorem hasP_bytes (s t : ByteArray) : Lib.hasPrefix (L s) (L t) = (decide (t.size ≤ s.size) && ((s.extract 0 t.size).toList == t.toList)) := by
  rw [toList_L, toList_L, L_extract, List.drop_zero, size_L s, size_L t, Bool.eq_iff_iff]
  simp only [Lib.hasPrefix, List.isPrefixOf_iff_prefix, Bool.and_eq_true, decide_eq_true_eq, beq_iff_eq]
  constructor
  · rintro ⟨r, h⟩
    rw [← h]
    simp
  · rintro ⟨h1, h2⟩
    exact ⟨(L s).drop (L t).length, by rw [← h2, List.length_take, Nat.min_eq_left (by omega)]; exact List.take_append_drop _ _⟩
set_option maxRecDepth 20000 in
set_option maxHeartbeats 1000000 in
theorem rbegins_calls (s t : ByteArray) (w : World) : Calls Tryz.prog 73 #[.string s, .string t] w fun e w' => e = .returned (.bool (Lib.hasPrefix (L s) (L t))) ∧ w = w' := by
  rw [hasP_bytes]
  by_cases h : t.size ≤ s.size
  · have hd : decide ((t.size : Int) ≤ (s.size : Int)) = true := by simpa using h
    have hd2 : (t.size : Int) ≤ (s.size : Int) := by omega
    rw [decide_eq_true h, Bool.true_and]
    cases hq : ((s.extract 0 t.size).toList == t.toList) with
    | true =>
      go_enter Tryz.func73, Tryz.ntmps73
      go_wp2_with fail
      go_ret
      exact ⟨rfl, rfl⟩
    | false =>
      go_enter Tryz.func73, Tryz.ntmps73
      go_wp2_with fail
      go_ret
      exact ⟨rfl, rfl⟩
  · have hd : decide ((t.size : Int) ≤ (s.size : Int)) = false := by simpa using h
    have hd2 : ¬ (t.size : Int) ≤ (s.size : Int) := by omega
    rw [decide_eq_false h, Bool.false_and]
    go_enter Tryz.func73, Tryz.ntmps73
    go_wp2_with fail
    go_ret
    exact ⟨rfl, rfl⟩
/-- The marks that no address may hold, in the reference's words. -/
def nineB : List UInt8 := [34, 35, 60, 62, 92, 94, 123, 124, 125]
theorem badB_ref (c : UInt8) : badB c = (decide (c.toNat < 33) || (decide (126 < c.toNat) || (decide (c.toNat = 96) || decide (0 ≤ Lib.indexByte nineB c)))) := by
  have e : ([34, 35, 60, 62, 92, 94, 123, 124, 125, 96] : List UInt8) = nineB ++ [96] := rfl
  have ge := Lib.indexByte_ge nineB c
  have h96 : (96 : UInt8) = c ↔ c.toNat = 96 := by
    constructor
    · rintro rfl; rfl
    · intro h; exact UInt8.toNat_inj.mp (by rw [h]; rfl)
  have hi : (0 ≤ Lib.indexByte (nineB ++ [96]) c) ↔ (c.toNat = 96 ∨ 0 ≤ Lib.indexByte nineB c) := by
    rw [ixb_append, ixb_one]
    by_cases h1 : Lib.indexByte nineB c = -1
    · rw [if_pos h1, h1]
      by_cases h2 : (96 : UInt8) = c
      · rw [if_pos h2, if_neg (by omega)]
        simp [h96.1 h2, nineB]
      · rw [if_neg h2, if_pos rfl]
        constructor
        · intro h; omega
        · rintro (h | h)
          · exact absurd (h96.2 h) h2
          · omega
    · rw [if_neg h1]
      exact ⟨fun h => .inr h, fun _ => by omega⟩
  unfold badB
  rw [e, Bool.eq_iff_iff]
  simp only [Bool.or_eq_true, decide_eq_true_eq, hi]
  omega
/-- What holds of a byte of the reference's 'Bytes' while it looks. -/
theorem any_step {p : UInt8 → Bool} {l : List UInt8} {k : Nat} (hk : k < l.length) (h : (l.take k).any p = false) (h2 : p l[k] = false) : (l.take (k + 1)).any p = false := by
  rw [List.take_succ_eq_append_getElem hk, List.any_append, h]; simp [h2]
theorem any_hit {p : UInt8 → Bool} {l : List UInt8} {k : Nat} (hk : k < l.length) (h2 : p l[k] = true) : l.any p = true := List.any_eq_true.2 ⟨_, List.getElem_mem hk, h2⟩
set_option maxRecDepth 20000 in
set_option maxHeartbeats 2000000 in
theorem rbytes_calls (s : ByteArray) (w : World) (hs : s.size ≤ 1000000) :
    Calls Tryz.prog 124 #[.string s] w fun e w' => e = .returned (.bool (!(L s).any badB)) ∧ w = w' := by
  have hsl := size_L s
  go_enter Tryz.func124, Tryz.ntmps124
  go_wp2_with fail
  go_loopw [3, 4] (fun i _ wr => ∃ k : Nat, k ≤ s.size ∧ i = .int .i64 k ∧ Hid (((L s).take k).any badB = false) ∧ Hid (wr = w))
     (fun i _ wr => s.size - (intOf i).toNat)
  case atStart => exact ⟨0, Nat.zero_le _, rfl, rfl, rfl⟩
  case round =>
    obtain ⟨k, hk, rfl, HO, HW⟩ := hrel
    obtain rfl := HW.out
    clear HW
    by_cases hlt : k < s.size
    · have h1 : (k : Int) < (s.size : Int) := by omega
      have h0 : (0 : Int) ≤ (k : Int) := by omega
      have hjl : k < (L s).length := by omega
      have HB := Lib.hid (badB_ref s[k])
      have HT : ∀ h : badB s[k] = true, (L s).any badB = true := fun h => any_hit hjl (by rw [← getElem_L s k hlt]; exact h)
      have HF : ∀ h : badB s[k] = false, ((L s).take (k + 1)).any badB = false := fun h => any_step hjl HO.out (by rw [← getElem_L s k hlt]; exact h)
      have HT := Lib.hid HT
      have HF := Lib.hid HF
      have HC := Lib.hid (rfind_calls ⟨#[34, 35, 60, 62, 92, 94, 123, 124, 125]⟩ s[k] wr (by decide))
      rw [show L (⟨#[34, 35, 60, 62, 92, 94, 123, 124, 125]⟩ : ByteArray) = nineB from rfl] at HC
      generalize Lib.indexByte nineB s[k] = z at *
      by_cases g1 : s[k].toNat < 33
      · have g1i : (s[k].toNat : Int) < 33 := by omega
        have HX : Hid ((L s).any badB = true) := HT.out (by rw [HB.out, decide_eq_true g1]; rfl)
        clear g1
        go_wp2_with fail
        go_ret
        exact ⟨ret_bool (by rw [HX.out]; rfl), rfl⟩
      · have g1i : ¬ (s[k].toNat : Int) < 33 := by omega
        by_cases g2 : 126 < s[k].toNat
        · have g2i : (126 : Int) < (s[k].toNat : Int) := by omega
          have HX : Hid ((L s).any badB = true) := HT.out (by rw [HB.out, decide_eq_true g2]; simp)
          clear g1 g2
          go_wp2_with fail
          go_ret
          exact ⟨ret_bool (by rw [HX.out]; rfl), rfl⟩
        · have g2i : ¬ (126 : Int) < (s[k].toNat : Int) := by omega
          have HX96 : Hid (s[k].toNat = 96 → (L s).any badB = true) := fun g3 => HT.out (by rw [HB.out, decide_eq_true g3]; simp)
          have HXn : Hid (¬ s[k].toNat = 96 → ¬ 0 ≤ z → ((L s).take (k + 1)).any badB = false) := fun g3 g4 => HF.out (by rw [HB.out, decide_eq_false g1, decide_eq_false g2, decide_eq_false g3, decide_eq_false g4]; rfl)
          have HXz : Hid (0 ≤ z → (L s).any badB = true) := fun g4 => HT.out (by rw [HB.out, decide_eq_true g4]; simp)
          clear g1 g2
          go_wp2_with fail
          · go_ret
            exact ⟨ret_bool (by rw [HX96.out (by omega)]; rfl), rfl⟩
          · have g3 : ¬ s[k].toNat = 96 := by omega
            refine HC.out.mono ?_
            rintro e w2 ⟨rfl, rfl⟩
            by_cases g4 : 0 ≤ z
            · have HX := Lib.hid (HXz.out g4)
              go_wp2_with fail
              go_ret
              exact ⟨ret_bool (by rw [HX.out]; rfl), rfl⟩
            · have HX := Lib.hid (HXn.out g3 (by omega))
              clear g3
              go_wp2_with fail
              · exfalso
                rename_i hx
                rcases hx with ((hx | hx) | hx) | hx
                · omega
                · omega
                · rw [beq_iff_eq] at hx; omega
                · omega
              go_roundw
              case rel => exact ⟨k + 1, by omega, by go_num, HX.out, (by first | exact trivial | exact rfl)⟩
              case measure => simp [intOf] <;> omega
    · have h1 : ¬ (k : Int) < (s.size : Int) := by omega
      have HR : Hid ((L s).any badB = false) := by have := HO.out; rwa [List.take_of_length_le (by omega)] at this
      go_wp2_with fail
      go_ret
      exact ⟨ret_bool (by rw [HR.out]; rfl), rfl⟩
/-- The bytes that a host may hold, in the reference's words. -/
def hostL : List UInt8 := [97, 98, 99, 100, 101, 102, 103, 104, 105, 106, 107, 108, 109, 110, 111, 112, 113, 114, 115, 116, 117, 118, 119, 120, 121, 122, 48, 49, 50, 51, 52, 53, 54, 55, 56, 57, 45, 46]
theorem hostB_ref (c : UInt8) : hostB c = decide (Lib.indexByte hostL c < 0) := by
  have h : ∀ n : Fin 256, hostB (UInt8.ofNat n.val) = decide (Lib.indexByte hostL (UInt8.ofNat n.val) < 0) := by decide +kernel
  have := h ⟨c.toNat, c.toNat_lt⟩
  simpa using this
set_option maxRecDepth 20000 in
set_option maxHeartbeats 2000000 in
theorem rhost_calls (s : ByteArray) (w : World) (hs : s.size ≤ 1000000) :
    Calls Tryz.prog 126 #[.string s] w fun e w' => e = .returned (.bool (hostF (L s))) ∧ w = w' := by
  have hsl := size_L s
  have HH : Hid (hostF (L s) = (decide (1 ≤ (L s).length) && decide ((L s).length ≤ 100) && !(L s).any hostB)) := rfl
  go_enter Tryz.func126, Tryz.ntmps126
  go_wp2_with fail
  go_loopw [3] (fun i wr => ∃ k : Nat, k ≤ s.size ∧ i = .int .i64 k ∧ Hid (((L s).take k).any hostB = false) ∧ Hid (wr = w))
     (fun i wr => s.size - (intOf i).toNat)
  case atStart => exact ⟨0, Nat.zero_le _, rfl, rfl, rfl⟩
  case round =>
    obtain ⟨k, hk, rfl, HO, HW⟩ := hrel
    obtain rfl := HW.out
    clear HW
    by_cases hlt : k < s.size
    · have h1 : (k : Int) < (s.size : Int) := by omega
      have h0 : (0 : Int) ≤ (k : Int) := by omega
      have hjl : k < (L s).length := by omega
      have HB := Lib.hid (hostB_ref s[k])
      have HT : ∀ h : hostB s[k] = true, (L s).any hostB = true := fun h => any_hit hjl (by rw [← getElem_L s k hlt]; exact h)
      have HF : ∀ h : hostB s[k] = false, ((L s).take (k + 1)).any hostB = false := fun h => any_step hjl HO.out (by rw [← getElem_L s k hlt]; exact h)
      have HT := Lib.hid HT
      have HF := Lib.hid HF
      have HC := Lib.hid (rfind_calls ⟨#[97, 98, 99, 100, 101, 102, 103, 104, 105, 106, 107, 108, 109, 110, 111, 112, 113, 114, 115, 116, 117, 118, 119, 120, 121, 122, 48, 49, 50, 51, 52, 53, 54, 55, 56, 57, 45, 46]⟩ s[k] wr (by decide))
      rw [show L (⟨#[97, 98, 99, 100, 101, 102, 103, 104, 105, 106, 107, 108, 109, 110, 111, 112, 113, 114, 115, 116, 117, 118, 119, 120, 121, 122, 48, 49, 50, 51, 52, 53, 54, 55, 56, 57, 45, 46]⟩ : ByteArray) = hostL from rfl] at HC
      generalize Lib.indexByte hostL s[k] = z at *
      by_cases g4 : z < 0
      · have HX : Hid (hostF (L s) = false) := by rw [Hid, HH.out, HT.out (by rw [HB.out, decide_eq_true g4])]; simp
        go_wp2_with fail
        refine HC.out.mono ?_
        rintro e w2 ⟨rfl, rfl⟩
        go_wp2_with fail
        go_ret
        exact ⟨ret_bool (by rw [HX.out]), rfl⟩
      · have HX : Hid (((L s).take (k + 1)).any hostB = false) := HF.out (by rw [HB.out, decide_eq_false g4])
        go_wp2_with fail
        refine HC.out.mono ?_
        rintro e w2 ⟨rfl, rfl⟩
        go_wp2_with fail
        go_roundw
        case rel => exact ⟨k + 1, by omega, by go_num, HX.out, (by first | exact trivial | exact rfl)⟩
        case measure => simp [intOf] <;> omega
    · have h1 : ¬ (k : Int) < (s.size : Int) := by omega
      have HR : Hid ((L s).any hostB = false) := by have := HO.out; rwa [List.take_of_length_le (by omega)] at this
      by_cases g1 : 0 < s.size
      · have g1i : (0 : Int) < (s.size : Int) := by omega
        have HY : Hid (hostF (L s) = decide ((s.size : Int) ≤ 100)) := by
          rw [Hid, HH.out, HR.out, decide_eq_true (show 1 ≤ (L s).length by omega), ← hsl, Bool.eq_iff_iff]
          simp
          omega
        clear g1
        go_wp2_with fail
        go_ret
        exact ⟨ret_bool (by rw [HY.out, size_L s]), rfl⟩
      · have g1i : ¬ (0 : Int) < (s.size : Int) := by omega
        have HY : Hid (hostF (L s) = false) := by rw [Hid, HH.out, decide_eq_false (show ¬ 1 ≤ (L s).length by omega)]; rfl
        clear g1
        go_wp2_with fail
        go_ret
        exact ⟨ret_bool (by rw [HY.out]), rfl⟩
end Go.Proofs.YtijpfcjlochahaaGreatDoor
namespace Go.Proofs.YtijpfcjlochahaaGreatDoor
open Go Go.RowKit
set_option linter.unusedVariables false
set_option linter.unusedSimpArgs false

def valB (c : UInt8) : Nat := if 48 ≤ c.toNat ∧ c.toNat ≤ 57 then c.toNat - 48 else if 97 ≤ c.toNat ∧ c.toNat ≤ 102 then c.toNat - 87 else if 65 ≤ c.toNat ∧ c.toNat ≤ 70 then c.toNat - 55 else 99
theorem valB_dig (c : UInt8) : digB c = decide (valB c < 10) := by
  unfold digB valB
  rw [Bool.eq_iff_iff]
  simp only [Bool.and_eq_true, decide_eq_true_eq]
  split
  · omega
  · split
    · omega
    · split <;> omega
theorem valB_of {c : UInt8} (h : digB c = true) : valB c = c.toNat - 48 := by
  unfold digB at h
  simp only [Bool.and_eq_true, decide_eq_true_eq] at h
  rw [valB, if_pos h]
theorem valB_le (c : UInt8) : valB c ≤ 99 := by
  unfold valB
  split
  · omega
  · split
    · omega
    · split <;> omega
set_option maxRecDepth 20000 in
set_option maxHeartbeats 1000000 in
theorem r2value_calls (c : UInt8) (w : World) : Calls Tryz.prog 163 #[.int .u8 c.toNat] w fun e w' => e = .returned (.int .u64 (valB c)) ∧ w = w' := by
  have HV : Hid (valB c = if 48 ≤ c.toNat ∧ c.toNat ≤ 57 then c.toNat - 48 else if 97 ≤ c.toNat ∧ c.toNat ≤ 102 then c.toNat - 87 else if 65 ≤ c.toNat ∧ c.toNat ≤ 70 then c.toNat - 55 else 99) := rfl
  generalize valB c = v at *
  have hn := UInt8.toNat_lt c
  generalize c.toNat = n at *
  go_enter Tryz.func163, Tryz.ntmps163
  go_wp2_with fail
  all_goals
    go_ret
    refine ⟨congrArg (fun x => Ending.returned (Value.int .u64 x)) ?_, rfl⟩
    rw [HV.out]
    repeat' split
    all_goals omega
theorem rconv_one (w : World) (d : UInt8) : (convert 162 9 (.slice (some ⟨w.heap.size, 0, none⟩) 1 1)).run Tryz.prog (w.alloc (.cells #[.int .u8 d.toNat] 5)) = .ok (.string (bs [d])) (w.alloc (.cells #[.int .u8 d.toNat] 5)) :=
  run_convert_bytes_back (P := Tryz.prog) (w.alloc (.cells #[.int .u8 d.toNat] 5)) 162 9 5 ⟨w.heap.size, 0, none⟩ 1 [d] Tryz.underlying162 Tryz.underlying5 Tryz.underlying9 (fun j hj => by
    obtain rfl : j = 0 := by simp at hj; omega
    exact (Blk.new w 5 #[.int .u8 d.toNat]).cell 0)
set_option maxRecDepth 20000 in
set_option maxHeartbeats 2000000 in
theorem rlower_calls (s : ByteArray) (w : World) (hs : s.size ≤ 1000000) : Calls Tryz.prog 74 #[.string s] w fun e w' => e = .returned (.string (bs (lowF (L s)))) ∧ Below w.heap.size w w' := by
  have hsl := size_L s
  go_enter Tryz.func74, Tryz.ntmps74
  go_wp2_with fail
  go_loopw [3, 4, 5] (fun o i _ wr => ∃ (k : Nat) (x : ByteArray), k ≤ s.size ∧ i = .int .i64 k ∧ o = .string x ∧ Hid (L x = ((L s).take k).map lowB) ∧ x.size ≤ 1000000 ∧ Hid (Below w.heap.size w wr))
     (fun o i _ wr => s.size - (intOf i).toNat)
  case atStart => exact ⟨0, ⟨#[]⟩, Nat.zero_le _, rfl, rfl, rfl, Nat.zero_le _, Below.refl _ _⟩
  case round =>
    obtain ⟨k, x, hk, rfl, rfl, HT, ht, HB⟩ := hrel
    by_cases hlt : k < s.size
    · have h1 : (k : Int) < (s.size : Int) := by omega
      have h0 : (0 : Int) ≤ (k : Int) := by omega
      have hjl : k < (L s).length := by omega
      have HLB : Hid (lowB (s[k]'hlt) = if 65 ≤ (s[k]'hlt).toNat ∧ (s[k]'hlt).toNat ≤ 90 then (s[k]'hlt) + 32 else (s[k]'hlt)) := rfl
      have HTN : Hid (L (x ++ bs [lowB (s[k]'hlt)]) = ((L s).take (k + 1)).map lowB) := by
        rw [Hid, List.take_succ_eq_append_getElem hjl, List.map_append, ← HT.out, L_append, L_bs]
        rfl
      have HTL : Hid ((x ++ bs [lowB (s[k]'hlt)]).size ≤ 1000000) := by rw [Hid, size_L, HTN.out, List.length_map, List.length_take]; omega
      have hq : x.size + (bs [lowB (s[k]'hlt)]).size ≤ 2000000 := by rw [size_bs]; simp; omega
      have hc := UInt8.toNat_lt (s[k]'hlt)
      have HBN : ∀ d : UInt8, Below w.heap.size w (wr.alloc (.cells #[.int .u8 d.toNat] 5)) := fun d => HB.out.alloc HB.out.size _
      have HBN := Lib.hid HBN
      have hcv := rconv_one wr (lowB (s[k]'hlt))
      clear hsl
      by_cases hc2 : 65 ≤ (s[k]'hlt).toNat ∧ (s[k]'hlt).toNat ≤ 90
      · obtain ⟨q1, q2⟩ := hc2
        have hv : ((s[k]'hlt).toNat : Int) + 32 = ((lowB (s[k]'hlt)).toNat : Int) := by
          rw [HLB.out, if_pos ⟨q1, q2⟩, UInt8.toNat_add]
          show _ = ((((s[k]'hlt).toNat + 32) % 256 : Nat) : Int)
          omega
        have p1 : (65 : Int) ≤ ((s[k]'hlt).toNat : Int) := by omega
        have p2 : ((s[k]'hlt).toNat : Int) ≤ 90 := by omega
        have HBX := Lib.hid (HBN.out (lowB (s[k]'hlt)))
        rw [← hv] at hcv HBX
        clear hv q1 q2 hc
        go_wp2_with fail
        go_roundw
        case rel => exact ⟨k + 1, _, by omega, by go_num, rfl, HTN.out, HTL.out, HBX.out⟩
        case measure => simp [intOf]; omega
      · have HEQ : lowB (s[k]'hlt) = s[k]'hlt := by rw [HLB.out, if_neg hc2]
        have HBX := Lib.hid (HBN.out (s[k]'hlt))
        rw [HEQ] at hcv HTN HTL hq
        clear HEQ HLB
        have hc2 : (65 : Int) ≤ ((s[k]'hlt).toNat : Int) → ¬ ((s[k]'hlt).toNat : Int) ≤ 90 := by omega
        by_cases h65 : (65 : Int) ≤ ((s[k]'hlt).toNat : Int)
        · have h90 := hc2 h65
          clear hc hc2
          go_wp2_with fail
          go_roundw
          case rel => exact ⟨k + 1, _, by omega, by go_num, rfl, HTN.out, HTL.out, HBX.out⟩
          case measure => simp [intOf]; omega
        · clear hc hc2
          go_wp2_with fail
          go_roundw
          case rel => exact ⟨k + 1, _, by omega, by go_num, rfl, HTN.out, HTL.out, HBX.out⟩
          case measure => simp [intOf]; omega
    · have h1 : ¬ (k : Int) < (s.size : Int) := by omega
      have HX : Hid (x = bs (lowF (L s))) := by
        refine L_ext ?_
        rw [L_bs, HT.out, List.take_of_length_le (by omega)]; rfl
      go_wp2_with fail
      go_ret
      exact ⟨by rw [← HX.out]; rfl, HB.out⟩
theorem readLoop_none : ∀ (l : List UInt8) (n : Nat) (b : Bool), (∃ c ∈ l, digB c = false) → readLoop l n b = none
  | [], _, _, h => by obtain ⟨c, h, _⟩ := h; cases h
  | x :: l, n, b, h => by
    rw [readLoop_cons]
    by_cases hx : digB x = true
    · have h2 : ∃ c ∈ l, digB c = false := by
        obtain ⟨c, hc, hd⟩ := h
        rcases List.mem_cons.1 hc with rfl | hc
        · rw [hx] at hd; cases hd
        · exact ⟨c, hc, hd⟩
      rw [if_pos hx, readLoop_none l _ _ h2, readLoop_none l _ _ h2, ite_self]
    · rw [if_neg hx]
theorem readLoop_over : ∀ (l : List UInt8) (n : Nat), l.all digB = true → ∃ m, readLoop l n true = some (m, true)
  | [], n, _ => ⟨n, rfl⟩
  | x :: l, n, h => by
    rw [List.all_cons, Bool.and_eq_true] at h
    rw [readLoop_cons, if_pos h.1]
    split
    · exact readLoop_over l _ h.2
    · exact readLoop_over l _ h.2
set_option maxRecDepth 20000 in
set_option maxHeartbeats 4000000 in
theorem rread_calls (s : ByteArray) (w : World) (hs : s.size ≤ 1000000) : Calls Tryz.prog 123 #[.string s, .int .u64 10] w fun e w' =>
    e = .returned (.tuple #[.int .u64 ((readDecF (L s)).1 : Int), .int .i64 (readDecF (L s)).2]) ∧ w = w' := by
  have hsl := size_L s
  by_cases h0 : s.size = 0
  · have HN : Hid (readDecF (L s) = (0, 10)) := by rw [Hid, readDecF, if_pos (List.eq_nil_of_length_eq_zero (by omega))]
    have he : s.toList.isEmpty = true := by rw [toList_L, List.eq_nil_of_length_eq_zero (show (L s).length = 0 by omega)]; rfl
    have he2 : s.toList = [] := by rw [toList_L]; exact List.eq_nil_of_length_eq_zero (by omega)
    clear hsl
    go_enter Tryz.func123, Tryz.ntmps123
    go_wp2_with fail
    go_ret2
    exact ⟨by rw [HN.out]; rfl, rfl⟩
  · have HN : Hid (readDecF (L s) = readRes (readLoop (L s) 0 false)) := by
      rw [Hid, readDecF, if_neg (fun e => h0 (by rw [hsl, e]; rfl))]
    have he : s.toList.isEmpty = false := by rw [toList_L]; cases h : L s with | nil => rw [h] at hsl; exact absurd hsl h0 | cons _ _ => rfl
    have he2 : ¬ s.toList = [] := by rw [toList_L]; intro e; rw [e] at hsl; exact h0 hsl
    have HSL := Lib.hid hsl
    clear hsl h0
    go_enter Tryz.func123, Tryz.ntmps123
    go_wp2_with fail
    go_loopw [6] (fun i wr => ∃ (k : Nat), k ≤ s.size ∧ i = .int .i64 k ∧ Hid (((L s).take k).all digB = true) ∧ Hid (wr = w))
       (fun i wr => s.size - (intOf i).toNat)
    case atStart => exact ⟨0, Nat.zero_le _, rfl, rfl, rfl⟩
    case round =>
      obtain ⟨k, hk, rfl, HO, HW⟩ := hrel
      obtain rfl := HW.out
      clear HW
      by_cases hlt : k < s.size
      · have hk1 : (0 : Int) ≤ (k : Int) := by omega
        have hk2 : (k : Int) < (s.size : Int) := by omega
        have hjl : k < (L s).length := by rw [← HSL.out]; exact hlt
        have HD := Lib.hid (r2value_calls (s[k]'hlt))
        have hd := valB_dig (s[k]'hlt)
        have HF : digB (s[k]'hlt) = false → readDecF (L s) = (0, 10) := fun h => by
          rw [HN.out, readLoop_none (L s) 0 false ⟨_, List.getElem_mem hjl, h⟩]; rfl
        have HT : digB (s[k]'hlt) = true → ((L s).take (k + 1)).all digB = true := fun h => by
          rw [List.take_succ_eq_append_getElem hjl, List.all_append, HO.out]
          show (true && (digB ((L s)[k]'hjl) && true)) = true
          rw [show ((L s)[k]'hjl) = s[k]'hlt from rfl, h]; rfl
        have HF := Lib.hid HF
        have HT := Lib.hid HT
        generalize valB (s[k]'hlt) = d at *
        cases hq : digB (s[k]'hlt) with
        | true =>
          have hd10 : ¬ (10 : Int) ≤ (d : Int) := by rw [hq] at hd; have := of_decide_eq_true hd.symm; omega
          have HX := Lib.hid (HT.out hq)
          clear hq hd
          go_wp2_with fail
          refine (HD.out _).mono ?_
          rintro e w2 ⟨rfl, rfl⟩
          go_wp2_with fail
          go_roundw
          case rel => exact ⟨k + 1, hlt, by go_num, HX.out, (by first | exact trivial | exact rfl)⟩
          case measure => simp [intOf]; omega
        | false =>
          have hd10 : (10 : Int) ≤ (d : Int) := by rw [hq] at hd; have := of_decide_eq_false hd.symm; omega
          have HX := Lib.hid (HF.out hq)
          clear hq hd
          go_wp2_with fail
          refine (HD.out _).mono ?_
          rintro e w2 ⟨rfl, rfl⟩
          go_wp2_with fail
          go_ret2
          exact ⟨by rw [HX.out]; rfl, rfl⟩
      · have HA : Hid ((L s).all digB = true) := by have := HO.out; rwa [List.take_of_length_le (by rw [← HSL.out]; omega)] at this
        have hk3 : ¬ (k : Int) < (s.size : Int) := by omega
        clear HO
        go_wp2_with fail
        go_loopw [7, 8] (fun nv i wq => ∃ (k n : Nat), k ≤ s.size ∧ i = .int .i64 k ∧ nv = .int .u64 n ∧ n ≤ 1099511627776 ∧ Hid (readLoop (L s) 0 false = readLoop ((L s).drop k) n false) ∧ Hid (wq = wr))
           (fun nv i wq => s.size - (intOf i).toNat)
        case atStart => exact ⟨0, 0, Nat.zero_le _, rfl, rfl, by omega, by rw [List.drop_zero]; rfl, rfl⟩
        case round =>
          obtain ⟨k, n, hk, rfl, rfl, hn, HO, HW⟩ := hrel
          have hwq := HW.out.symm
          subst hwq
          clear HW
          by_cases hlt : k < s.size
          · have hk1 : (0 : Int) ≤ (k : Int) := by omega
            have hk2 : (k : Int) < (s.size : Int) := by omega
            have hjl : k < (L s).length := by rw [← HSL.out]; exact hlt
            have hdg : digB (s[k]'hlt) = true := List.all_eq_true.1 HA.out _ (List.getElem_mem hjl)
            have HC : Hid (readLoop (L s) 0 false = if n * 10 + ((s[k]'hlt).toNat - 48) ≤ 1099511627776 then readLoop ((L s).drop (k + 1)) (n * 10 + ((s[k]'hlt).toNat - 48)) false else readLoop ((L s).drop (k + 1)) 0 true) := by
              rw [Hid, HO.out, List.drop_eq_getElem_cons hjl, readLoop_cons]; exact if_pos hdg
            have HV : Hid (readLoop ((L s).drop (k + 1)) 0 true = readLoop ((L s).drop (k + 1)) 0 true → ∃ m, readLoop ((L s).drop (k + 1)) 0 true = some (m, true)) := fun _ => readLoop_over _ 0 (List.all_eq_true.2 fun c hc => List.all_eq_true.1 HA.out c (List.mem_of_mem_drop hc))
            have HD := Lib.hid (r2value_calls (s[k]'hlt))
            have hd9 : valB (s[k]'hlt) < 10 := by have := valB_dig (s[k]'hlt); rw [hdg] at this; exact of_decide_eq_true this.symm
            rw [← valB_of hdg] at HC
            clear hdg HO
            generalize valB (s[k]'hlt) = d at *
            by_cases hb : n * 10 + d ≤ 1099511627776
            · have HC3 : Hid (readLoop (L s) 0 false = readLoop ((L s).drop (k + 1)) (n * 10 + d) false) := by rw [Hid, HC.out, if_pos hb]
              have hb2 : ¬ (1099511627776 : Int) < 10 * (n : Int) + (d : Int) := by omega
              have hb3 : 10 * (n : Int) + (d : Int) = ((n * 10 + d : Nat) : Int) := by omega
              have HB3 := Lib.hid hb3
              clear HC hb3
              go_wp2_with fail
              refine (HD.out _).mono ?_
              rintro e w2 ⟨rfl, rfl⟩
              go_wp2_with fail
              go_roundw
              case rel => exact ⟨k + 1, n * 10 + d, hlt, by go_num, by rw [HB3.out], hb, HC3.out, (by first | exact trivial | exact rfl)⟩
              case measure => simp [intOf]; omega
            · obtain ⟨m, hm⟩ := HV.out rfl
              have HF : Hid (readDecF (L s) = (0, 2)) := by rw [Hid, HN.out, HC.out, if_neg hb, hm]; rfl
              have hb2 : (1099511627776 : Int) < 10 * (n : Int) + (d : Int) := by omega
              clear HC hm
              go_wp2_with fail
              refine (HD.out _).mono ?_
              rintro e w2 ⟨rfl, rfl⟩
              go_wp2_with fail
              go_ret2
              exact ⟨by rw [HF.out]; rfl, rfl⟩
          · have hkl : k = s.size := by omega
            have HF : Hid (readDecF (L s) = (n, 0)) := by
              rw [Hid, HN.out, HO.out, hkl, HSL.out, List.drop_length, readLoop]; rfl
            have hk4 : ¬ (k : Int) < (s.size : Int) := by omega
            clear HO hkl
            go_wp2_with fail
            go_ret2
            exact ⟨by rw [HF.out]; rfl, rfl⟩
end Go.Proofs.YtijpfcjlochahaaGreatDoor
namespace Go.Proofs.YtijpfcjlochahaaGreatDoor
open Go Go.RowKit
set_option linter.unusedVariables false
set_option linter.unusedSimpArgs false

/-- The place of a digit in the reference's row of digits. -/
theorem dig_at (d : Nat) (h : d < 10) : (⟨#[48, 49, 50, 51, 52, 53, 54, 55, 56, 57, 97, 98, 99, 100, 101, 102]⟩ : ByteArray).extract d (d + 1) = bs [UInt8.ofNat (48 + d)] := by
  have : ∀ d : Fin 10, (⟨#[48, 49, 50, 51, 52, 53, 54, 55, 56, 57, 97, 98, 99, 100, 101, 102]⟩ : ByteArray).extract d.val (d.val + 1) = bs [UInt8.ofNat (48 + d.val)] := by decide +kernel
  exact this ⟨d, h⟩
theorem below_dn {B : Nat} {a w : World} (h : Below B a w) (n : Nat) : Below B a (w.drewN n) := ⟨h.os, h.tape, h.output, h.size, h.block⟩
def vsize : Value → Nat
  | .string x => x.size
  | _ => 0
def DigRel (N m : Nat) (t : ByteArray) : Prop := (t.size = 0 ∧ m = N) ∨ (0 < t.size ∧ Lib.decDigits N = (if m = 0 then [] else Lib.decDigits m) ++ L t)
theorem decD_step (m : Nat) : Lib.decDigits m = (if m / 10 = 0 then [] else Lib.decDigits (m / 10)) ++ [UInt8.ofNat (48 + m % 10)] := by
  rw [Lib.decDigits]
  split
  · rename_i h
    rw [if_pos (by omega), Nat.mod_eq_of_lt h]; rfl
  · rw [if_neg (by omega)]
theorem dig_next {N m : Nat} {x : ByteArray} (h : DigRel N m x) (hm : 0 < m) : DigRel N (m / 10) (bs [UInt8.ofNat (48 + m % 10)] ++ x) := by
  have e : Lib.decDigits N = Lib.decDigits m ++ L x := by
    rcases h with ⟨hx, rfl⟩ | ⟨_, h⟩
    · rw [List.eq_nil_of_length_eq_zero (show (L x).length = 0 by rw [← size_L]; exact hx), List.append_nil]
    · rw [h, if_neg (by omega)]
  refine .inr ⟨by rw [ByteArray.size_append, size_bs]; simp; omega, ?_⟩
  rw [L_append, L_bs, e, decD_step m, List.append_assoc]
theorem dig_zero {N : Nat} {x : ByteArray} (h : DigRel N 0 x) (hx : x.size = 0) : DigRel N 0 (bs [48] ++ x) := by
  rcases h with ⟨_, rfl⟩ | ⟨h, _⟩
  · refine .inr ⟨by rw [ByteArray.size_append, size_bs]; simp; omega, ?_⟩
    rw [L_append, L_bs, List.eq_nil_of_length_eq_zero (show (L x).length = 0 by rw [← size_L]; exact hx), if_pos rfl, Lib.decDigits_one (by omega)]
    rfl
  · omega
theorem dig_size {N m : Nat} {x : ByteArray} (hN : N ≤ 1099511627776) (h : DigRel N m x) : x.size ≤ 20 := by
  rcases h with ⟨h, _⟩ | ⟨_, h⟩
  · omega
  · have h1 := dec_len hN
    have h2 := congrArg List.length h
    rw [List.length_append, ← size_L] at h2
    omega
set_option maxRecDepth 20000 in
set_option maxHeartbeats 2000000 in
theorem rdigits_calls (N : Nat) (w : World) (hN : N ≤ 1099511627776) : Calls Tryz.prog 164 #[.int .u64 N, .int .u64 10] w fun e w' => e = .returned (.string (bs (Lib.decDigits N))) ∧ Below w.heap.size w w' := by
  go_enter Tryz.func164, Tryz.ntmps164
  go_wp2_with fail
  go_loopw [0, 5] (fun n t wr => ∃ (m : Nat) (x : ByteArray), m ≤ 1099511627776 ∧ n = .int .u64 m ∧ t = .string x ∧ Hid (DigRel N m x) ∧ Hid (Below w.heap.size w wr))
     (fun n t wr => (intOf n).toNat + (1 - vsize t))
  case atStart => exact ⟨N, ⟨#[]⟩, hN, rfl, rfl, .inl ⟨rfl, rfl⟩, Below.refl _ _⟩
  case round =>
    obtain ⟨m, x, hm, rfl, rfl, HO, HW⟩ := hrel
    have hsz := dig_size hN HO.out
    have hq : ∀ d : Nat, (bs [UInt8.ofNat d]).size + x.size ≤ 100 := fun d => by rw [size_bs]; simp; omega
    have HM : ∀ a : UInt8, vsize (.string (bs [a] ++ x)) = 1 + x.size := fun a => by show (bs [a] ++ x).size = _; rw [ByteArray.size_append, size_bs]; rfl
    have HM := Lib.hid HM
    rcases Nat.eq_zero_or_pos m with rfl | hm0
    · by_cases hx0 : x.size = 0
      · have he : x.toList.isEmpty = true := by rw [toList_L, List.eq_nil_of_length_eq_zero (show (L x).length = 0 by rw [← size_L]; exact hx0)]; rfl
        have HE0 : Hid ((⟨#[48, 49, 50, 51, 52, 53, 54, 55, 56, 57, 97, 98, 99, 100, 101, 102]⟩ : ByteArray).extract 0 1 = bs [48]) := dig_at 0 (by omega)
        have HZ := Lib.hid (dig_zero HO.out hx0)
        have hq0 : ((⟨#[48, 49, 50, 51, 52, 53, 54, 55, 56, 57, 97, 98, 99, 100, 101, 102]⟩ : ByteArray).extract 0 1).size + x.size ≤ 100 := by rw [HE0.out]; exact hq 48
        have HX0 := Lib.hid hx0
        clear hx0 hq
        go_wp2_with fail
        go_quiet (fail)
        go_wp2_with fail
        go_roundw
        case rel => exact ⟨0, _, by omega, rfl, rfl, by rw [HE0.out]; exact HZ.out, (by first | exact HW.out.drew | exact below_dn HW.out _ | exact HW.out)⟩
        case measure => rw [HE0.out, HM.out]; show 0 + (1 - (1 + x.size)) < 0 + (1 - x.size); have := HX0.out; omega
      · have he : x.toList.isEmpty = false := by rw [toList_L]; cases h : L x with | nil => exact absurd (show x.size = 0 by rw [size_L, h]; rfl) hx0 | cons _ _ => rfl
        have HR : Hid (x = bs (Lib.decDigits N)) := by
          rcases HO.out with ⟨h, _⟩ | ⟨_, h⟩
          · exact absurd h hx0
          · rw [Hid, h, if_pos rfl, List.nil_append, bs_L]
        clear hx0 hq
        go_wp2_with fail
        go_ret
        exact ⟨by rw [← HR.out]; rfl, HW.out⟩
    · obtain ⟨d, hd⟩ : ∃ d, d = m % 10 := ⟨_, rfl⟩
      obtain ⟨q, hqd⟩ : ∃ q, q = m / 10 := ⟨_, rfl⟩
      have hd9 : d < 10 := by omega
      have hr : ((m : Int) % 10) = (d : Int) := by omega
      have hr2 : ((m : Int) / 10) = (q : Int) := by omega
      have hdv := dig_at d hd9
      have HZ := Lib.hid (dig_next HO.out hm0)
      rw [← hd, ← hqd] at HZ
      have hq0 : ((⟨#[48, 49, 50, 51, 52, 53, 54, 55, 56, 57, 97, 98, 99, 100, 101, 102]⟩ : ByteArray).extract d (d + 1)).size + x.size ≤ 100 := by rw [hdv]; exact hq _
      have HDV := Lib.hid hdv
      have d0 : (0 : Int) < (m : Int) := by omega
      have d1 : (0 : Int) ≤ (d : Int) := by omega
      have d2 : (d : Int) + 1 ≤ 16 := by omega
      have d3 : (d : Int) ≤ 16 := by omega
      have hqm : q < m := by omega
      have hq12 : q ≤ 1099511627776 := by omega
      clear hd hqd hq hdv
      go_wp2_with fail
      go_quiet (fail)
      go_wp2_with fail
      go_roundw
      case rel => exact ⟨q, _, hq12, rfl, rfl, by rw [HDV.out]; exact HZ.out, (by first | exact HW.out.drew | exact below_dn HW.out _ | exact HW.out)⟩
      case measure => rw [HDV.out, HM.out]; show q + (1 - (1 + x.size)) < m + (1 - x.size); omega
set_option maxRecDepth 20000 in
set_option maxHeartbeats 4000000 in
theorem rwrite_calls (u : UriD) (hs : u.small) (hp : 0 ≤ u.port) (w : World) :
    Calls Tryz.prog 125 #[u.val] w fun e w' => e = .returned (.string (bs (writeF u))) ∧ Below w.heap.size w w' := by
  obtain ⟨abs, host, port, path, asks, query⟩ := u
  obtain ⟨h1, h2, h3, -, h5⟩ := hs
  simp only at h1 h2 h3 h5 hp
  show Calls Tryz.prog 125 #[.agg #[.bool abs, .string (bs host), .int .i64 port, .string (bs path), .bool asks, .string (bs query)]] w _
  have HB := Lib.hid ((Below.refl w.heap.size w).alloc (Nat.le_refl _) (.cells #[.bool abs, .string (bs host), .int .i64 port, .string (bs path), .bool asks, .string (bs query)] 94))
  have z1 : (⟨#[104, 116, 116, 112, 58, 47, 47]⟩ : ByteArray).size = 7 := rfl
  have z2 : (⟨#[63]⟩ : ByteArray).size = 1 := rfl
  have z4 : (⟨#[58]⟩ : ByteArray).size = 1 := rfl
  have y1 : (bs host).size ≤ 100000 := by rw [size_bs]; exact h1
  have y2 : (bs path).size ≤ 100000 := by rw [size_bs]; exact h2
  have y3 : (bs query).size ≤ 100000 := by rw [size_bs]; exact h3
  have q1 : (⟨#[104, 116, 116, 112, 58, 47, 47]⟩ : ByteArray).size + (bs host).size ≤ 1000000 := by omega
  have q2 : (bs path).size + (⟨#[63]⟩ : ByteArray).size ≤ 1000000 := by omega
  have q4 : ((bs path) ++ (⟨#[63]⟩ : ByteArray)).size + (bs query).size ≤ 1000000 := by rw [ByteArray.size_append]; omega
  by_cases hp0 : port = 0
  · subst hp0
    have q3 : ((⟨#[104, 116, 116, 112, 58, 47, 47]⟩ : ByteArray) ++ (bs host)).size + (bs path).size ≤ 1000000 := by rw [ByteArray.size_append]; omega
    have q5 : ((⟨#[104, 116, 116, 112, 58, 47, 47]⟩ : ByteArray) ++ (bs host) ++ (bs path)).size + (⟨#[63]⟩ : ByteArray).size ≤ 1000000 := by rw [ByteArray.size_append, ByteArray.size_append]; omega
    have q6 : ((⟨#[104, 116, 116, 112, 58, 47, 47]⟩ : ByteArray) ++ (bs host) ++ (bs path) ++ (⟨#[63]⟩ : ByteArray)).size + (bs query).size ≤ 1000000 := by rw [ByteArray.size_append, ByteArray.size_append, ByteArray.size_append]; omega
    clear z1 z2 z4 y1 y2 y3 h1 h2 h3 h5 hp
    cases abs <;> cases asks
    all_goals
      go_enter Tryz.func125, Tryz.ntmps125
      go_wp2_with fail
      go_ret
      refine ⟨?_, HB.out⟩
      refine congrArg (fun x => Ending.returned (Value.string x)) (L_ext ?_)
      rw [L_bs]
      simp [writeF, schemeB, portF, L, bs]
  · cases abs with
    | false =>
      clear z1 z2 z4 y1 y2 y3 h1 h2 h3 h5 hp
      cases asks
      all_goals
        go_enter Tryz.func125, Tryz.ntmps125
        go_wp2_with fail
        go_ret
        refine ⟨?_, HB.out⟩
        refine congrArg (fun x => Ending.returned (Value.string x)) (L_ext ?_)
        rw [L_bs]
        simp [writeF, schemeB, portF, L, bs]
    | true =>
      have b0 : (port != 0) = true := by rw [bne_iff_ne]; exact hp0
      obtain ⟨n, rfl⟩ : ∃ n : Nat, port = n := ⟨port.toNat, by omega⟩
      have hd := dec_len (n := n) (by omega)
      have HPF : Hid (portF (n : Int) = 58 :: Lib.decDigits n) := by rw [Hid, portF, if_neg hp0]; rfl
      have HDC := Lib.hid (fun W => rdigits_calls n W (by omega))
      have y4 : (bs (Lib.decDigits n)).size ≤ 20 := by rw [size_bs]; exact hd
      have q3 : ((⟨#[104, 116, 116, 112, 58, 47, 47]⟩ : ByteArray) ++ (bs host)).size + (⟨#[58]⟩ : ByteArray).size ≤ 1000000 := by rw [ByteArray.size_append]; omega
      have q5 : ((⟨#[104, 116, 116, 112, 58, 47, 47]⟩ : ByteArray) ++ (bs host) ++ (⟨#[58]⟩ : ByteArray)).size + (bs (Lib.decDigits n)).size ≤ 1000000 := by rw [ByteArray.size_append, ByteArray.size_append]; omega
      have q8 : ((⟨#[104, 116, 116, 112, 58, 47, 47]⟩ : ByteArray) ++ (bs host) ++ (⟨#[58]⟩ : ByteArray) ++ (bs (Lib.decDigits n))).size + (bs path).size ≤ 1000000 := by rw [ByteArray.size_append, ByteArray.size_append, ByteArray.size_append]; omega
      have q9 : ((⟨#[104, 116, 116, 112, 58, 47, 47]⟩ : ByteArray) ++ (bs host) ++ (⟨#[58]⟩ : ByteArray) ++ (bs (Lib.decDigits n)) ++ (bs path)).size + (⟨#[63]⟩ : ByteArray).size ≤ 1000000 := by rw [ByteArray.size_append, ByteArray.size_append, ByteArray.size_append, ByteArray.size_append]; omega
      have q7 : ((⟨#[104, 116, 116, 112, 58, 47, 47]⟩ : ByteArray) ++ (bs host) ++ (⟨#[58]⟩ : ByteArray) ++ (bs (Lib.decDigits n)) ++ (bs path) ++ (⟨#[63]⟩ : ByteArray)).size + (bs query).size ≤ 1000000 := by rw [ByteArray.size_append, ByteArray.size_append, ByteArray.size_append, ByteArray.size_append, ByteArray.size_append]; omega
      have hw : IntKind.u64.wrap (n : Int) = (n : Int) := by rw [IntKind.wrap_u64]; omega
      have HX := Lib.hid (Blk.new w 94 #[.bool true, .string (bs host), .int .i64 (n : Int), .string (bs path), .bool asks, .string (bs query)])
      clear z1 z2 z4 y1 y2 y3 y4 h1 h2 h3 h5 hp hd hp0
      cases asks
      all_goals
        go_enter Tryz.func125, Tryz.ntmps125
        go_wp2_with fail
        refine (HDC.out _).mono ?_
        rintro e w2 ⟨rfl, hb2⟩
        have HX2 := Lib.hid (HX.out.below hb2 HX.out.lt)
        have HB2 := Lib.hid (HB.out.trans (hb2.mono HB.out.size))
        have x3 := HX2.out.cell 3
        have x4 := HX2.out.cell 4
        have x5 := HX2.out.cell 5
        clear hb2
        go_wp2_with fail
        go_ret
        refine ⟨?_, HB2.out⟩
        refine congrArg (fun x => Ending.returned (Value.string x)) (L_ext ?_)
        rw [L_bs, writeF]
        simp only [HPF.out]
        simp [schemeB, L, bs]
end Go.Proofs.YtijpfcjlochahaaGreatDoor
