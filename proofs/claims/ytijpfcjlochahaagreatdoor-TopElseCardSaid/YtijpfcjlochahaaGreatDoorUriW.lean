/- The walks of uri: which bytes may be (bytes, host): the closures, and slices.IndexFunc over bytes. The walks of what uri calls: LastIndexByte, CutPrefix, TrimPrefix, Lower, Same, ReadDec. The walks of uri.write and of what writes a port's digits. -/
import Derived.Test.YtijpfcjlochahaaGreatDoorLexB
import Derived.Test.YtijpfcjlochahaaGreatDoorUriF
import Derived.Test.YtijpfcjlochahaaGreatDoorShelf
import Derived.Test.YtijpfcjlochahaaGreatDoorProg
import Derived.Laws.IdiomStrings
import Derived.Shelf.Strconv.Itoa3
import Derived.Lib.AppendIntMem
set_option linter.unusedVariables false
set_option linter.unusedSimpArgs false
namespace Go.Proofs.YtijpfcjlochahaaGreatDoor
open Go Go.RowKit
set_option linter.unusedVariables false
set_option linter.unusedSimpArgs false

set_option maxRecDepth 20000 in
set_option maxHeartbeats 1000000 in
theorem host1_calls (c : UInt8) (w : World) : Calls Tryz.prog 177 #[.int .u8 c.toNat] w fun e w' => e = .returned (.bool (hostB c)) ∧ w = w' := by
  have HH : Hid (hostB c = !((decide (97 ≤ c.toNat) && decide (c.toNat ≤ 122)) || (decide (48 ≤ c.toNat) && decide (c.toNat ≤ 57)) || c.toNat == 45 || c.toNat == 46)) := rfl
  generalize hostB c = H at *
  generalize c.toNat = n at *
  go_enter Tryz.func177, Tryz.ntmps177
  go_wp2_with fail
  all_goals
    go_ret
    refine ⟨ret_bool ?_, rfl⟩
    rw [HH.out]
    clear HH
    rw [Bool.eq_iff_iff]
    simp
    try omega
set_option maxRecDepth 20000 in
set_option maxHeartbeats 1000000 in
theorem bytes1_calls (c : UInt8) (w : World) : Calls Tryz.prog 175 #[.int .u8 c.toNat] w fun e w' => e = .returned (.bool (badB c)) ∧ w = w' := by
  have HH : Hid (badB c = (decide (c.toNat ≤ 32) || decide (126 < c.toNat) || decide (0 ≤ Lib.indexByte [34, 35, 60, 62, 92, 94, 123, 124, 125, 96] c))) := rfl
  have HC := Lib.hid (Tryz.strings_IndexByte ⟨#[34, 35, 60, 62, 92, 94, 123, 124, 125, 96]⟩ (c.toNat : Int) w)
  have hc : ((c.toNat : Int)).toNat.toUInt8 = c := by simp
  rw [hc] at HC
  clear hc
  rw [show (⟨#[34, 35, 60, 62, 92, 94, 123, 124, 125, 96]⟩ : ByteArray).data.toList = [34, 35, 60, 62, 92, 94, 123, 124, 125, 96] from rfl] at HC
  generalize Lib.indexByte [34, 35, 60, 62, 92, 94, 123, 124, 125, 96] c = z at *
  generalize badB c = H at *
  generalize c.toNat = n at *
  by_cases h1 : n ≤ 32
  · have h1i : (n : Int) ≤ 32 := by omega
    go_enter Tryz.func175, Tryz.ntmps175
    go_wp2_with fail
    go_ret
    exact ⟨ret_bool (by rw [HH.out, decide_eq_true h1]; rfl), rfl⟩
  · have h1i : ¬ (n : Int) ≤ 32 := by omega
    by_cases h2 : 126 < n
    · have h2i : (126 : Int) < (n : Int) := by omega
      go_enter Tryz.func175, Tryz.ntmps175
      go_wp2_with fail
      go_ret
      exact ⟨ret_bool (by rw [HH.out, decide_eq_true h2, decide_eq_false h1]; rfl), rfl⟩
    · have h2i : ¬ (126 : Int) < (n : Int) := by omega
      have HZ : Hid (H = decide (0 ≤ z)) := by rw [Hid, HH.out, decide_eq_false h1, decide_eq_false h2]; rfl
      clear HH
      go_enter Tryz.func175, Tryz.ntmps175
      go_wp2_with fail
      refine HC.out.mono ?_
      rintro e w2 ⟨rfl, rfl⟩
      go_wp2_with fail
      go_ret
      exact ⟨ret_bool (by rw [HZ.out]), rfl⟩
set_option maxRecDepth 20000 in
set_option maxHeartbeats 1000000 in
theorem hostIndex_calls (b : Nat) (s : List UInt8) (cc : Nat) (w : World) (hb : ∀ k, k < s.length → w.cell? ⟨b, k, none⟩ = some (.int .u8 ((s[k]?.getD 0).toNat : Int))) (hl : s.length ≤ 100000) :
    Calls Tryz.prog 190 #[.slice (some ⟨b, 0, none⟩) s.length cc, .func (.func 177) #[] #[]] w fun e w' => ∃ z : Int, e = .returned (.int .i64 z) ∧ decide (0 ≤ z) = s.any hostB ∧ w = w' := by
  have HB := Lib.hid hb
  clear hb
  go_enter Tryz.func190, Tryz.ntmps190
  go_wp2_with fail
  go_loopw [5, 8] (fun _ i wr => ∃ k : Nat, k ≤ s.length ∧ i = .int .i64 k ∧ Hid ((s.take k).any hostB = false) ∧ Hid (wr = w))
     (fun _ i wr => s.length - (intOf i).toNat)
  case atStart => exact ⟨0, Nat.zero_le _, rfl, rfl, (by first | exact trivial | exact rfl)⟩
  case round =>
    obtain ⟨k, hk, rfl, HO, HW⟩ := hrel
    obtain rfl := HW.out
    clear HW
    by_cases hlt : k < s.length
    · have c0 := HB.out k hlt
      have hk1 : (0 : Int) ≤ (k : Int) := by omega
      have hk2 : (k : Int) < (s.length : Int) := by omega
      have hg : s[k]?.getD 0 = s[k] := by rw [List.getElem?_eq_getElem hlt]; rfl
      rw [hg] at c0
      have HST : Hid ((s.take (k + 1)).any hostB = hostB s[k]) := by
        rw [Hid, List.take_succ_eq_append_getElem hlt, List.any_append, HO.out]; simp
      have HAN : Hid (s.any hostB = (hostB s[k] || (s.drop (k + 1)).any hostB)) := by
        have h1 : s = s.take (k + 1) ++ s.drop (k + 1) := (List.take_append_drop _ _).symm
        rw [Hid, ← HST.out, ← List.any_append, ← h1]
      clear hg
      generalize s[k] = t at *
      go_wp2_with fail
      refine (host1_calls t _).mono ?_
      rintro e w3 ⟨rfl, rfl⟩
      cases hq : hostB t with
      | true =>
        rw [hq] at HAN
        go_wp2_with fail
        go_ret
        refine ⟨k, rfl, ?_, rfl⟩
        rw [HAN.out]
        simp
      | false =>
        rw [hq] at HST
        go_wp2_with fail
        go_roundw
        case rel => exact ⟨k + 1, hlt, by go_num, HST.out, (by first | exact trivial | exact rfl)⟩
        case measure => simp [intOf]; omega
    · have hkl : k = s.length := by omega
      subst hkl
      rw [List.take_length] at HO
      go_wp2_with fail
      go_ret
      refine ⟨-1, rfl, ?_, rfl⟩
      rw [HO.out]
      rfl
set_option maxRecDepth 20000 in
set_option maxHeartbeats 1000000 in
theorem bytesIndex_calls (b : Nat) (s : List UInt8) (cc : Nat) (w : World) (hb : ∀ k, k < s.length → w.cell? ⟨b, k, none⟩ = some (.int .u8 ((s[k]?.getD 0).toNat : Int))) (hl : s.length ≤ 100000) :
    Calls Tryz.prog 190 #[.slice (some ⟨b, 0, none⟩) s.length cc, .func (.func 175) #[] #[]] w fun e w' => ∃ z : Int, e = .returned (.int .i64 z) ∧ decide (0 ≤ z) = s.any badB ∧ w = w' := by
  have HB := Lib.hid hb
  clear hb
  go_enter Tryz.func190, Tryz.ntmps190
  go_wp2_with fail
  go_loopw [5, 8] (fun _ i wr => ∃ k : Nat, k ≤ s.length ∧ i = .int .i64 k ∧ Hid ((s.take k).any badB = false) ∧ Hid (wr = w))
     (fun _ i wr => s.length - (intOf i).toNat)
  case atStart => exact ⟨0, Nat.zero_le _, rfl, rfl, (by first | exact trivial | exact rfl)⟩
  case round =>
    obtain ⟨k, hk, rfl, HO, HW⟩ := hrel
    obtain rfl := HW.out
    clear HW
    by_cases hlt : k < s.length
    · have c0 := HB.out k hlt
      have hk1 : (0 : Int) ≤ (k : Int) := by omega
      have hk2 : (k : Int) < (s.length : Int) := by omega
      have hg : s[k]?.getD 0 = s[k] := by rw [List.getElem?_eq_getElem hlt]; rfl
      rw [hg] at c0
      have HST : Hid ((s.take (k + 1)).any badB = badB s[k]) := by
        rw [Hid, List.take_succ_eq_append_getElem hlt, List.any_append, HO.out]; simp
      have HAN : Hid (s.any badB = (badB s[k] || (s.drop (k + 1)).any badB)) := by
        have h1 : s = s.take (k + 1) ++ s.drop (k + 1) := (List.take_append_drop _ _).symm
        rw [Hid, ← HST.out, ← List.any_append, ← h1]
      clear hg
      generalize s[k] = t at *
      go_wp2_with fail
      refine (bytes1_calls t _).mono ?_
      rintro e w3 ⟨rfl, rfl⟩
      cases hq : badB t with
      | true =>
        rw [hq] at HAN
        go_wp2_with fail
        go_ret
        refine ⟨k, rfl, ?_, rfl⟩
        rw [HAN.out]
        simp
      | false =>
        rw [hq] at HST
        go_wp2_with fail
        go_roundw
        case rel => exact ⟨k + 1, hlt, by go_num, HST.out, (by first | exact trivial | exact rfl)⟩
        case measure => simp [intOf]; omega
    · have hkl : k = s.length := by omega
      subst hkl
      rw [List.take_length] at HO
      go_wp2_with fail
      go_ret
      refine ⟨-1, rfl, ?_, rfl⟩
      rw [HO.out]
      rfl
set_option maxRecDepth 20000 in
set_option maxHeartbeats 1000000 in
theorem hostContains_calls (b : Nat) (s : List UInt8) (cc : Nat) (w : World) (hb : ∀ k, k < s.length → w.cell? ⟨b, k, none⟩ = some (.int .u8 ((s[k]?.getD 0).toNat : Int))) (hl : s.length ≤ 100000) :
    Calls Tryz.prog 174 #[.slice (some ⟨b, 0, none⟩) s.length cc, .func (.func 177) #[] #[]] w fun e w' => e = .returned (.bool (s.any hostB)) ∧ w = w' := by
  have HI := Lib.hid (hostIndex_calls b s cc w hb hl)
  clear hb
  go_enter Tryz.func174, Tryz.ntmps174
  go_wp2_with fail
  refine HI.out.mono ?_
  rintro e w3 ⟨z, rfl, hz, rfl⟩
  have HZ := Lib.hid hz
  clear hz
  go_wp2_with fail
  go_ret
  refine ⟨?_, rfl⟩
  show Ending.returned (.bool _) = _
  exact congrArg (fun b => Ending.returned (.bool b)) HZ.out
set_option maxRecDepth 20000 in
set_option maxHeartbeats 1000000 in
theorem bytesContains_calls (b : Nat) (s : List UInt8) (cc : Nat) (w : World) (hb : ∀ k, k < s.length → w.cell? ⟨b, k, none⟩ = some (.int .u8 ((s[k]?.getD 0).toNat : Int))) (hl : s.length ≤ 100000) :
    Calls Tryz.prog 174 #[.slice (some ⟨b, 0, none⟩) s.length cc, .func (.func 175) #[] #[]] w fun e w' => e = .returned (.bool (s.any badB)) ∧ w = w' := by
  have HI := Lib.hid (bytesIndex_calls b s cc w hb hl)
  clear hb
  go_enter Tryz.func174, Tryz.ntmps174
  go_wp2_with fail
  refine HI.out.mono ?_
  rintro e w3 ⟨z, rfl, hz, rfl⟩
  have HZ := Lib.hid hz
  clear hz
  go_wp2_with fail
  go_ret
  refine ⟨?_, rfl⟩
  show Ending.returned (.bool _) = _
  exact congrArg (fun b => Ending.returned (.bool b)) HZ.out
open Go in
theorem bytes_cells (w : World) (t : TypeId) (s : ByteArray) (cap : Nat) (x y : Nat) : ∀ k, k < (L s).length → (w.alloc (.cells (bytesRow s cap) t (x, y))).cell? ⟨w.heap.size, k, none⟩ = some (.int .u8 (((L s)[k]?.getD 0).toNat : Int)) := by
  intro k hk
  rw [cell_of_row _ w.heap.size k _ t (x, y) (heap_alloc_new w _), bytesRow_at s cap k (by simpa [L] using hk), List.getElem?_eq_getElem hk]
  rfl
set_option maxRecDepth 20000 in
set_option maxHeartbeats 1000000 in
theorem ubytes_calls (s : ByteArray) (w : World) (hs : s.size ≤ 100000) : Calls Tryz.prog 140 #[.string s] w fun e w' => e = .returned (.bool (!(L s).any badB)) ∧ Below w.heap.size w w' := by
  have hcv := run_bytes_of_string (P := Tryz.prog) w 9 162 5 s rfl rfl rfl
  have hsl := size_L s
  generalize grownCap w s.size 0 5 = cap at hcv
  rw [hsl] at hcv
  have HCC := Lib.hid (fun (hl : (L s).length ≤ 100000) => bytesContains_calls w.heap.size (L s) cap (w.drew.alloc (.cells (bytesRow s cap) 5 ((bytesRow s cap).size, (bytesRow s cap).size + 1))) (bytes_cells w.drew 5 s cap _ _) hl)
  have HL : Hid ((L s).length ≤ 100000) := by rw [Hid, ← hsl]; exact hs
  have HB : Hid (Below w.heap.size w (w.drew.alloc (.cells (bytesRow s cap) 5 ((bytesRow s cap).size, (bytesRow s cap).size + 1)))) := ((Below.refl w.heap.size w).drew).alloc (Nat.le_refl _) _
  clear hs hsl
  go_enter Tryz.func140, Tryz.ntmps140
  go_wp2_with fail
  refine (HCC.out HL.out).mono ?_
  rintro e w3 ⟨rfl, rfl⟩
  go_wp2_with fail
  go_ret
  exact ⟨rfl, HB.out⟩
set_option maxRecDepth 20000 in
set_option maxHeartbeats 1000000 in
theorem uhost_calls (s : ByteArray) (w : World) : Calls Tryz.prog 142 #[.string s] w fun e w' => e = .returned (.bool (hostF (L s))) ∧ Below w.heap.size w w' := by
  have HH : Hid (hostF (L s) = (decide (1 ≤ (L s).length) && decide ((L s).length ≤ 100) && !(L s).any hostB)) := rfl
  generalize hostF (L s) = H at *
  have hsl := size_L s
  by_cases h1 : 1 ≤ s.size
  · have h1i : (1 : Int) ≤ (s.size : Int) := by omega
    by_cases h2 : s.size ≤ 100
    · have h2i : (s.size : Int) ≤ 100 := by omega
      have HZ : Hid (H = !(L s).any hostB) := by rw [Hid, HH.out, decide_eq_true (by omega), decide_eq_true (by omega)]; rfl
      have hcv := run_bytes_of_string (P := Tryz.prog) w 9 162 5 s rfl rfl rfl
      generalize grownCap w s.size 0 5 = cap at hcv
      have HN : Hid (s.size = (L s).length) := hsl
      have hcc : ∀ (hl : (L s).length ≤ 100000), Calls Tryz.prog 174 #[.slice (some ⟨w.heap.size, 0, none⟩) s.size cap, .func (.func 177) #[] #[]] (w.drew.alloc (.cells (bytesRow s cap) 5 ((bytesRow s cap).size, (bytesRow s cap).size + 1))) fun e w' => e = .returned (.bool ((L s).any hostB)) ∧ (w.drew.alloc (.cells (bytesRow s cap) 5 ((bytesRow s cap).size, (bytesRow s cap).size + 1))) = w' := by
        intro hl
        rw [hsl]
        exact hostContains_calls w.heap.size (L s) cap _ (bytes_cells w.drew 5 s cap _ _) hl
      have HCC := Lib.hid (hcc (by omega))
      have HB : Hid (Below w.heap.size w (w.drew.alloc (.cells (bytesRow s cap) 5 ((bytesRow s cap).size, (bytesRow s cap).size + 1)))) := ((Below.refl w.heap.size w).drew).alloc (Nat.le_refl _) _
      clear hsl hcc HH h1 h2 HN
      go_enter Tryz.func142, Tryz.ntmps142
      go_wp2_with fail
      refine HCC.out.mono ?_
      rintro e w3 ⟨rfl, rfl⟩
      go_wp2_with fail
      go_ret
      exact ⟨ret_bool (by rw [HZ.out]), HB.out⟩
    · have h2i : ¬ (s.size : Int) ≤ 100 := by omega
      have HZ : Hid (H = false) := by rw [Hid, HH.out, decide_eq_true (show 1 ≤ (L s).length by omega), decide_eq_false (show ¬ (L s).length ≤ 100 by omega)]; rfl
      clear hsl HH h1 h2
      go_enter Tryz.func142, Tryz.ntmps142
      go_wp2_with fail
      go_ret
      exact ⟨ret_bool (by rw [HZ.out]), Below.refl _ _⟩
  · have h1i : ¬ (1 : Int) ≤ (s.size : Int) := by omega
    have HZ : Hid (H = false) := by rw [Hid, HH.out, decide_eq_false (show ¬ 1 ≤ (L s).length by omega)]; rfl
    clear hsl HH h1
    go_enter Tryz.func142, Tryz.ntmps142
    go_wp2_with fail
    go_ret
    exact ⟨ret_bool (by rw [HZ.out]), Below.refl _ _⟩
end Go.Proofs.YtijpfcjlochahaaGreatDoor
namespace Go.Proofs.YtijpfcjlochahaaGreatDoor
open Go Go.RowKit
set_option linter.unusedVariables false
set_option linter.unusedSimpArgs false

theorem lastF_append (c : UInt8) : ∀ a b : List UInt8, lastF c (a ++ b) = if lastF c b = 0 then lastF c a else a.length + lastF c b
  | [], b => by simp only [List.nil_append, List.length_nil, Nat.zero_add, lastF]; split <;> simp_all
  | x :: a, b => by
    rw [List.cons_append, lastF, lastF_append c a b, lastF, List.length_cons]
    by_cases h : lastF c b = 0
    · rw [if_pos h, if_pos h]
    · rw [if_neg h, if_neg h, if_neg (by omega)]; omega
theorem lastF_at {c : UInt8} {l : List UInt8} {i : Nat} (hi : i < l.length) (h0 : lastF c (l.drop (i + 1)) = 0) (h : l[i] = c) : lastF c l = i + 1 := by
  have e : l = l.take i ++ (l[i] :: l.drop (i + 1)) := by rw [← List.drop_eq_getElem_cons hi, List.take_append_drop]
  have h1 : lastF c (l[i] :: l.drop (i + 1)) = 1 := by rw [lastF, if_pos h0, if_pos h]
  rw [e, lastF_append, h1, if_neg (by omega), List.length_take]; omega
theorem lastF_not {c : UInt8} {l : List UInt8} {i : Nat} (hi : i < l.length) (h0 : lastF c (l.drop (i + 1)) = 0) (h : l[i] ≠ c) : lastF c (l.drop i) = 0 := by
  rw [List.drop_eq_getElem_cons hi, lastF, if_pos h0, if_neg h]
theorem lastF_le (c : UInt8) : ∀ l : List UInt8, lastF c l ≤ l.length
  | [] => Nat.le_refl _
  | x :: l => by
    have := lastF_le c l
    rw [lastF, List.length_cons]
    split
    · split <;> omega
    · omega
set_option maxRecDepth 20000 in
set_option maxHeartbeats 1000000 in
theorem lastByteS_calls (s : ByteArray) (c : UInt8) (w : World) (hs : s.size ≤ 1000000) :
    Calls Tryz.prog 170 #[.string s, .int .u8 c.toNat] w fun e w' => e = .returned (.int .i64 ((lastF c (L s) : Int) - 1)) ∧ w = w' := by
  have hsl := size_L s
  go_enter Tryz.func170, Tryz.ntmps170
  go_wp2_with fail
  go_loopw [5] (fun i wr => ∃ (k : Nat) (z : Int), k ≤ s.size ∧ z = (k : Int) - 1 ∧ i = .int .i64 z ∧ Hid (lastF c ((L s).drop k) = 0) ∧ Hid (wr = w))
     (fun i wr => (intOf i + 1).toNat)
  case atStart => exact ⟨s.size, _, Nat.le_refl _, rfl, rfl, by rw [Hid, hsl, List.drop_length]; rfl, rfl⟩
  case round =>
    obtain ⟨k, z, hk, hz, rfl, HO, HW⟩ := hrel
    obtain rfl := HW.out
    clear HW
    cases k with
    | zero =>
      have hz1 : z = -1 := by omega
      subst hz1
      clear hz
      go_wp2_with fail
      go_ret
      refine ⟨?_, rfl⟩
      have := HO.out
      rw [List.drop_zero] at this
      rw [this]
      rfl
    | succ j =>
      have hz1 : z = (j : Int) := by omega
      subst hz1
      clear hz
      have hj1 : (0 : Int) ≤ (j : Int) := by omega
      have hj2 : (j : Int) < (s.size : Int) := by omega
      have hj3 : j < s.size := by omega
      have hjl : j < (L s).length := by omega
      by_cases hc : s[j] = c
      · have hb : ((s[j].toNat : Int) == (c.toNat : Int)) = true := by rw [hc]; simp
        have HR : Hid (lastF c (L s) = j + 1) := lastF_at hjl HO.out (by rw [← getElem_L s j hj3]; exact hc)
        clear hc
        go_wp2_with fail
        go_ret
        refine ⟨?_, rfl⟩
        rw [HR.out]
        exact congrArg (fun x => Ending.returned (Value.int .i64 x)) (by omega)
      · have hb : ((s[j].toNat : Int) == (c.toNat : Int)) = false := by rw [beq_eq_false_iff_ne]; exact fun e => hc ((u8_eq _ _).2 e)
        have HR : Hid (lastF c ((L s).drop j) = 0) := lastF_not hjl HO.out (by rw [← getElem_L s j hj3]; exact hc)
        clear hc
        go_wp2_with fail
        go_roundw
        case rel => exact ⟨j, (j : Int) - 1, by omega, rfl, rfl, HR.out, (by first | exact trivial | exact rfl)⟩
        case measure => simp [intOf] <;> omega
set_option maxRecDepth 20000 in
set_option maxHeartbeats 1000000 in
theorem lastByte_calls (s : ByteArray) (c : UInt8) (w : World) (hs : s.size ≤ 1000000) :
    Calls Tryz.prog 137 #[.string s, .int .u8 c.toNat] w fun e w' => e = .returned (.int .i64 ((lastF c (L s) : Int) - 1)) ∧ w = w' := by
  go_enter Tryz.func137, Tryz.ntmps137
  go_wp2_with fail
  refine (lastByteS_calls s c w hs).mono ?_
  rintro e w2 ⟨rfl, rfl⟩
  go_wp2_with fail
  go_ret
  exact ⟨rfl, rfl⟩
/-- What CutPrefix answers. -/
def cutPre (s p : List UInt8) : List UInt8 × Bool := if Lib.hasPrefix s p then (s.drop p.length, true) else (s, false)
theorem hasPrefix_len {s p : List UInt8} (h : Lib.hasPrefix s p = true) : p.length ≤ s.length := by
  unfold Lib.hasPrefix at h
  exact (List.isPrefixOf_iff_prefix.1 h).length_le
set_option maxRecDepth 20000 in
set_option maxHeartbeats 1000000 in
theorem cutPrefixL_calls (s p : ByteArray) (w : World) :
    Calls Tryz.prog 209 #[.string s, .string p] w fun e w' => e = .returned (.tuple #[.string (bs (cutPre (L s) (L p)).1), .bool (cutPre (L s) (L p)).2]) ∧ w = w' := by
  have HC := Lib.hid (Tryz.stringslite_HasPrefix s p w)
  by_cases hp : Lib.hasPrefix s.data.toList p.data.toList = true
  · have hp : Lib.hasPrefix (L s) (L p) = true := hp
    have hl := hasPrefix_len hp
    have hl2 : p.size ≤ s.size := by rw [size_L, size_L]; exact hl
    have HV : Hid (cutPre (L s) (L p) = ((L s).drop p.size, true)) := by rw [Hid, cutPre, if_pos hp, size_L]
    have hp2 : Lib.hasPrefix s.data.toList p.data.toList = true := hp
    rw [hp2] at HC
    clear hp hp2 hl
    go_enter Tryz.func209, Tryz.ntmps209
    go_wp2_with fail
    refine HC.out.mono ?_
    rintro e w2 ⟨rfl, rfl⟩
    go_wp2_with fail
    go_ret2
    refine ⟨?_, rfl⟩
    rw [HV.out]
    refine congrArg (fun x => Ending.returned (Value.tuple #[Value.string x, .bool true])) (L_ext ?_)
    rw [L_bs, L_extract, size_L s, List.take_length]
  · rw [Bool.not_eq_true] at hp
    have HV : Hid (cutPre (L s) (L p) = (L s, false)) := by rw [Hid, cutPre, if_neg (by show ¬ Lib.hasPrefix s.data.toList p.data.toList = true; rw [hp]; simp)]
    rw [hp] at HC
    clear hp
    go_enter Tryz.func209, Tryz.ntmps209
    go_wp2_with fail
    refine HC.out.mono ?_
    rintro e w2 ⟨rfl, rfl⟩
    go_wp2_with fail
    go_ret2
    refine ⟨?_, rfl⟩
    rw [HV.out]
    exact congrArg (fun x => Ending.returned (Value.tuple #[Value.string x, .bool false])) (bs_L s).symm
set_option maxRecDepth 20000 in
set_option maxHeartbeats 1000000 in
theorem cutPrefix_calls (s p : ByteArray) (w : World) :
    Calls Tryz.prog 197 #[.string s, .string p] w fun e w' => e = .returned (.tuple #[.string (bs (cutPre (L s) (L p)).1), .bool (cutPre (L s) (L p)).2]) ∧ w = w' := by
  go_enter Tryz.func197, Tryz.ntmps197
  go_wp2_with fail
  refine (cutPrefixL_calls s p w).mono ?_
  rintro e w2 ⟨rfl, rfl⟩
  go_wp2_with fail
  go_ret2
  exact ⟨rfl, rfl⟩
/-- Bytes that lie in a block, and may be turned. -/
def Row8 (w : World) (g : Nat) (l : List UInt8) : Prop := ∀ k, k < l.length → w.cell? ⟨g, k, none⟩ = some (.int .u8 ((l[k]?.getD 0).toNat : Int)) ∧ w.frozen? ⟨g, k, none⟩ = false
theorem Row8.set {w : World} {g : Nat} {l : List UInt8} (h : Row8 w g l) (k : Nat) (hk : k < l.length) (c : UInt8) : Row8 (w.setCell ⟨g, k, none⟩ (.int .u8 (c.toNat : Int))) g (l.set k c) := by
  intro j hj
  rw [List.length_set] at hj
  refine ⟨?_, ?_⟩
  · by_cases e : k = j
    · subst e
      rw [World.cell?_setCell_same _ _ _ (h k hk).1, List.getElem?_set_self hk]
      rfl
    · rw [World.cell?_setCell_other _ _ _ _ (by first | (simp; done) | (simp; omega)), List.getElem?_set_ne e]
      exact (h j hj).1
  · rw [World.frozen?_setCell]
    exact (h j hj).2
theorem row8_new (w : World) (t : TypeId) (s : ByteArray) (cap : Nat) : Row8 (w.alloc (.cells (bytesRow s cap) t ((bytesRow s cap).size, (bytesRow s cap).size + 1))) w.heap.size (L s) := by
  intro k hk
  refine ⟨bytes_cells w t s cap _ _ k hk, ?_⟩
  have h := heap_alloc_new w (.cells (bytesRow s cap) t ((bytesRow s cap).size, (bytesRow s cap).size + 1))
  unfold World.frozen?
  rw [show (⟨w.heap.size, k, none⟩ : Addr).block = w.heap.size from rfl, h]
  have hz : k < (bytesRow s cap).size := by
    have e : (bytesRow s cap).size = s.data.size + (cap - s.size) := by simp [bytesRow]
    have h2 : k < s.data.size := by rw [show s.data.size = s.data.toList.length by simp]; exact hk
    omega
  show (decide ((bytesRow s cap).size ≤ k) && decide (k < (bytesRow s cap).size + 1)) = false
  rw [decide_eq_false (by omega)]
  rfl
theorem low_step (l : List UInt8) (k : Nat) (h : k < l.length) : (l.take (k + 1)).map lowB ++ l.drop (k + 1) = ((l.take k).map lowB ++ l.drop k).set k (lowB l[k]) := by
  have hl : ((l.take k).map lowB).length = k := by rw [List.length_map, List.length_take]; omega
  rw [List.set_append_right _ _ (by omega), hl, Nat.sub_self, List.drop_eq_getElem_cons h, List.set_cons_zero, List.take_succ_eq_append_getElem h, List.map_append]
  simp
theorem low_at (l : List UInt8) (k : Nat) (h : k < l.length) : ((l.take k).map lowB ++ l.drop k)[k]? = some l[k] := by
  have hl : ((l.take k).map lowB).length = k := by rw [List.length_map, List.length_take]; omega
  rw [List.getElem?_append_right (by omega), hl, Nat.sub_self, List.getElem?_drop, Nat.add_zero, List.getElem?_eq_getElem h]
theorem low_same (l : List UInt8) (k : Nat) (h : k < l.length) (hk : lowB l[k] = l[k]) : (l.take (k + 1)).map lowB ++ l.drop (k + 1) = (l.take k).map lowB ++ l.drop k := by
  rw [low_step l k h, hk]
  apply List.ext_getElem?
  intro i
  rw [List.getElem?_set]
  split
  · rename_i e
    subst e
    rw [low_at l k h]
    have hMl : ((l.take k).map lowB ++ l.drop k).length = l.length := by rw [List.length_append, List.length_map, List.length_take, List.length_drop]; omega
    rw [if_pos (by omega)]
  · rfl
set_option maxRecDepth 20000 in
set_option maxHeartbeats 2000000 in
theorem lower_calls (s : ByteArray) (w : World) (hs : s.size ≤ 1000000) : Calls Tryz.prog 133 #[.string s] w fun e w' => e = .returned (.string (bs (lowF (L s)))) ∧ Below w.heap.size w w' := by
  have hcv := run_bytes_of_string (P := Tryz.prog) w 9 162 5 s rfl rfl rfl
  have hsl := size_L s
  generalize grownCap w s.size 0 5 = cap at hcv
  rw [hsl] at hcv
  have HL : Hid ((L s).length ≤ 1000000) := by rw [Hid, ← hsl]; exact hs
  have HB : Hid (Below w.heap.size w (w.drew.alloc (.cells (bytesRow s cap) 5 ((bytesRow s cap).size, (bytesRow s cap).size + 1)))) := ((Below.refl w.heap.size w).drew).alloc (Nat.le_refl _) _
  have HR := Lib.hid (row8_new w.drew 5 s cap)
  clear hs hsl
  generalize L s = l at *
  generalize w.drew.alloc (.cells (bytesRow s cap) 5 ((bytesRow s cap).size, (bytesRow s cap).size + 1)) = w1 at *
  have hl1 : (l.length : Int) ≤ 1000000 := by have := HL.out; omega
  go_enter Tryz.func133, Tryz.ntmps133
  go_wp2_with fail
  go_loopw [4, 5, 10] (fun _ _ i wr => ∃ k : Nat, k ≤ l.length ∧ i = .int .i64 k ∧ Hid (Row8 wr w.heap.size ((l.take k).map lowB ++ l.drop k)) ∧ Hid (Below w.heap.size w wr))
     (fun _ _ i wr => l.length - (intOf i).toNat)
  case atStart => exact ⟨0, Nat.zero_le _, rfl, by rw [List.take_zero, List.drop_zero]; exact HR.out, HB.out⟩
  case round =>
    clear HB HR
    obtain ⟨k, hk, rfl, HR, HB⟩ := hrel
    by_cases hlt : k < l.length
    · have hk1 : (0 : Int) ≤ (k : Int) := by omega
      have hk2 : (k : Int) < (l.length : Int) := by omega
      have hll : ((l.take k).map lowB ++ l.drop k).length = l.length := by rw [List.length_append, List.length_map, List.length_take, List.length_drop]; omega
      obtain ⟨c0, f0⟩ := HR.out k (by omega)
      rw [low_at l k hlt, Option.getD_some] at c0
      have HST := Lib.hid (low_step l k hlt)
      have HSA := Lib.hid (low_same l k hlt)
      have HSE := Lib.hid (HR.out.set k (by omega) (lowB l[k]))
      have HLB : Hid (lowB l[k] = if 65 ≤ l[k].toNat ∧ l[k].toNat ≤ 90 then l[k] + 32 else l[k]) := rfl
      clear hll
      generalize l[k] = c at *
      by_cases hc : 65 ≤ c.toNat ∧ c.toNat ≤ 90
      · obtain ⟨q1, q2⟩ := hc
        have hv : (c.toNat : Int) + 97 - 65 = ((lowB c).toNat : Int) := by
          rw [HLB.out, if_pos ⟨q1, q2⟩, UInt8.toNat_add]
          show _ = (((c.toNat + 32) % 256 : Nat) : Int)
          omega
        have HV := Lib.hid hv
        have p1 : (65 : Int) ≤ (c.toNat : Int) := by omega
        have p2 : (c.toNat : Int) ≤ 90 := by omega
        clear hv q1 q2
        go_wp2_with fail
        go_roundw
        case rel =>
          refine ⟨k + 1, hlt, by go_num, ?_, ?_⟩
          · rw [HST.out, HV.out]
            exact HSE.out
          · exact HB.out.setCell (Nat.le_refl _) _
        case measure => simp [intOf]; omega
      · have HEQ : Hid (lowB c = c) := by rw [Hid, HLB.out, if_neg hc]
        have hc2 : (65 : Int) ≤ (c.toNat : Int) → ¬ (c.toNat : Int) ≤ 90 := by omega
        by_cases h65 : (65 : Int) ≤ (c.toNat : Int)
        · have h90 := hc2 h65
          clear hc hc2
          go_wp2_with fail
          go_roundw
          case rel => exact ⟨k + 1, hlt, by go_num, by rw [HSA.out HEQ.out]; exact HR.out, HB.out⟩
          case measure => simp [intOf]; omega
        · clear hc hc2
          go_wp2_with fail
          go_roundw
          case rel => exact ⟨k + 1, hlt, by go_num, by rw [HSA.out HEQ.out]; exact HR.out, HB.out⟩
          case measure => simp [intOf]; omega
    · have hkl : k = l.length := by omega
      subst hkl
      rw [List.take_length, List.drop_length, List.append_nil] at HR
      have hcv2 := run_convert_bytes_back (P := Tryz.prog) wr 162 9 5 ⟨w.heap.size, 0, none⟩ cap (l.map lowB) Tryz.underlying162 Tryz.underlying5 Tryz.underlying9 (fun j hj => by
        have hadd : (⟨w.heap.size, 0, none⟩ : Addr).add j = ⟨w.heap.size, j, none⟩ := by unfold Addr.add; split <;> simp_all
        rw [hadd, (HR.out j hj).1, List.getElem?_eq_getElem hj]; rfl)
      rw [List.length_map] at hcv2
      go_wp2_with fail
      go_ret
      exact ⟨rfl, HB.out⟩
set_option maxRecDepth 20000 in
set_option maxHeartbeats 1000000 in
theorem same_calls5 (a b : ByteArray) (w : World) (h1 : a.size ≤ 1000000) (h2 : b.size ≤ 1000000) : Calls Tryz.prog 81 #[.string a, .string b] w fun e w' => e = .returned (.bool (lowF (L a) == lowF (L b))) ∧ Below w.heap.size w w' := by
  have HA := Lib.hid h1
  have HB := Lib.hid h2
  clear h1 h2
  go_enter Tryz.func81, Tryz.ntmps81
  go_wp2_with fail
  refine (lower_calls a w HA.out).mono ?_
  rintro e w1 ⟨rfl, h1⟩
  have H1 := Lib.hid h1
  clear h1
  go_wp2_with fail
  refine (lower_calls b w1 HB.out).mono ?_
  rintro e w2 ⟨rfl, h2⟩
  have H2 := Lib.hid (H1.out.trans (h2.mono H1.out.size))
  clear h2
  go_wp2_with fail
  go_ret
  exact ⟨ret_bool (by rw [toList_bs, toList_bs]), H2.out⟩
/-! ### ReadDec -/
set_option maxRecDepth 20000 in
set_option maxHeartbeats 1000000 in
theorem dec1_calls (c : UInt8) (w : World) : Calls Tryz.prog 172 #[.int .u8 c.toNat] w fun e w' => e = .returned (.int .u64 (((c - 48).toNat : Nat) : Int)) ∧ w = w' := by
  have hv : (c - 48).toNat = (c.toNat + 208) % 256 := by rw [UInt8.toNat_sub]; show (256 - 48 + c.toNat) % 256 = _; omega
  have HV := Lib.hid hv
  have hc := UInt8.toNat_lt c
  by_cases h : 48 ≤ c.toNat
  · have h1 : (48 : Int) ≤ (c.toNat : Int) := by omega
    have hv2 : (((c - 48).toNat : Nat) : Int) = (c.toNat : Int) - 48 := by omega
    have HV2 := Lib.hid hv2
    clear hv hv2
    go_enter Tryz.func172, Tryz.ntmps172
    go_wp2_with fail
    go_ret
    exact ⟨by rw [HV2.out]; rfl, rfl⟩
  · have hw : IntKind.u8.wrap ((c.toNat : Int) - 48) = (c.toNat : Int) + 208 := by rw [IntKind.wrap_u8]; omega
    have hv2 : (((c - 48).toNat : Nat) : Int) = (c.toNat : Int) + 208 := by omega
    have HV2 := Lib.hid hv2
    clear hv hv2
    go_enter Tryz.func172, Tryz.ntmps172
    go_wp2_with fail
    go_ret
    exact ⟨by rw [HV2.out]; rfl, rfl⟩
theorem dig_sub (c : UInt8) : digB c = decide ((c - 48).toNat < 10) ∧ (digB c = true → (c - 48).toNat = c.toNat - 48) := by
  have hv : (c - 48).toNat = (c.toNat + 208) % 256 := by rw [UInt8.toNat_sub]; show (256 - 48 + c.toNat) % 256 = _; omega
  have hc := UInt8.toNat_lt c
  unfold digB
  rw [Bool.eq_iff_iff, Bool.and_eq_true, decide_eq_true_eq, decide_eq_true_eq, decide_eq_true_eq]
  constructor
  · omega
  · omega
theorem readLoop_cons (c : UInt8) (l : List UInt8) (n : Nat) (b : Bool) : readLoop (c :: l) n b = if digB c then (if n * 10 + (c.toNat - 48) ≤ 1099511627776 then readLoop l (n * 10 + (c.toNat - 48)) b else readLoop l 0 true) else none := rfl
set_option maxRecDepth 20000 in
set_option maxHeartbeats 2000000 in
theorem read10_calls (s : ByteArray) (w : World) (hs : s.size ≤ 1000000) : Calls Tryz.prog 171 #[.string s, .int .u64 10, .func (.func 172) #[] #[]] w fun e w' =>
    e = .returned (.tuple #[.int .u64 ((readDecF (L s)).1 : Int), .int .i64 (readDecF (L s)).2]) ∧ w = w' := by
  have hsl := size_L s
  by_cases h0 : s.size = 0
  · have HN : Hid (readDecF (L s) = (0, 10)) := by rw [Hid, readDecF, if_pos (List.eq_nil_of_length_eq_zero (by omega))]
    have he : s.toList.isEmpty = true := by rw [toList_L, List.eq_nil_of_length_eq_zero (show (L s).length = 0 by omega)]; rfl
    have he2 : s.toList = [] := by rw [toList_L]; exact List.eq_nil_of_length_eq_zero (by omega)
    clear hsl
    go_enter Tryz.func171, Tryz.ntmps171
    go_wp2_with fail
    go_ret2
    exact ⟨by rw [HN.out]; rfl, rfl⟩
  · have HN : Hid (readDecF (L s) = readRes (readLoop (L s) 0 false)) := by
      rw [Hid, readDecF, if_neg (fun e => h0 (by rw [hsl, e]; rfl))]
    have he : s.toList.isEmpty = false := by rw [toList_L]; cases h : L s with | nil => rw [h] at hsl; exact absurd hsl h0 | cons _ _ => rfl
    have he2 : ¬ s.toList = [] := by rw [toList_L]; intro e; rw [e] at hsl; exact h0 hsl
    have HSL := Lib.hid hsl
    clear hsl h0
    go_enter Tryz.func171, Tryz.ntmps171
    go_wp2_with fail
    go_loopw [8, 9, 10, 11, 17] (fun nv bv _ _ i wr => ∃ (k n : Nat) (b : Bool), k ≤ s.size ∧ i = .int .i64 k ∧ nv = .int .u64 n ∧ bv = .bool b ∧ n ≤ 1099511627776 ∧ Hid (readLoop (L s) 0 false = readLoop ((L s).drop k) n b) ∧ Hid (wr = w))
       (fun _ _ _ _ i wr => s.size - (intOf i).toNat)
    case atStart => exact ⟨0, 0, false, Nat.zero_le _, rfl, rfl, rfl, by omega, by rw [List.drop_zero]; rfl, rfl⟩
    case round =>
      obtain ⟨k, n, b, hk, rfl, rfl, rfl, hn, HO, HW⟩ := hrel
      obtain rfl := HW.out
      clear HW
      by_cases hlt : k < s.size
      · have hk1 : (0 : Int) ≤ (k : Int) := by omega
        have hk2 : (k : Int) < (s.size : Int) := by omega
        have HC : Hid (readLoop (L s) 0 false = if digB s[k] then (if n * 10 + (s[k].toNat - 48) ≤ 1099511627776 then readLoop ((L s).drop (k + 1)) (n * 10 + (s[k].toNat - 48)) b else readLoop ((L s).drop (k + 1)) 0 true) else none) := by
          rw [Hid, HO.out, List.drop_eq_getElem_cons (by rw [← size_L]; exact hlt), readLoop_cons, ← getElem_L s k hlt]
        obtain ⟨d1, d2⟩ := dig_sub s[k]
        have HD := Lib.hid (dec1_calls s[k])
        generalize (s[k] - 48).toNat = d at *
        cases hd : digB s[k] with
        | true =>
          have hd9 : d < 10 := by rw [hd] at d1; exact of_decide_eq_true d1.symm
          have hde := d2 hd
          have HC2 : Hid (readLoop (L s) 0 false = if n * 10 + d ≤ 1099511627776 then readLoop ((L s).drop (k + 1)) (n * 10 + d) b else readLoop ((L s).drop (k + 1)) 0 true) := by
            rw [Hid, HC.out, if_pos hd, hde]
          have hd10 : ¬ (10 : Int) ≤ (d : Int) := by omega
          clear hde d1 d2 hd HC HO
          by_cases hb : n * 10 + d ≤ 1099511627776
          · have HC3 : Hid (readLoop (L s) 0 false = readLoop ((L s).drop (k + 1)) (n * 10 + d) b) := by rw [Hid, HC2.out, if_pos hb]
            have hb2 : ¬ (1099511627776 : Int) < (n : Int) * 10 + (d : Int) := by omega
            clear HC2
            go_wp2_with fail
            refine (HD.out _).mono ?_
            rintro e w2 ⟨rfl, rfl⟩
            go_wp2_with fail
            go_roundw
            case rel => exact ⟨k + 1, n * 10 + d, b, hlt, by go_num, by go_num, rfl, hb, HC3.out, (by first | exact trivial | exact rfl)⟩
            case measure => simp [intOf]; omega
          · have HC3 : Hid (readLoop (L s) 0 false = readLoop ((L s).drop (k + 1)) 0 true) := by rw [Hid, HC2.out, if_neg hb]
            have hb2 : (1099511627776 : Int) < (n : Int) * 10 + (d : Int) := by omega
            clear HC2
            go_wp2_with fail
            refine (HD.out _).mono ?_
            rintro e w2 ⟨rfl, rfl⟩
            go_wp2_with fail
            go_roundw
            case rel => exact ⟨k + 1, 0, true, hlt, by go_num, rfl, rfl, by omega, HC3.out, (by first | exact trivial | exact rfl)⟩
            case measure => simp [intOf]; omega
        | false =>
          have hd10 : (10 : Int) ≤ (d : Int) := by rw [hd] at d1; have := of_decide_eq_false d1.symm; omega
          have HF : Hid (readDecF (L s) = (0, 10)) := by rw [Hid, HN.out, HC.out, if_neg (by rw [hd]; simp)]; rfl
          clear d1 d2 hd HC HO
          go_wp2_with fail
          refine (HD.out _).mono ?_
          rintro e w2 ⟨rfl, rfl⟩
          go_wp2_with fail
          go_ret2
          exact ⟨by rw [HF.out]; rfl, rfl⟩
      · have hkl : k = s.size := by omega
        have HF : Hid (readDecF (L s) = if b then (0, 2) else (n, 0)) := by
          rw [Hid, HN.out, HO.out, hkl, HSL.out, List.drop_length, readLoop]; rfl
        subst hkl
        clear HO
        cases b with
        | true =>
          go_wp2_with fail
          go_ret2
          exact ⟨by rw [HF.out]; rfl, rfl⟩
        | false =>
          go_wp2_with fail
          go_ret2
          exact ⟨by rw [HF.out]; rfl, rfl⟩
set_option maxRecDepth 20000 in
set_option maxHeartbeats 1000000 in
theorem readDec_calls (s : ByteArray) (w : World) (hs : s.size ≤ 1000000) : Calls Tryz.prog 138 #[.string s] w fun e w' =>
    e = .returned (.tuple #[.int .u64 ((readDecF (L s)).1 : Int), .int .i64 (readDecF (L s)).2]) ∧ w = w' := by
  go_enter Tryz.func138, Tryz.ntmps138
  go_wp2_with fail
  refine (read10_calls s w hs).mono ?_
  rintro e w2 ⟨rfl, rfl⟩
  go_wp2_with fail
  go_ret2
  exact ⟨rfl, rfl⟩
end Go.Proofs.YtijpfcjlochahaaGreatDoor
namespace Go.Proofs.YtijpfcjlochahaaGreatDoor
open Go Go.RowKit Go.Sort
set_option linter.unusedVariables false
set_option linter.unusedSimpArgs false

/-- What the library's variables hold, as far as this family asks: any length at bytealg.MaxLen, the powers of ten. -/
def Glob (W : World) : Prop := (∃ m, W.cell? ⟨0, 0, none⟩ = some (.int .i64 m)) ∧ Lib.TabIs Tryz.prog W "internal/strconv.uint64pow10" .u64 Lib.pow10Tab
theorem tab_below {w w' : World} {name : String} {k : IntKind} {zs : List Int} (h : Lib.TabIs Tryz.prog w name k zs) (hb : ∀ g, g < w.heap.size → Tryz.prog.globalNamed name = some g → w'.heap[g]? = w.heap[g]?) : Lib.TabIs Tryz.prog w' name k zs := by
  unfold Lib.TabIs World.var? at *
  cases hg : Tryz.prog.globalNamed name with
  | none => simp [hg] at h
  | some g =>
    have hlt : g < w.heap.size := by
      rcases Nat.lt_or_ge g w.heap.size with h1 | h1
      · exact h1
      · rw [hg] at h
        simp [Array.getElem?_eq_none h1] at h
    rw [hg] at h
    simp only [Option.bind_some, hb g hlt hg]
    exact h
theorem Glob.below {w w' : World} (h : Glob w) (hb : Below w.heap.size w w') : Glob w' := by
  obtain ⟨⟨m, h1⟩, h2⟩ := h
  exact ⟨⟨m, (hb.cell (p := ⟨0, 0, none⟩) (World.block_lt_of_cell? w _ h1)).trans h1⟩, tab_below h2 fun g hg _ => hb.block g hg⟩
set_option maxRecDepth 100000 in
set_option maxHeartbeats 4000000 in
theorem formatUint_calls (u : Nat) (hu : u < 18446744073709551616) (w : World) (htab : Lib.TabIs Tryz.prog w "internal/strconv.uint64pow10" .u64 Lib.pow10Tab) :
    Calls Tryz.prog 204 #[.int .u64 u, .int .i64 10] w fun e w' => e = .returned (.string (bs (Lib.decDigits u))) ∧ Below w.heap.size w w' := by
  by_cases hs : u < 100
  · have h1 : (u : Int) < 100 := by omega
    go_enter Tryz.func204, Tryz.ntmps204
    go_wp2_with fail
    refine (Tryz.internal_strconv_small u hs w).mono ?_
    rintro e w2 ⟨rfl, rfl⟩
    go_wp2_with fail
    go_ret
    exact ⟨rfl, Below.refl _ _⟩
  · have h1 : ¬ (u : Int) < 100 := by omega
    have hu1 : 1 ≤ u := by omega
    have hnd20 : Lib.nDigits u ≤ 20 := by have := Lib.numDigits_eq u hu1 hu; split at this <;> omega
    have hal : Tryz.prog.arrayLen 253 = 24 := by kernel_rfl
    have hsl1 : ∀ W, (Instr.sliceAt 253 (.pointer (some ⟨w.heap.size, 0, none⟩)) none (some (.int .i64 (Lib.nDigits u : Int))) none).run Tryz.prog W = .ok (.slice (some ⟨w.heap.size, 0, none⟩) (Lib.nDigits u) 24) W := fun W => by
      rw [run_sliceAt_array_h W 253 ⟨w.heap.size, 0, none⟩ (by kernel_rfl) .i64 (Lib.nDigits u : Int) (by omega) (by rw [hal]; omega)]
      go_simp
    have hH0 : Holds (fun (b : UInt8) => Value.int .u8 (b.toNat : Int)) (w.alloc (.cells Lib.zeros24 253)) w.heap.size 0 (Array.replicate (Lib.nDigits u) (0 : UInt8)) := fun j hj => by
      have hj' : j < Lib.nDigits u := by simpa using hj
      refine ⟨?_, World.frozen?_alloc_new _ _ _ _⟩
      rw [World.cell?_alloc_new, Lib.zeros24_at _ (by omega), getElem!_pos _ j hj]
      simp
    have hfmt := Tryz.internal_strconv_formatBase10 w.heap.size 0 24 u (Array.replicate (Lib.nDigits u) 0) (w.alloc (.cells Lib.zeros24 253)) hH0 (by rw [Array.size_replicate]; exact Lib.lt_pow_nDigits u) hu (by rw [Array.size_replicate]; omega)
    rw [Array.size_replicate] at hfmt
    have HH0 := Lib.hid hH0
    have HF := Lib.hid hfmt
    have HT := Lib.hid (Lib.tabIs_alloc htab (.cells Lib.zeros24 253))
    clear hH0 hal hfmt htab
    go_enter Tryz.func204, Tryz.ntmps204
    go_wp2_with fail
    refine (Tryz.internal_strconv_numDigits u hu1 hu _ HT.out).mono ?_
    rintro e w' ⟨rfl, rfl⟩
    go_wp2_with fail
    refine HF.out.mono ?_
    rintro e w' ⟨rfl, k, v', dk, rfl, hF⟩
    have HFF := Lib.hid hF
    have hcv : (convert 162 9 (.slice (some ⟨w.heap.size, 0, none⟩) (Lib.nDigits u) 24)).run Tryz.prog ((putRow (fun (b : UInt8) => Value.int .u8 (b.toNat : Int)) (w.alloc (.cells Lib.zeros24 253)) w.heap.size 0 dk).drewN k) = .ok (.string ⟨(Lib.decDigits u).toArray⟩) ((putRow (fun (b : UInt8) => Value.int .u8 (b.toNat : Int)) (w.alloc (.cells Lib.zeros24 253)) w.heap.size 0 dk).drewN k) := by
      have h := run_convert_bytes_back (P := Tryz.prog) ((putRow (fun (b : UInt8) => Value.int .u8 (b.toNat : Int)) (w.alloc (.cells Lib.zeros24 253)) w.heap.size 0 dk).drewN k) 162 9 5 ⟨w.heap.size, 0, none⟩ 24 (Lib.decDigits u) Tryz.underlying162 Tryz.underlying5 Tryz.underlying9 (fun j hj => by
        rw [Lib.row_is_numeral hF j hj, Lib.add_plain, World.cell?_drewN]
        exact cell?_putRow (fun (b : UInt8) => Value.int .u8 (b.toNat : Int)) _ w.heap.size 0 _ dk HH0.out (by rw [hF.size, Array.size_replicate]) j (by rw [hF.size]; rw [Lib.decDigits_length] at hj; exact hj))
      rw [Lib.decDigits_length] at h
      exact h
    clear hF
    generalize hW : (putRow (fun (b : UInt8) => Value.int .u8 (b.toNat : Int)) (w.alloc (.cells Lib.zeros24 253)) w.heap.size 0 dk).drewN k = W at *
    have HW := Lib.hid hW
    clear hW
    go_wp2_with fail
    go_ret
    refine ⟨rfl, ?_⟩
    rw [← HW.out]
    obtain ⟨os', _, e⟩ := putRow_grow_new (fun (b : UInt8) => Value.int .u8 (b.toNat : Int)) w #[.cells Lib.zeros24 253] w.heap.size 0 dk (Nat.le_refl _)
    rw [alloc_eq_grow, e]
    exact Lib.below_grow _ w (Nat.le_refl _) k os'
set_option maxRecDepth 20000 in
set_option maxHeartbeats 1000000 in
theorem dec_calls (u : Nat) (hu : u < 18446744073709551616) (w : World) (hg : Glob w) : Calls Tryz.prog 176 #[.int .u64 u] w fun e w' => e = .returned (.string (bs (Lib.decDigits u))) ∧ Below w.heap.size w w' := by
  have HG := Lib.hid hg
  clear hg
  have hf : ∀ w : World, Glob w → Calls Tryz.prog 191 #[.int .u64 u, .int .i64 10] w fun e w' => e = .returned (.string (bs (Lib.decDigits u))) ∧ Below w.heap.size w w' := by
    intro w hg
    have HG := Lib.hid hg
    clear hg
    go_enter Tryz.func191, Tryz.ntmps191
    go_wp2_with fail
    refine (formatUint_calls u hu w HG.out.2).mono ?_
    rintro e w2 ⟨rfl, h2⟩
    have H2 := Lib.hid h2
    clear h2
    go_wp2_with fail
    go_ret
    exact ⟨rfl, H2.out⟩
  have HF := Lib.hid hf
  clear hf
  go_enter Tryz.func176, Tryz.ntmps176
  go_wp2_with fail
  refine (HF.out w HG.out).mono ?_
  rintro e w2 ⟨rfl, h2⟩
  have H2 := Lib.hid h2
  clear h2
  go_wp2_with fail
  go_ret
  exact ⟨rfl, H2.out⟩
/-- An address's cells. -/
def uCells (u : UriD) : Array Value := #[.bool u.abs, .string (bs u.host), .int .i64 u.port, .string (bs u.path), .bool u.asks, .string (bs u.query)]
theorem dec_len {n : Nat} (h : n ≤ 1099511627776) : (Lib.decDigits n).length ≤ 20 := by
  rw [Lib.decDigits_length]
  by_cases h0 : n = 0
  · subst h0; rw [Lib.nDigits_small (by omega)]; omega
  · have := Lib.numDigits_eq n (by omega) (by omega)
    split at this <;> omega
theorem bs_toL (l : List UInt8) : (bs l).data.toList = l := L_bs l
set_option maxRecDepth 20000 in
set_option maxHeartbeats 4000000 in
theorem uwrite_calls (u : UriD) (hs : u.small) (hp : 0 ≤ u.port) (w : World) (hg : Glob w) :
    Calls Tryz.prog 141 #[u.val] w fun e w' => e = .returned (.string (bs (writeF u))) ∧ Below w.heap.size w w' := by
  obtain ⟨abs, host, port, path, asks, query⟩ := u
  obtain ⟨h1, h2, h3, -, h5⟩ := hs
  simp only at h1 h2 h3 h5 hp
  show Calls Tryz.prog 141 #[.agg #[.bool abs, .string (bs host), .int .i64 port, .string (bs path), .bool asks, .string (bs query)]] w _
  have HB := Lib.hid ((Below.refl w.heap.size w).alloc (Nat.le_refl _) (.cells #[.bool abs, .string (bs host), .int .i64 port, .string (bs path), .bool asks, .string (bs query)] 94))
  have z1 : (⟨#[104, 116, 116, 112, 58, 47, 47]⟩ : ByteArray).size = 7 := rfl
  have z2 : (⟨#[63]⟩ : ByteArray).size = 1 := rfl
  have z3 : (⟨#[]⟩ : ByteArray).size = 0 := rfl
  have z4 : (⟨#[58]⟩ : ByteArray).size = 1 := rfl
  have y1 : (bs host).size ≤ 100000 := by rw [size_bs]; exact h1
  have y2 : (bs path).size ≤ 100000 := by rw [size_bs]; exact h2
  have y3 : (bs query).size ≤ 100000 := by rw [size_bs]; exact h3
  have q1 : (⟨#[104, 116, 116, 112, 58, 47, 47]⟩ : ByteArray).size + (bs host).size ≤ 1000000 := by omega
  have q2 : (⟨#[63]⟩ : ByteArray).size + (bs query).size ≤ 1000000 := by omega
  have q4 : (⟨#[]⟩ : ByteArray).size + (bs path).size ≤ 1000000 := by omega
  have q6 : ((⟨#[]⟩ : ByteArray) ++ (bs path)).size + ((⟨#[63]⟩ : ByteArray) ++ (bs query)).size ≤ 1000000 := by rw [ByteArray.size_append, ByteArray.size_append]; omega
  have q7 : (bs path).size + ((⟨#[63]⟩ : ByteArray) ++ (bs query)).size ≤ 1000000 := by rw [ByteArray.size_append]; omega
  by_cases hp0 : port = 0
  · subst hp0
    have q3 : ((⟨#[104, 116, 116, 112, 58, 47, 47]⟩ : ByteArray) ++ (bs host)).size + (bs path).size ≤ 1000000 := by rw [ByteArray.size_append]; omega
    have q5 : ((⟨#[104, 116, 116, 112, 58, 47, 47]⟩ : ByteArray) ++ (bs host) ++ (bs path)).size + ((⟨#[63]⟩ : ByteArray) ++ (bs query)).size ≤ 1000000 := by rw [ByteArray.size_append, ByteArray.size_append, ByteArray.size_append]; omega
    clear z1 z2 z3 z4 y1 y2 y3 h1 h2 h3 h5 hp hg
    cases abs <;> cases asks
    all_goals
      go_enter Tryz.func141, Tryz.ntmps141
      go_wp2_with fail
      go_ret
      refine ⟨?_, HB.out⟩
      refine congrArg (fun x => Ending.returned (Value.string x)) (L_ext ?_)
      rw [L_bs]
      simp [writeF, schemeB, portF, L, bs]
  · cases abs with
    | false =>
      clear z1 z2 z3 z4 y1 y2 y3 h1 h2 h3 h5 hp hg
      cases asks
      all_goals
        go_enter Tryz.func141, Tryz.ntmps141
        go_wp2_with fail
        go_ret
        refine ⟨?_, HB.out⟩
        refine congrArg (fun x => Ending.returned (Value.string x)) (L_ext ?_)
        rw [L_bs]
        simp [writeF, schemeB, portF, L, bs]
    | true =>
      have b0 : (port != 0) = true := by rw [bne_iff_ne]; exact hp0
      obtain ⟨n, rfl⟩ : ∃ n : Nat, port = n := ⟨port.toNat, by omega⟩
      have hd := dec_len (n := n) (by omega)
      have HPF : Hid (portF (n : Int) = 58 :: Lib.decDigits n) := by rw [Hid, portF, if_neg hp0]; rfl
      have HGW := Lib.hid (hg.below HB.out)
      have HDC := Lib.hid (dec_calls n (by omega))
      have y4 : (bs (Lib.decDigits n)).size ≤ 20 := by rw [size_bs]; exact hd
      have q3 : (⟨#[58]⟩ : ByteArray).size + (bs (Lib.decDigits n)).size ≤ 1000000 := by omega
      have q5 : ((⟨#[104, 116, 116, 112, 58, 47, 47]⟩ : ByteArray) ++ (bs host)).size + ((⟨#[58]⟩ : ByteArray) ++ (bs (Lib.decDigits n))).size ≤ 1000000 := by rw [ByteArray.size_append, ByteArray.size_append]; omega
      have q8 : ((⟨#[104, 116, 116, 112, 58, 47, 47]⟩ : ByteArray) ++ (bs host) ++ ((⟨#[58]⟩ : ByteArray) ++ (bs (Lib.decDigits n)))).size + (bs path).size ≤ 1000000 := by rw [ByteArray.size_append, ByteArray.size_append, ByteArray.size_append]; omega
      have q9 : ((⟨#[104, 116, 116, 112, 58, 47, 47]⟩ : ByteArray) ++ (bs host) ++ ((⟨#[58]⟩ : ByteArray) ++ (bs (Lib.decDigits n))) ++ (bs path)).size + ((⟨#[63]⟩ : ByteArray) ++ (bs query)).size ≤ 1000000 := by rw [ByteArray.size_append, ByteArray.size_append, ByteArray.size_append, ByteArray.size_append, ByteArray.size_append]; omega
      have hw : IntKind.u64.wrap (n : Int) = (n : Int) := by rw [IntKind.wrap_u64]; omega
      have HX := Lib.hid (Blk.new w 94 #[.bool true, .string (bs host), .int .i64 (n : Int), .string (bs path), .bool asks, .string (bs query)])
      clear z1 z2 z3 z4 y1 y2 y3 y4 h1 h2 h3 h5 hp hg hd hp0
      cases asks
      all_goals
        go_enter Tryz.func141, Tryz.ntmps141
        go_wp2_with fail
        refine (HDC.out _ HGW.out).mono ?_
        rintro e w2 ⟨rfl, hb2⟩
        have HX2 := Lib.hid (HX.out.below hb2 HX.out.lt)
        have HB2 := Lib.hid (HB.out.trans (hb2.mono HB.out.size))
        have x3 := HX2.out.cell 3
        have x4 := HX2.out.cell 4
        have x5 := HX2.out.cell 5
        clear hb2
        go_wp2_with fail
        go_ret
        refine ⟨?_, HB2.out⟩
        refine congrArg (fun x => Ending.returned (Value.string x)) (L_ext ?_)
        rw [L_bs, writeF]
        simp only [HPF.out]
        simp [schemeB, L, bs]
end Go.Proofs.YtijpfcjlochahaaGreatDoor
