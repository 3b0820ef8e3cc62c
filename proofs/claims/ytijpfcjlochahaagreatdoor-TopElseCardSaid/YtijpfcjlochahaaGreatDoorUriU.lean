/- The walk of uri.Clean. The walks of uri's Print and Resolve. The walks of uri.Parse at texts of plain bytes, and of eval's address. -/
import Derived.Test.YtijpfcjlochahaaGreatDoorUriP
import Derived.Deep.LoopGhost
import Derived.Test.YtijpfcjlochahaaGreatDoorAsk
import Derived.Deep.CutBlock
import Derived.BigRegion
import Derived.Test.YtijpfcjlochahaaGreatDoorUriS
set_option linter.unusedVariables false
set_option linter.unusedSimpArgs false
namespace Go.Proofs.YtijpfcjlochahaaGreatDoor
open Go Go.RowKit
set_option linter.unusedVariables false
set_option linter.unusedSimpArgs false

theorem pre_len {p q : List UInt8} (h : Lib.hasPrefix p q = true) : q.length ≤ p.length := hasPrefix_len h
theorem trim_le (a q : List UInt8) : (Lib.trimPrefix a q).length ≤ a.length := by
  unfold Lib.trimPrefix
  split
  · rw [List.length_drop]; omega
  · exact Nat.le_refl _
theorem indexByte_ge (l : List UInt8) (c : UInt8) : -1 ≤ Lib.indexByte l c := by
  induction l with
  | nil => simp [Lib.indexByte]
  | cons b l ih =>
    unfold Lib.indexByte
    split
    · omega
    · split <;> omega
theorem indexByte_lt (l : List UInt8) (c : UInt8) : Lib.indexByte l c < l.length := by
  induction l with
  | nil => simp [Lib.indexByte]
  | cons b l ih =>
    unfold Lib.indexByte
    rw [List.length_cons]
    split
    · omega
    · split <;> omega
theorem str_is {p q : List UInt8} (h : p = q) : ((bs p).toList == q) = true ∧ (bs p).toList = q := by rw [toList_bs, h]; simp
theorem str_isn {p q : List UInt8} (h : ¬ p = q) : ((bs p).toList == q) = false ∧ ¬ (bs p).toList = q := by rw [toList_bs, beq_eq_false_iff_ne]; exact ⟨h, h⟩
theorem drop_bs (p : List UInt8) (k : Nat) : (bs p).extract k (bs p).size = bs (p.drop k) := by rw [extract_bs, size_bs, List.take_length]
theorem take_bs (p : List UInt8) (k : Nat) : (bs p).extract 0 k = bs (p.take k) := by rw [extract_bs, List.drop_zero]
theorem cleanLoop_succ (n : Nat) (p out : List UInt8) (h : p ≠ []) : cleanLoop (n + 1) p out = cleanLoop n (cleanStep p out).1 (cleanStep p out).2 := by rw [cleanLoop, if_neg h]
theorem cleanLoop_nil (n : Nat) (out : List UInt8) : cleanLoop n [] out = out := by cases n <;> simp [cleanLoop]
theorem clean_def (p out : List UInt8) : cleanStep p out = if Lib.hasPrefix p [46, 46, 47] then (p.drop 3, out)
  else if Lib.hasPrefix p [46, 47] then (p.drop 2, out)
  else if Lib.hasPrefix p [47, 46, 47] then (p.drop 2, out)
  else if p = [47, 46] then ([47], out)
  else if Lib.hasPrefix p [47, 46, 46, 47] || p == [47, 46, 46] then (47 :: Lib.trimPrefix (p.drop 3) [47], out.take (lastF 47 out - 1))
  else if p = [46] ∨ p = [46, 46] then ([], out)
  else if Lib.indexByte (p.drop 1) 47 + 1 = 0 then ([], out ++ p)
  else (p.drop (Lib.indexByte (p.drop 1) 47 + 1).toNat, out ++ p.take (Lib.indexByte (p.drop 1) 47 + 1).toNat) := rfl
set_option maxRecDepth 20000 in
set_option maxHeartbeats 16000000 in
theorem clean_calls (p0 : List UInt8) (w : World) (hp : p0.length ≤ 100000) :
    Calls Tryz.prog 222 #[.string (bs p0)] w fun e w' => e = .returned (.string (bs (cleanF p0))) ∧ Below w.heap.size w w' := by
  have HR0 : Hid (cleanF p0 = cleanLoop p0.length p0 []) := rfl
  generalize cleanF p0 = R at *
  go_enter Tryz.func222, Tryz.ntmps222
  go_wp2
  go_step3
  go_wp2
  go_step3
  go_wp2
  go_loopg [0, 3] p0.length (fun g pv ov wr => ∃ p out : List UInt8, pv = .string (bs p) ∧ ov = .string (bs out) ∧ p.length ≤ g ∧ Hid (R = cleanLoop g p out) ∧ p.length + out.length ≤ 100000 ∧ Hid (Below w.heap.size w wr))
  case atStart => exact ⟨p0, [], rfl, rfl, Nat.le_refl _, HR0.out, by simpa using hp, Below.refl _ _⟩
  case round =>
    clear HR0 hp
    obtain ⟨p, out, rfl, rfl, hpg, HR, hpo, HB⟩ := hrel
    by_cases hp0 : p = []
    · subst hp0
      have HR2 : Hid (R = out) := by rw [Hid, HR.out, cleanLoop_nil]
      have e1 : (bs []).toList = [] := by rw [toList_bs]
      have e2 : (bs []).toList.isEmpty = true := by rw [e1]; rfl
      clear HR
      go_wp2_with fail
      try rw [Exit.noGoto_ret]
      go_ret
      exact ⟨by rw [HR2.out]; rfl, HB.out⟩
    · obtain ⟨g, rfl⟩ : ∃ g, gk = g + 1 := ⟨gk - 1, by have := List.length_pos_iff.2 hp0; omega⟩
      have HR2 : Hid (R = cleanLoop g (cleanStep p out).1 (cleanStep p out).2) := by rw [Hid, HR.out, cleanLoop_succ g p out hp0]
      have e1 : ¬ (bs p).toList = [] := by rw [toList_bs]; exact hp0
      have e2 : (bs p).toList.isEmpty = false := by rw [toList_bs]; cases p with | nil => exact absurd rfl hp0 | cons _ _ => rfl
      have hpl : 0 < p.length := List.length_pos_iff.2 hp0
      have hsz := size_bs p
      have hso := size_bs out
      clear HR hp0
      obtain ⟨wo, rfl⟩ : ∃ wo : World, wo = wr := ⟨_, rfl⟩
      have hal : Below wo.heap.size wo (wo.alloc (.cells #[.string ⟨#[46, 46, 47]⟩, .string ⟨#[46, 47]⟩] 9)) := (Below.refl _ _).alloc (Nat.le_refl _) _
      have hbl := Blk.new wo 9 #[.string ⟨#[46, 46, 47]⟩, .string ⟨#[46, 47]⟩]
      have hb5 := HB.out.trans (hal.mono HB.out.size)
      obtain ⟨w5, hw5⟩ : ∃ w5, w5 = wo.alloc (.cells #[.string ⟨#[46, 46, 47]⟩, .string ⟨#[46, 47]⟩] 9) := ⟨_, rfl⟩
      rw [← hw5] at hbl hb5
      have HB5 := Lib.hid hb5
      have HX := Lib.hid hbl
      have HW5 := Lib.hid hw5
      clear hal hbl HB hb5 hw5
      have HCD := Lib.hid (clean_def p out)
      have HPL : Hid (p.length ≤ g + 1 ∧ p.length + out.length ≤ 100000) := ⟨hpg, hpo⟩
      go_wp2_with fail
      go_loopg [0, 13] 2 (fun g2 pv jv wx => ∃ j : Nat, j + g2 = 2 ∧ pv = .string (bs p) ∧ jv = .int .i64 j ∧ Hid (1 ≤ j → Lib.hasPrefix p [46, 46, 47] = false) ∧ Hid (2 ≤ j → Lib.hasPrefix p [46, 47] = false) ∧
        wx = w5)
      case atStart => exact ⟨0, rfl, rfl, rfl, fun h => by omega, fun h => by omega, HW5.out.symm⟩
      case round =>
        obtain ⟨j, hj, rfl, rfl, H1, H2, hwx⟩ := hrel
        have x0 := HX.out.cell 0
        have x1 := HX.out.cell 1
        subst hwx
        obtain ⟨wi, rfl⟩ : ∃ wi : World, wi = wr := ⟨_, rfl⟩
        clear HX e1 e2 HW5
        have hj3 : j = 0 ∨ j = 1 ∨ j = 2 := by omega
        rcases hj3 with rfl | rfl | rfl
        · clear H1 H2 x1
          go_wp2_with fail
          refine (cutPrefix_calls (bs p) ⟨#[46, 46, 47]⟩ wi).mono ?_
          rintro e w2 ⟨rfl, rfl⟩
          rw [L_bs, show L ⟨#[46, 46, 47]⟩ = [46, 46, 47] from rfl]
          unfold cutPre
          cases hq : Lib.hasPrefix p [46, 46, 47] with
          | true =>
            have hl3 := pre_len hq
            rw [List.length_cons, List.length_cons, List.length_cons, List.length_nil] at hl3
            have HS : Hid (cleanStep p out = (p.drop 3, out)) := by rw [Hid, HCD.out, if_pos hq]
            have HL : Hid ((p.drop 3).length ≤ g) := by rw [Hid, List.length_drop]; omega
            have HT : Hid ((p.drop 3).length + out.length ≤ 100000) := by rw [Hid, List.length_drop]; omega
            go_wp2_with fail
            go_roundg g
            case measure => omega
            case rel => exact ⟨_, _, rfl, rfl, by have := HL.out; omega, by rw [Hid, HR2.out, HS.out], by have := HL.out; have := HT.out; omega, HB5.out⟩
          | false =>
            go_wp2_with fail
            go_roundg 1
            case measure => omega
            case rel => exact ⟨1, rfl, rfl, by go_num, fun _ => hq, fun h => by omega, by first | exact trivial | rfl⟩
        · have hn1 := H1.out (by omega)
          clear H1 H2 x0
          go_wp2_with fail
          refine (cutPrefix_calls (bs p) ⟨#[46, 47]⟩ wi).mono ?_
          rintro e w2 ⟨rfl, rfl⟩
          rw [L_bs, show L ⟨#[46, 47]⟩ = [46, 47] from rfl]
          unfold cutPre
          cases hq : Lib.hasPrefix p [46, 47] with
          | true =>
            have hl3 := pre_len hq
            rw [List.length_cons, List.length_cons, List.length_nil] at hl3
            have HS : Hid (cleanStep p out = (p.drop 2, out)) := by rw [Hid, HCD.out, if_neg (by rw [hn1]; simp), if_pos hq]
            have HL : Hid ((p.drop 2).length ≤ g) := by rw [Hid, List.length_drop]; omega
            have HT : Hid ((p.drop 2).length + out.length ≤ 100000) := by rw [Hid, List.length_drop]; omega
            go_wp2_with fail
            go_roundg g
            case measure => omega
            case rel => exact ⟨_, _, rfl, rfl, by have := HL.out; omega, by rw [Hid, HR2.out, HS.out], by have := HL.out; have := HT.out; omega, HB5.out⟩
          | false =>
            go_wp2_with fail
            go_roundg 0
            case measure => omega
            case rel => exact ⟨2, rfl, rfl, by go_num, fun _ => hn1, fun _ => hq, by first | exact trivial | rfl⟩
        · have hn1 := H1.out (by omega)
          have hn2 := H2.out (by omega)
          have HCD2 : Hid (cleanStep p out = if Lib.hasPrefix p [47, 46, 47] then (p.drop 2, out)
            else if p = [47, 46] then ([47], out)
            else if Lib.hasPrefix p [47, 46, 46, 47] || p == [47, 46, 46] then (47 :: Lib.trimPrefix (p.drop 3) [47], out.take (lastF 47 out - 1))
            else if p = [46] ∨ p = [46, 46] then ([], out)
            else if Lib.indexByte (p.drop 1) 47 + 1 = 0 then ([], out ++ p)
            else (p.drop (Lib.indexByte (p.drop 1) 47 + 1).toNat, out ++ p.take (Lib.indexByte (p.drop 1) 47 + 1).toNat)) := by
            rw [Hid, HCD.out, if_neg (by rw [hn1]; simp), if_neg (by rw [hn2]; simp)]
          clear H1 H2 x0 x1 HCD
          go_wp2_with fail
          refine (Tryz.strings_HasPrefix (bs p) ⟨#[47, 46, 47]⟩ wi).mono ?_
          rintro e w2 ⟨rfl, hw2⟩
          have hw2 := hw2.symm
          subst hw2
          rw [bs_toL, show (⟨#[47, 46, 47]⟩ : ByteArray).data.toList = [47, 46, 47] from rfl]
          have hd2 := drop_bs p 2
          cases hq3 : Lib.hasPrefix p [47, 46, 47] with
          | true =>
            have hl3 := pre_len hq3
            rw [List.length_cons, List.length_cons, List.length_cons, List.length_nil] at hl3
            have h2s : (2 : Int) ≤ ((bs p).size : Int) := by omega
            have HS : Hid (cleanStep p out = (p.drop 2, out)) := by rw [Hid, HCD2.out, if_pos hq3]
            have HL : Hid ((p.drop 2).length ≤ g) := by rw [Hid, List.length_drop]; omega
            have HT : Hid ((p.drop 2).length + out.length ≤ 100000) := by rw [Hid, List.length_drop]; omega
            have HD2 := Lib.hid hd2
            clear hd2
            go_wp2_with fail
            go_roundg g
            case measure => omega
            case rel => exact ⟨_, _, congrArg Value.string HD2.out, rfl, by have := HL.out; omega, by rw [Hid, HR2.out, HS.out], by have := HL.out; have := HT.out; omega, HB5.out⟩
          | false =>
            have HCD3 : Hid (cleanStep p out = if p = [47, 46] then ([47], out)
              else if Lib.hasPrefix p [47, 46, 46, 47] || p == [47, 46, 46] then (47 :: Lib.trimPrefix (p.drop 3) [47], out.take (lastF 47 out - 1))
              else if p = [46] ∨ p = [46, 46] then ([], out)
              else if Lib.indexByte (p.drop 1) 47 + 1 = 0 then ([], out ++ p)
              else (p.drop (Lib.indexByte (p.drop 1) 47 + 1).toNat, out ++ p.take (Lib.indexByte (p.drop 1) 47 + 1).toNat)) := by
              rw [Hid, HCD2.out, if_neg (by rw [hq3]; simp)]
            clear HCD2 hd2 hn1 hn2
            by_cases hq4 : p = [47, 46]
            · have hl4 : p.length = 2 := by rw [hq4]; rfl
              obtain ⟨e1, e2⟩ := str_is hq4
              have HS : Hid (cleanStep p out = ([47], out)) := by rw [Hid, HCD3.out, if_pos hq4]
              have HL : Hid (([47] : List UInt8).length ≤ g) := by rw [Hid, List.length_singleton]; omega
              have HT : Hid (([47] : List UInt8).length + out.length ≤ 100000) := by rw [Hid, List.length_singleton]; omega
              clear hq4
              go_wp2_with fail
              go_roundg g
              case measure => omega
              case rel => exact ⟨_, _, rfl, rfl, by have := HL.out; omega, by rw [Hid, HR2.out, HS.out], by have := HL.out; have := HT.out; omega, HB5.out⟩
            · obtain ⟨e1, e2⟩ := str_isn hq4
              have HCD4 : Hid (cleanStep p out = if Lib.hasPrefix p [47, 46, 46, 47] || p == [47, 46, 46] then (47 :: Lib.trimPrefix (p.drop 3) [47], out.take (lastF 47 out - 1))
                else if p = [46] ∨ p = [46, 46] then ([], out)
                else if Lib.indexByte (p.drop 1) 47 + 1 = 0 then ([], out ++ p)
                else (p.drop (Lib.indexByte (p.drop 1) 47 + 1).toNat, out ++ p.take (Lib.indexByte (p.drop 1) 47 + 1).toNat)) := by
                rw [Hid, HCD3.out, if_neg hq4]
              clear HCD3 hq4
              go_wp2_with fail
              refine (Tryz.strings_HasPrefix (bs p) ⟨#[47, 46, 46, 47]⟩ wi).mono ?_
              rintro e w2 ⟨rfl, hw2⟩
              have hw2 := hw2.symm
              subst hw2
              rw [bs_toL, show (⟨#[47, 46, 46, 47]⟩ : ByteArray).data.toList = [47, 46, 46, 47] from rfl]
              clear e1 e2
              obtain ⟨c, hc⟩ : ∃ c, c = (Lib.hasPrefix p [47, 46, 46, 47] || p == [47, 46, 46]) := ⟨_, rfl⟩
              rw [← hc] at HCD4
              cases hcc : c with
              | true =>
                rw [hcc] at hc HCD4
                have hl3 : 3 ≤ p.length := by
                  rcases Bool.or_eq_true_iff.1 hc.symm with h | h
                  · have := pre_len h
                    rw [List.length_cons, List.length_cons, List.length_cons, List.length_cons, List.length_nil] at this
                    omega
                  · rw [beq_iff_eq.1 h]; exact Nat.le_refl _
                have htr := trim_le (p.drop 3) [47]
                rw [List.length_drop] at htr
                have HS : Hid (cleanStep p out = (47 :: Lib.trimPrefix (p.drop 3) [47], out.take (lastF 47 out - 1))) := by rw [Hid, HCD4.out]; rfl
                have HL : Hid ((47 :: Lib.trimPrefix (p.drop 3) [47]).length ≤ g) := by rw [Hid, List.length_cons]; omega
                have HT : Hid ((47 :: Lib.trimPrefix (p.drop 3) [47]).length + (out.take (lastF 47 out - 1)).length ≤ 100000) := by rw [Hid, List.length_cons, List.length_take]; omega
                have h3s : (3 : Int) ≤ ((bs p).size : Int) := by omega
                have hd3 := drop_bs p 3
                rw [hsz] at hd3
                have HC := Lib.hid hc
                clear hc
                have HTP := Lib.hid (Tryz.strings_TrimPrefix (bs (p.drop 3)) ⟨#[47]⟩ wi)
                rw [bs_toL, show (⟨#[47]⟩ : ByteArray).data.toList = [47] from rfl] at HTP
                have hll : (⟨#[47]⟩ : ByteArray).size + (⟨(Lib.trimPrefix (p.drop 3) [47]).toArray⟩ : ByteArray).size ≤ 200000 := by
                  show 1 + (bs (Lib.trimPrefix (p.drop 3) [47])).size ≤ 200000
                  rw [size_bs]; omega
                have hle := lastF_le 47 out
                have HLB := Lib.hid (lastByte_calls (bs out) 47 wi (by omega))
                rw [L_bs] at HLB
                have hlf : (Hid (lastF 47 out = 0) ∧ (lastF 47 out : Int) - 1 = -1) ∨ ∃ i : Nat, Hid (lastF 47 out = i + 1) ∧ (lastF 47 out : Int) - 1 = (i : Int) ∧ (0 : Int) ≤ (i : Int) ∧ (i : Int) ≤ ((bs out).size : Int) := by
                  by_cases h0 : lastF 47 out = 0
                  · exact .inl ⟨h0, by omega⟩
                  · exact .inr ⟨lastF 47 out - 1, by rw [Hid]; omega, by omega, by omega, by omega⟩
                cases hq5 : Lib.hasPrefix p [47, 46, 46, 47] with
                | true =>
                  go_wp2_with fail
                  refine HTP.out.mono ?_
                  rintro e w2 ⟨rfl, hw2⟩
                  have hw2 := hw2.symm
                  subst hw2
                  go_wp2_with fail
                  refine HLB.out.mono ?_
                  rintro e w2 ⟨rfl, hw2⟩
                  subst hw2
                  rcases hlf with ⟨h0, hz⟩ | ⟨i, h0, hz, hi0, hi1⟩
                  · rw [hz]
                    have HZ : Hid (out.take (lastF 47 out - 1) = out.take 0) := by rw [Hid, h0.out]
                    clear hz
                    go_wp2_with fail
                    go_roundg g
                    case measure => omega
                    case rel => exact ⟨47 :: Lib.trimPrefix (p.drop 3) [47], out.take (lastF 47 out - 1), congrArg Value.string (bs_append [47] _), congrArg Value.string (by rw [HZ.out]; exact take_bs out 0), by have := HL.out; omega, by rw [Hid, HR2.out, HS.out], by have := HL.out; have := HT.out; omega, HB5.out⟩
                  · rw [hz]
                    have HZ : Hid (out.take (lastF 47 out - 1) = out.take i) := by rw [Hid, h0.out, Nat.add_sub_cancel]
                    clear hz
                    go_wp2_with fail
                    go_roundg g
                    case measure => omega
                    case rel => exact ⟨47 :: Lib.trimPrefix (p.drop 3) [47], out.take (lastF 47 out - 1), congrArg Value.string (bs_append [47] _), congrArg Value.string (by rw [HZ.out]; exact take_bs out i), by have := HL.out; omega, by rw [Hid, HR2.out, HS.out], by have := HL.out; have := HT.out; omega, HB5.out⟩
                | false =>
                  have h5 : p = [47, 46, 46] := by have hc := HC.out; rw [hq5, Bool.false_or] at hc; exact beq_iff_eq.1 hc.symm
                  obtain ⟨e1, e2⟩ := str_is h5
                  clear h5
                  go_wp2_with fail
                  refine HTP.out.mono ?_
                  rintro e w2 ⟨rfl, hw2⟩
                  have hw2 := hw2.symm
                  subst hw2
                  go_wp2_with fail
                  refine HLB.out.mono ?_
                  rintro e w2 ⟨rfl, hw2⟩
                  subst hw2
                  rcases hlf with ⟨h0, hz⟩ | ⟨i, h0, hz, hi0, hi1⟩
                  · rw [hz]
                    have HZ : Hid (out.take (lastF 47 out - 1) = out.take 0) := by rw [Hid, h0.out]
                    clear hz
                    go_wp2_with fail
                    go_roundg g
                    case measure => omega
                    case rel => exact ⟨47 :: Lib.trimPrefix (p.drop 3) [47], out.take (lastF 47 out - 1), congrArg Value.string (bs_append [47] _), congrArg Value.string (by rw [HZ.out]; exact take_bs out 0), by have := HL.out; omega, by rw [Hid, HR2.out, HS.out], by have := HL.out; have := HT.out; omega, HB5.out⟩
                  · rw [hz]
                    have HZ : Hid (out.take (lastF 47 out - 1) = out.take i) := by rw [Hid, h0.out, Nat.add_sub_cancel]
                    clear hz
                    go_wp2_with fail
                    go_roundg g
                    case measure => omega
                    case rel => exact ⟨47 :: Lib.trimPrefix (p.drop 3) [47], out.take (lastF 47 out - 1), congrArg Value.string (bs_append [47] _), congrArg Value.string (by rw [HZ.out]; exact take_bs out i), by have := HL.out; omega, by rw [Hid, HR2.out, HS.out], by have := HL.out; have := HT.out; omega, HB5.out⟩
              | false =>
                rw [hcc] at hc HCD4
                obtain ⟨hq5, hq6⟩ := Bool.or_eq_false_iff.1 hc.symm
                have hq6 : ¬ p = [47, 46, 46] := by simpa using hq6
                obtain ⟨e1, e2⟩ := str_isn hq6
                have HCD5 : Hid (cleanStep p out = if p = [46] ∨ p = [46, 46] then ([], out)
                  else if Lib.indexByte (p.drop 1) 47 + 1 = 0 then ([], out ++ p)
                  else (p.drop (Lib.indexByte (p.drop 1) 47 + 1).toNat, out ++ p.take (Lib.indexByte (p.drop 1) 47 + 1).toNat)) := by
                  rw [Hid, HCD4.out, if_neg (by simp)]
                rw [hq5]
                clear hc hcc HCD4 hq5 hq6
                by_cases hq7 : p = [46]
                · obtain ⟨f1, f2⟩ := str_is hq7
                  have hl4 : p.length = 1 := by rw [hq7]; rfl
                  have HS : Hid (cleanStep p out = ([], out)) := by rw [Hid, HCD5.out, if_pos (.inl hq7)]
                  have HL : Hid (([] : List UInt8).length ≤ g) := Nat.zero_le _
                  have HT : Hid (([] : List UInt8).length + out.length ≤ 100000) := by rw [Hid, List.length_nil]; omega
                  clear hq7
                  go_wp2_with fail
                  go_roundg g
                  case measure => omega
                  case rel => exact ⟨_, _, rfl, rfl, by have := HL.out; omega, by rw [Hid, HR2.out, HS.out], by have := HL.out; have := HT.out; omega, HB5.out⟩
                · obtain ⟨f1, f2⟩ := str_isn hq7
                  by_cases hq8 : p = [46, 46]
                  · obtain ⟨f3, f4⟩ := str_is hq8
                    have hl4 : p.length = 2 := by rw [hq8]; rfl
                    have HS : Hid (cleanStep p out = ([], out)) := by rw [Hid, HCD5.out, if_pos (.inr hq8)]
                    have HL : Hid (([] : List UInt8).length ≤ g) := Nat.zero_le _
                    have HT : Hid (([] : List UInt8).length + out.length ≤ 100000) := by rw [Hid, List.length_nil]; omega
                    clear hq7 hq8
                    go_wp2_with fail
                    go_roundg g
                    case measure => omega
                    case rel => exact ⟨_, _, rfl, rfl, by have := HL.out; omega, by rw [Hid, HR2.out, HS.out], by have := HL.out; have := HT.out; omega, HB5.out⟩
                  · obtain ⟨f3, f4⟩ := str_isn hq8
                    have HCD6 : Hid (cleanStep p out = if Lib.indexByte (p.drop 1) 47 + 1 = 0 then ([], out ++ p)
                      else (p.drop (Lib.indexByte (p.drop 1) 47 + 1).toNat, out ++ p.take (Lib.indexByte (p.drop 1) 47 + 1).toNat)) := by
                      rw [Hid, HCD5.out, if_neg (fun h => h.elim hq7 hq8)]
                    have hd1 := drop_bs p 1
                    rw [hsz] at hd1
                    have h1s : (1 : Int) ≤ (p.length : Int) := by omega
                    have HIB := Lib.hid (Tryz.strings_IndexByte (bs (p.drop 1)) 47 wi)
                    rw [bs_toL, show (47 : Int).toNat.toUInt8 = 47 from rfl, List.drop_one] at HIB
                    have hge := indexByte_ge (p.drop 1) 47
                    have hlt := indexByte_lt (p.drop 1) 47
                    rw [List.length_drop] at hlt
                    rw [List.drop_one] at hge hlt HCD6 hd1
                    generalize Lib.indexByte p.tail 47 = z at *
                    clear hq7 hq8 HCD5
                    go_wp2_with fail
                    refine HIB.out.mono ?_
                    rintro e w2 ⟨rfl, hw2⟩
                    have hw2 := hw2.symm
                    subst hw2
                    clear e1 e2 f1 f2 f3 f4 hd1
                    by_cases hz : z + 1 = 0
                    · have hz1 : z = -1 := by omega
                      subst hz1
                      have HS : Hid (cleanStep p out = ([], out ++ p)) := by rw [Hid, HCD6.out, if_pos (by omega)]
                      have HL : Hid (([] : List UInt8).length ≤ g) := Nat.zero_le _
                      have HT : Hid (([] : List UInt8).length + (out ++ p).length ≤ 100000) := by rw [Hid, List.length_nil, List.length_append]; omega
                      have htk : (bs p).extract 0 p.length = bs p := by rw [take_bs, List.take_length]
                      have htd : (bs p).extract p.length p.length = bs [] := by rw [extract_bs, List.take_length, List.drop_length]
                      have hsum : (bs out).size + (bs p).size ≤ 1000000 := by omega
                      have HTK := Lib.hid htk
                      have HTD := Lib.hid htd
                      clear hz hge hlt htk htd HIB HCD6
                      go_wp2_with fail
                      go_quiet (fail)
                      go_wp2_with fail
                      go_roundg g
                      case measure => omega
                      case rel => exact ⟨[], out ++ p, congrArg Value.string (by first | rfl | exact HTD.out), congrArg Value.string (by first | exact bs_append _ _ | (rw [HTK.out]; exact bs_append _ _)), Nat.zero_le _, by rw [Hid, HR2.out, HS.out], by have := HT.out; omega, below_drewN HB5.out _⟩
                    · have hn0 : 0 ≤ z + 1 := by omega
                      have hn1 : z + 1 ≤ (p.length : Int) := by omega
                      have hzb : (z + 1 == 0) = false := by rw [beq_eq_false_iff_ne]; exact hz
                      have HS : Hid (cleanStep p out = (p.drop (z + 1).toNat, out ++ p.take (z + 1).toNat)) := by rw [Hid, HCD6.out, if_neg hz]
                      have HL : Hid ((p.drop (z + 1).toNat).length ≤ g) := by rw [Hid, List.length_drop]; omega
                      have HT : Hid ((p.drop (z + 1).toNat).length + (out ++ p.take (z + 1).toNat).length ≤ 100000) := by rw [Hid, List.length_drop, List.length_append, List.length_take]; omega
                      have htk : (bs p).extract 0 (z + 1).toNat = bs (p.take (z + 1).toNat) := take_bs _ _
                      have htd : (bs p).extract (z + 1).toNat p.length = bs (p.drop (z + 1).toNat) := by rw [← hsz]; exact drop_bs _ _
                      have hsum : (bs out).size + (bs (p.take (z + 1).toNat)).size ≤ 1000000 := by rw [size_bs, size_bs, List.length_take]; omega
                      clear hz hge hlt HIB HCD6
                      go_wp2_with fail
                      go_quiet (fail)
                      go_wp2_with fail
                      go_roundg g
                      case measure => omega
                      case rel => exact ⟨p.drop (z + 1).toNat, out ++ p.take (z + 1).toNat, rfl, congrArg Value.string (bs_append _ _), by have := HL.out; omega, by rw [Hid, HR2.out, HS.out], by have := HT.out; omega, below_drewN HB5.out _⟩
end Go.Proofs.YtijpfcjlochahaaGreatDoor
namespace Go.Proofs.YtijpfcjlochahaaGreatDoor
open Go Go.RowKit
set_option linter.unusedVariables false
set_option linter.unusedSimpArgs false

theorem uriOk_parts {u : UriD} (h : uriOk u = true) : 0 ≤ u.port ∧ u.port ≤ 65535 ∧ (writeF u).length ≤ 500 := by
  unfold uriOk at h
  have h := (Bool.and_eq_true_iff.1 h).1
  unfold okF at h
  simp only [Bool.and_eq_true, decide_eq_true_eq] at h
  exact ⟨h.2.2.2.2.1, h.2.2.2.2.2.1, h.2.2.2.2.2.2⟩
theorem write_path (u : UriD) : u.path.length ≤ (writeF u).length := by
  unfold writeF
  simp only [List.length_append]
  omega
set_option maxRecDepth 20000 in
set_option maxHeartbeats 4000000 in
theorem print_calls5 (u : UriD) (hs : u.small) (w : World) (hg : Glob w) :
    Calls Tryz.prog 206 #[u.val] w fun e w' => e = .returned (.tuple #[.string (bs (printF u).1), .int .i64 (printF u).2]) ∧ Below w.heap.size w w' := by
  have HP : Hid (printF u = if uriOk u then (writeF u, 0) else ([], 1)) := rfl
  have hX := Blk.new w 94 (uCells u)
  have hB : Below w.heap.size w (w.alloc (.cells (uCells u) 94)) := (Below.refl _ _).alloc (Nat.le_refl _) _
  have HX := Lib.hid hX
  have HB := Lib.hid hB
  have HG := Lib.hid (hg.below hB)
  clear hX hB hg
  have HUR := Lib.hid (fun W hg => uright_calls u hs W hg)
  have HUW := Lib.hid (fun (h : uriOk u = true) W hg => uwrite_calls u hs (uriOk_parts h).1 W hg)
  obtain ⟨abs, host, port, path, asks, query⟩ := u
  simp only [UriD.val, uCells] at *
  generalize printF ⟨abs, host, port, path, asks, query⟩ = PF at *
  go_enter Tryz.func206, Tryz.ntmps206
  go_wp2_with fail
  refine (HUR.out _ HG.out).mono ?_
  rintro e w1 ⟨rfl, hb1⟩
  have HX1 := Lib.hid (HX.out.below hb1 HX.out.lt)
  have HB1 := Lib.hid (HB.out.trans (hb1.mono HB.out.size))
  have HG1 := Lib.hid (HG.out.below hb1)
  clear hb1 HX HB HG
  cases hok : uriOk ⟨abs, host, port, path, asks, query⟩ with
  | false =>
    have HP2 : Hid (PF = ([], 1)) := by rw [Hid, HP.out, hok]; rfl
    go_wp2_with fail
    go_ret2
    exact ⟨by rw [HP2.out]; rfl, HB1.out⟩
  | true =>
    have HP2 : Hid (PF = (writeF ⟨abs, host, port, path, asks, query⟩, 0)) := by rw [Hid, HP.out, hok]; rfl
    have x0 := HX1.out.cell 0
    have x1 := HX1.out.cell 1
    have x2 := HX1.out.cell 2
    have x3 := HX1.out.cell 3
    have x4 := HX1.out.cell 4
    have x5 := HX1.out.cell 5
    go_wp2_with fail
    refine (HUW.out hok _ HG1.out).mono ?_
    rintro e w2 ⟨rfl, hb2⟩
    have HB2 := Lib.hid (HB1.out.trans (hb2.mono HB1.out.size))
    clear hb2
    go_wp2_with fail
    go_ret2
    exact ⟨by rw [HP2.out]; rfl, HB2.out⟩
theorem cleanStep_len (p out : List UInt8) : (cleanStep p out).1.length + (cleanStep p out).2.length ≤ p.length + out.length := by
  rw [clean_def]
  have ht := trim_le (p.drop 3) [47]
  rw [List.length_drop] at ht
  split
  · simp only [List.length_drop]; omega
  · split
    · simp only [List.length_drop]; omega
    · split
      · simp only [List.length_drop]; omega
      · split
        · rename_i h; rw [h]; simp
        · split
          · rename_i h
            have hl3 : 3 ≤ p.length := by
              rcases Bool.or_eq_true_iff.1 h with h | h
              · have := pre_len h
                simp only [List.length_cons, List.length_nil] at this
                omega
              · rw [beq_iff_eq.1 h]; exact Nat.le_refl _
            simp only [List.length_cons, List.length_take]; omega
          · split
            · simp
            · split
              · simp only [List.length_append, List.length_nil]; omega
              · simp only [List.length_append, List.length_drop, List.length_take]; omega
theorem cleanLoop_len : ∀ (n : Nat) (p out : List UInt8), (cleanLoop n p out).length ≤ p.length + out.length
  | 0, p, out => by rw [cleanLoop]; omega
  | n + 1, p, out => by
    rw [cleanLoop]
    split
    · omega
    · have h1 := cleanLoop_len n (cleanStep p out).1 (cleanStep p out).2
      have h2 := cleanStep_len p out
      omega
theorem clean_len (p : List UInt8) : (cleanF p).length ≤ p.length := by
  have := cleanLoop_len p.length p []
  simpa [cleanF] using this
theorem solve_small {b u : UriD} (hb : b.small) (hu : u.small) (hb2 : b.path.length ≤ 500) (hu2 : u.path.length ≤ 500) : (solveF b u).small := by
  obtain ⟨b1, b2, b3, b4, b5⟩ := hb
  obtain ⟨u1, u2, u3, u4, u5⟩ := hu
  have c1 := clean_len u.path
  have c2 := clean_len (b.path.take (lastF 47 b.path) ++ u.path)
  rw [List.length_append, List.length_take] at c2
  unfold solveF UriD.small
  simp only
  refine ⟨?_, ?_, ?_, ?_, ?_⟩
  · split <;> omega
  · split
    · omega
    · split <;> omega
  · split <;> omega
  · split <;> omega
  · split <;> omega
theorem resolve_results {w : World} {X : Nat} {tmps : Array Value} {u : UriD} {b : Value} (h4 : tmps[4]?.getD undef = .pointer (some ⟨X, 0, none⟩)) (h5 : tmps[5]?.getD undef = b) (B0 : Blk w X 94 (uCells u)) :
    (results Tryz.f205 tmps).run Tryz.prog w = .ok (.tuple #[u.val, b]) w := by
  have a0 := B0.cell 0
  have a1 := B0.cell 1
  have a2 := B0.cell 2
  have a3 := B0.cell 3
  have a4 := B0.cell 4
  have a5 := B0.cell 5
  simp [uCells] at a0 a1 a2 a3 a4 a5
  simp [results, Tryz.results205, go_sem, h4, h5, a0, a1, a2, a3, a4, a5, UriD.val]
/-- Memory within 'Resolve': what it was given, and its result's place. -/
structure RSt (w W : World) (X : Nat) (b u : UriD) : Prop where
  hb : Blk W X 94 (uCells b)
  hu : Blk W (X + 1) 94 (uCells u)
  hr : Blk W (X + 1 + 1) 94 (uCells uri0)
  bel : Below X w W
  eqX : w.heap.size = X
theorem RSt.below {w W W' : World} {X : Nat} {b u : UriD} (h : RSt w W X b u) (hb : Below W.heap.size W W') : RSt w W' X b u :=
  ⟨h.hb.below hb h.hb.lt, h.hu.below hb h.hu.lt, h.hr.below hb h.hr.lt, h.bel.trans (hb.mono (by have := h.bel.size; have := h.eqX; omega)), h.eqX⟩
theorem RSt.far {w W : World} {X O : Nat} {b u : UriD} (h : RSt w W X b u) (hO : X + 3 ≤ O) (i : Nat) (v : Value) : RSt w (W.setCell ⟨O, i, none⟩ v) X b u :=
  ⟨h.hb.far (p := ⟨O, i, none⟩) (by show X ≠ O; omega) v, h.hu.far (p := ⟨O, i, none⟩) (by show X + 1 ≠ O; omega) v, h.hr.far (p := ⟨O, i, none⟩) (by show X + 1 + 1 ≠ O; omega) v, h.bel.setCell (p := ⟨O, i, none⟩) (by show X ≤ O; omega) v, h.eqX⟩
theorem RSt.glob {w W : World} {X : Nat} {b u : UriD} (h : RSt w W X b u) (hg : Glob w) : Glob W := hg.below (by rw [h.eqX]; exact h.bel)
theorem RSt.start (w : World) (b u : UriD) : RSt w (((w.alloc (.cells (uCells b) 94)).alloc (.cells (uCells u) 94)).alloc (.cells (uCells uri0) 94)) w.heap.size b u := by
  have h1 := Blk.new w 94 (uCells b)
  have h2 := Blk.new (w.alloc (.cells (uCells b) 94)) 94 (uCells u)
  have h3 := Blk.new ((w.alloc (.cells (uCells b) 94)).alloc (.cells (uCells u) 94)) 94 (uCells uri0)
  rw [size_alloc] at h2
  rw [size_alloc, size_alloc] at h3
  exact ⟨(h1.alloc _).alloc _, h2.alloc _, h3, (((Below.refl _ _).alloc (Nat.le_refl _) _).alloc (by rw [size_alloc]; omega) _).alloc (by rw [size_alloc, size_alloc]; omega) _, rfl⟩
theorem RSt.fin {w W : World} {X : Nat} {b u : UriD} (h : RSt w W X b u) (v : UriD) : Blk (fill6 W (X + 1 + 1) v) (X + 1 + 1) 94 (uCells v) ∧ Below w.heap.size w (fill6 W (X + 1 + 1) v) :=
  ⟨fill6_blk h.hr v, by rw [h.eqX]; exact fill6_below h.bel (by omega) v⟩
set_option maxRecDepth 20000 in
set_option maxHeartbeats 8000000 in
theorem resolve_calls (b u : UriD) (hb : b.small) (hu : u.small) (w : World) (hg : Glob w) :
    Calls Tryz.prog 205 #[b.val, u.val] w fun e w' => e = .returned (.tuple #[(resolveF b u).1.val, .int .i64 (resolveF b u).2]) ∧ Below w.heap.size w w' := by
  have HP : Hid (resolveF b u = if uriOk b = true ∧ uriOk u = true ∧ b.abs = true then (if uriOk (solveF b u) then (solveF b u, 0) else (uri0, 2)) else (uri0, 1)) := rfl
  have HG0 := Lib.hid hg
  have HRB := Lib.hid (fun W hg => uright_calls b hb W hg)
  have HRU := Lib.hid (fun W hg => uright_calls u hu W hg)
  have HPB := Lib.hid (fun h => Nat.le_trans (write_path b) (uriOk_parts h).2.2)
  have HPU := Lib.hid (fun h => Nat.le_trans (write_path u) (uriOk_parts h).2.2)
  have HSM := Lib.hid (fun h1 h2 => solve_small hb hu h1 h2)
  have HRV := Lib.hid (fun h W hg => uright_calls (solveF b u) h W hg)
  have HSV : Hid (solveF b u = { abs := true, host := if u.abs then u.host else b.host, port := if u.abs then u.port else b.port
                                 path := if u.path = [] then b.path else if u.path.head? = some 47 then cleanF u.path else cleanF (b.path.take (lastF 47 b.path) ++ u.path)
                                 asks := if u.path = [] ∧ u.asks = false then b.asks else u.asks
                                 query := if u.path = [] ∧ u.asks = false then b.query else u.query }) := rfl
  have HST := Lib.hid (RSt.start w b u)
  generalize resolveF b u = PF at *
  generalize solveF b u = V at *
  obtain ⟨ba, bh, bp, bpa, bas, bq⟩ := b
  obtain ⟨ua, uh, up, upa, uas, uq⟩ := u
  clear hb hu hg
  simp only at HPB HPU HSM HSV HP
  simp only [UriD.val] at HRB HRU ⊢
  go_enter Tryz.func205, Tryz.ntmps205
  go_wp2_with fail
  refine (HRB.out _ (HST.out.glob HG0.out)).mono ?_
  rintro e w1 ⟨rfl, hb1⟩
  have HS1 := Lib.hid (HST.out.below hb1)
  clear HST hb1
  generalize w.heap.size = X at *
  cases hob : uriOk ⟨ba, bh, bp, bpa, bas, bq⟩ with
  | false =>
    have HP2 : Hid (PF = (uri0, 1)) := by rw [Hid, HP.out, if_neg (by rw [hob]; simp)]
    have r0 := HS1.out.hr.cell 0
    have r1 := HS1.out.hr.cell 1
    have r2 := HS1.out.hr.cell 2
    have r3 := HS1.out.hr.cell 3
    have r4 := HS1.out.hr.cell 4
    have r5 := HS1.out.hr.cell 5
    simp [uCells] at r0 r1 r2 r3 r4 r5
    have f0 := HS1.out.hr.frozen 0
    have f1 := HS1.out.hr.frozen 1
    have f2 := HS1.out.hr.frozen 2
    have f3 := HS1.out.hr.frozen 3
    have f4 := HS1.out.hr.frozen 4
    have f5 := HS1.out.hr.frozen 5
    go_wp2_with fail
    obtain ⟨q1, q2⟩ := HS1.out.fin uri0
    change bodyPost _ _ _ _ _ (fill6 _ (X + 1 + 1) uri0)
    refine bodyPost_ret (resolve_results rfl rfl q1) rfl ⟨?_, q2⟩
    rw [HP2.out]
    rfl
  | true =>
    have u0 := HS1.out.hu.cell 0
    have u1 := HS1.out.hu.cell 1
    have u2 := HS1.out.hu.cell 2
    have u3 := HS1.out.hu.cell 3
    have u4 := HS1.out.hu.cell 4
    have u5 := HS1.out.hu.cell 5
    simp [uCells] at u0 u1 u2 u3 u4 u5
    go_wp2_with fail
    refine (HRU.out _ (HS1.out.glob HG0.out)).mono ?_
    rintro e w2 ⟨rfl, hb2⟩
    have HS2 := Lib.hid (HS1.out.below hb2)
    clear HS1 hb2 u0 u1 u2 u3 u4 u5
    have HS1 := HS2
    clear HS2
    cases hou : uriOk ⟨ua, uh, up, upa, uas, uq⟩ with
    | false =>
      have HP2 : Hid (PF = (uri0, 1)) := by rw [Hid, HP.out, if_neg (by rw [hou]; simp)]
      have r0 := HS1.out.hr.cell 0
      have r1 := HS1.out.hr.cell 1
      have r2 := HS1.out.hr.cell 2
      have r3 := HS1.out.hr.cell 3
      have r4 := HS1.out.hr.cell 4
      have r5 := HS1.out.hr.cell 5
      simp [uCells] at r0 r1 r2 r3 r4 r5
      have f0 := HS1.out.hr.frozen 0
      have f1 := HS1.out.hr.frozen 1
      have f2 := HS1.out.hr.frozen 2
      have f3 := HS1.out.hr.frozen 3
      have f4 := HS1.out.hr.frozen 4
      have f5 := HS1.out.hr.frozen 5
      go_wp2_with fail
      obtain ⟨q1, q2⟩ := HS1.out.fin uri0
      change bodyPost _ _ _ _ _ (fill6 _ (X + 1 + 1) uri0)
      refine bodyPost_ret (resolve_results rfl rfl q1) rfl ⟨?_, q2⟩
      rw [HP2.out]
      rfl
    | true =>
      cases ba with
      | false =>
        have HP2 : Hid (PF = (uri0, 1)) := by rw [Hid, HP.out, if_neg (by simp)]
        have b0 := HS1.out.hb.cell 0
        simp [uCells] at b0
        have r0 := HS1.out.hr.cell 0
        have r1 := HS1.out.hr.cell 1
        have r2 := HS1.out.hr.cell 2
        have r3 := HS1.out.hr.cell 3
        have r4 := HS1.out.hr.cell 4
        have r5 := HS1.out.hr.cell 5
        simp [uCells] at r0 r1 r2 r3 r4 r5
        have f0 := HS1.out.hr.frozen 0
        have f1 := HS1.out.hr.frozen 1
        have f2 := HS1.out.hr.frozen 2
        have f3 := HS1.out.hr.frozen 3
        have f4 := HS1.out.hr.frozen 4
        have f5 := HS1.out.hr.frozen 5
        go_wp2_with fail
        obtain ⟨q1, q2⟩ := HS1.out.fin uri0
        change bodyPost _ _ _ _ _ (fill6 _ (X + 1 + 1) uri0)
        refine bodyPost_ret (resolve_results rfl rfl q1) rfl ⟨?_, q2⟩
        rw [HP2.out]
        rfl
      | true =>
        have HP2 : Hid (PF = if uriOk V then (V, 0) else (uri0, 2)) := by rw [Hid, HP.out, if_pos ⟨hob, hou, rfl⟩]
        have HV := Lib.hid (HSM.out (HPB.out hob) (HPU.out hou))
        have HUB : Hid (upa.length ≤ 100000 ∧ upa.length ≤ 500 ∧ bpa.length ≤ 500) := ⟨by have := HPU.out hou; omega, HPU.out hou, HPB.out hob⟩
        have b0 := HS1.out.hb.cell 0
        have u0 := HS1.out.hu.cell 0
        have u1 := HS1.out.hu.cell 1
        have u2 := HS1.out.hu.cell 2
        have u3 := HS1.out.hu.cell 3
        have u4 := HS1.out.hu.cell 4
        have u5 := HS1.out.hu.cell 5
        simp [uCells] at b0 u0 u1 u2 u3 u4 u5
        clear HP HSM hob hou HRB HRU
        go_upto_region 5 with (fail)
        obtain ⟨O, hO⟩ : ∃ O, O = w2.heap.size := ⟨_, rfl⟩
        have hOX : X + 3 ≤ O := by rw [hO]; exact HS1.out.hr.lt
        have ho := Blk.new w2 94 (uCells ⟨true, uh, up, upa, uas, uq⟩)
        have hs5 := HS1.out.below ((Below.refl w2.heap.size w2).alloc (Nat.le_refl _) (.cells (uCells ⟨true, uh, up, upa, uas, uq⟩) 94))
        change Code.wp _ _ _ _ (w2.alloc (.cells (uCells ⟨true, uh, up, upa, uas, uq⟩) 94))
        generalize w2.alloc (.cells (uCells ⟨true, uh, up, upa, uas, uq⟩) 94) = w5 at *
        rw [← hO] at ho
        rw [← hO]
        have HO := Lib.hid ho
        have HS5 := Lib.hid hs5
        have HOX := Lib.hid hOX
        clear b0 u0 u1 u2 u3 u4 u5 HS1 ho hs5 hO hOX
        have u0 := HS5.out.hu.cell 0
        simp [uCells] at u0
        go_upto_if 25 with (fail)
        go_cut [] from 23 to 32 (fun wx => Hid (Blk wx O 94 (uCells ⟨true, if ua then uh else bh, if ua then up else bp, upa, uas, uq⟩)) ∧ Hid (RSt w wx X ⟨true, bh, bp, bpa, bas, bq⟩ ⟨ua, uh, up, upa, uas, uq⟩))
        case first =>
          cases ua with
          | true =>
            go_wp2_with fail
            go_meet
            case rel => exact ⟨HO.out, HS5.out⟩
          | false =>
            have b1 := HS5.out.hb.cell 1
            have b2 := HS5.out.hb.cell 2
            have o1 := HO.out.cell 1
            have o2 := HO.out.cell 2
            simp [uCells] at b1 b2 o1 o2
            have g1 := HO.out.frozen 1
            have g2 := HO.out.frozen 2
            have hne : ¬ X = O := by have := HOX.out; omega
            have hne2 : ¬ O = X := by have := HOX.out; omega
            go_upto_region 6 with (fail)
            go_region
            go_wp2_with fail
            go_meet
            case rel => exact ⟨(HO.out.set_ 1 (.string (bs bh))).set_ 2 (.int .i64 bp), ((HS5.out.far (by have := HOX.out; omega) 1 (.string (bs bh))).far (by have := HOX.out; omega) 2 (.int .i64 bp)).below (Below.refl _ _).drew⟩
        case rest =>
          obtain ⟨HO6, HS6⟩ := hcut
          obtain ⟨w6, rfl⟩ : ∃ w6 : World, w6 = wc := ⟨_, rfl⟩
          clear HO HS5 u0
          generalize (if ua = true then uh else bh) = H at *
          generalize (if ua = true then up else bp) = P at *
          have hne : ¬ X = O := by have := HOX.out; omega
          have hne2 : ¬ O = X := by have := HOX.out; omega
          have hne3 : ¬ X + 1 = O := by have := HOX.out; omega
          have hne4 : ¬ O = X + 1 := by have := HOX.out; omega
          go_upto_block 0 with (fail)
          go_cut [] from 32 to 78 (fun wx => Hid (Blk wx O 94 (uCells V)) ∧ Hid (RSt w wx X ⟨true, bh, bp, bpa, bas, bq⟩ ⟨ua, uh, up, upa, uas, uq⟩))
          case first =>
            have u3 := HS6.out.hu.cell 3
            have u4 := HS6.out.hu.cell 4
            simp [uCells] at u3 u4
            have o3 := HO6.out.cell 3
            have o4 := HO6.out.cell 4
            have o5 := HO6.out.cell 5
            simp [uCells] at o3 o4 o5
            have g3 := HO6.out.frozen 3
            have g4 := HO6.out.frozen 4
            have g5 := HO6.out.frozen 5
            have b3 := HS6.out.hb.cell 3
            have b4 := HS6.out.hb.cell 4
            have b5 := HS6.out.hb.cell 5
            simp [uCells] at b3 b4 b5
            by_cases h0 : upa = []
            · obtain ⟨e1, e2⟩ := str_is h0
              cases uas with
              | false =>
                have HV2 : Hid (V = ⟨true, H, P, bpa, bas, bq⟩) := by rw [Hid, HSV.out, if_pos h0, if_pos ⟨h0, rfl⟩, if_pos ⟨h0, rfl⟩]
                clear h0 HSV
                go_upto_region 9 with (fail)
                go_region
                go_wp2_with fail
                go_meet
                case rel => exact ⟨by rw [Hid, HV2.out]; exact ((HO6.out.set_ 3 (.string (bs bpa))).set_ 4 (.bool bas)).set_ 5 (.string (bs bq)), (((HS6.out.far (by have := HOX.out; omega) 3 (.string (bs bpa))).far (by have := HOX.out; omega) 4 (.bool bas)).far (by have := HOX.out; omega) 5 (.string (bs bq))).below (Below.refl _ _).drew⟩
              | true =>
                have HV2 : Hid (V = ⟨true, H, P, bpa, true, uq⟩) := by rw [Hid, HSV.out, if_pos h0, if_neg (by simp), if_neg (by simp)]
                clear h0 HSV
                go_wp2_with fail
                go_meet
                case rel => exact ⟨by rw [Hid, HV2.out]; exact HO6.out.set_ 3 (.string (bs bpa)), HS6.out.far (by have := HOX.out; omega) 3 (.string (bs bpa))⟩
            · obtain ⟨e1, e2⟩ := str_isn h0
              obtain ⟨c, l, hcl⟩ : ∃ c l, upa = c :: l := by cases upa with | nil => exact absurd rfl h0 | cons c l => exact ⟨c, l, rfl⟩
              have hpos : (0 : Int) < ((bs upa).size : Int) := by rw [size_bs, hcl, List.length_cons]; omega
              have hp0 : 0 < (bs upa).size := by omega
              have hc0 : (bs upa)[0] = c := by rw [getElem_bs upa 0 hp0]; simp [hcl]
              by_cases h47 : c = 47
              · have hb47 : (((bs upa)[0].toNat : Int) == 47) = true := by rw [hc0, h47]; rfl
                have HV2 : Hid (V = ⟨true, H, P, cleanF upa, uas, uq⟩) := by rw [Hid, HSV.out, if_neg h0, if_pos (by rw [hcl, h47]; rfl), if_neg (fun h => h0 h.1), if_neg (fun h => h0 h.1)]
                have HCL := Lib.hid (fun W => clean_calls upa W (HUB.out.1))
                clear h0 hcl hc0 h47 HSV
                go_wp2_with fail
                refine (HCL.out _).mono ?_
                rintro e w7 ⟨rfl, hb7⟩
                have HO7 := Lib.hid (HO6.out.below hb7 HO6.out.lt)
                have HS7 := Lib.hid (HS6.out.below hb7)
                clear HO6 HS6 hb7 u3 u4 o3 o4 o5 g3 g4 g5 b3 b4 b5
                have o3 := HO7.out.cell 3
                simp [uCells] at o3
                have g3 := HO7.out.frozen 3
                go_wp2_with fail
                go_meet
                case rel => exact ⟨by rw [Hid, HV2.out]; exact HO7.out.set_ 3 (.string (bs (cleanF upa))), HS7.out.far (by have := HOX.out; omega) 3 (.string (bs (cleanF upa)))⟩
              · have hb47 : (((bs upa)[0].toNat : Int) == 47) = false := by rw [hc0, beq_eq_false_iff_ne]; exact fun e => h47 ((u8_eq c 47).2 e)
                have HV2 : Hid (V = ⟨true, H, P, cleanF (bpa.take (lastF 47 bpa) ++ upa), uas, uq⟩) := by rw [Hid, HSV.out, if_neg h0, if_neg (by rw [hcl]; simp; exact h47), if_neg (fun h => h0 h.1), if_neg (fun h => h0 h.1)]
                have hlb := fun W => lastByte_calls (bs bpa) 47 W (by rw [size_bs]; have := HUB.out.2.2; omega)
                rw [L_bs] at hlb
                have hle := lastF_le 47 bpa
                have hb5 := HUB.out.2.2
                have hu5 := HUB.out.2.1
                obtain ⟨z, hz⟩ : ∃ z : Int, z = (lastF 47 bpa : Int) - 1 := ⟨_, rfl⟩
                rw [← hz] at hlb
                have hzn : (z + 1).toNat = lastF 47 bpa := by omega
                have hz0 : 0 ≤ z + 1 := by omega
                have hz1 : z + 1 ≤ ((bs bpa).size : Int) := by rw [size_bs]; omega
                have hz2 : -1 ≤ z := by omega
                have hz3 : z ≤ 500 := by omega
                clear h0 hc0 h47
                clear hcl
                have hcl := fun W => clean_calls (bpa.take (lastF 47 bpa) ++ upa) W (by rw [List.length_append, List.length_take]; omega)
                have HCL := Lib.hid hcl
                have HLB := Lib.hid hlb
                have hwz : IntKind.i64.wrap (z + 1) = z + 1 := by rw [IntKind.wrap_i64]; omega
                have htk : (bs bpa).extract 0 (z + 1).toNat = bs (bpa.take (lastF 47 bpa)) := by rw [take_bs, hzn]
                have hba : bs (bpa.take (lastF 47 bpa)) ++ bs upa = bs (bpa.take (lastF 47 bpa) ++ upa) := bs_append _ _
                have hsum : ¬ 9223372036854775807 < (bs (bpa.take (lastF 47 bpa))).size + (bs upa).size := by rw [size_bs, size_bs, List.length_take]; omega
                clear hcl HSV hlb hle hb5 hu5 hz hzn
                go_upto_region 7 with (fail)
                refine wp_region_held (S := (fun w' => w'.cell? ⟨X, 3, none⟩ = some (.string (bs bpa)) ∧ w'.cell? ⟨X + 1, 3, none⟩ = some (.string (bs upa)))) (by kernel_rfl) ?_
                change wpAnyH _ _ _ _ _ _ _ _ (World.drew _)
                refine wpAnyH_take (i := 0) (v := ?_) rfl (by kernel_rfl) (by kernel_rfl) (by kernel_rfl) (fun _ _ _ h => h) (Or.inl ⟨by kernel_rfl, ?_⟩) ⟨b3, u3⟩ ?_
                rotate_left
                · (intro w_ hS_; obtain ⟨q3, qu⟩ := hS_; go_simp; try with_reducible rfl)
                refine wpAnyH_take (i := 1) (v := ?_) rfl (by kernel_rfl) (by kernel_rfl) (by kernel_rfl) (fun _ _ _ h => h) (Or.inl ⟨by kernel_rfl, ?_⟩) ⟨b3, u3⟩ ?_
                rotate_left
                · (intro w_ hS_; obtain ⟨q3, qu⟩ := hS_; go_simp; try with_reducible rfl)
                refine wpAnyH_take (i := 2) (v := ?_) rfl (by kernel_rfl) (by kernel_rfl) (by kernel_rfl) (fun _ _ _ h => h) (Or.inl ⟨by kernel_rfl, ?_⟩) ⟨b3, u3⟩ ?_
                rotate_left
                · (intro w_ hS_; obtain ⟨q3, qu⟩ := hS_; go_simp; try with_reducible rfl)
                refine wpAnyH_take (i := 3) (v := ?_) rfl (by kernel_rfl) (by kernel_rfl) (by kernel_rfl) (fun _ _ _ h => h) (Or.inl ⟨by kernel_rfl, ?_⟩) ⟨b3, u3⟩ ?_
                rotate_left
                · (intro w_ hS_; obtain ⟨q3, qu⟩ := hS_; go_simp; try with_reducible rfl)
                refine wpAnyH_take (i := 7) (v := ?_) rfl (by kernel_rfl) (by kernel_rfl) (by kernel_rfl) (fun _ _ _ h => h) (Or.inl ⟨by kernel_rfl, ?_⟩) ⟨b3, u3⟩ ?_
                rotate_left
                · (intro w_ hS_; obtain ⟨q3, qu⟩ := hS_; go_simp; try with_reducible rfl)
                refine wpAnyH_take (i := 8) (v := ?_) rfl (by kernel_rfl) (by kernel_rfl) (by kernel_rfl) (fun _ _ _ h => h) (Or.inl ⟨by kernel_rfl, ?_⟩) ⟨b3, u3⟩ ?_
                rotate_left
                · (intro w_ hS_; obtain ⟨q3, qu⟩ := hS_; go_simp; try with_reducible rfl)
                refine wpAnyH_ask (i := 4) (v := _) rfl (by kernel_rfl) (by kernel_rfl) (by kernel_rfl) (fun _ _ _ h => h) ⟨by kernel_rfl, _, _, ?_, fun w_ hS_ => HLB.out w_⟩ ⟨b3, u3⟩ ?_
                · (intro w_; go_simp; try with_reducible rfl)
                refine wpAnyH_take (i := 5) (v := .int .i64 (z + 1)) rfl (by kernel_rfl) (by kernel_rfl) (by kernel_rfl) (fun _ _ _ h => h) (Or.inl ⟨by kernel_rfl, ?_⟩) ⟨b3, u3⟩ ?_
                · (intro w_ hS_; go_simp; try simp [hwz])
                refine wpAnyH_take (i := 6) (v := .string (bs (bpa.take (lastF 47 bpa)))) rfl (by kernel_rfl) (by kernel_rfl) (by kernel_rfl) (fun _ _ _ h => h) (Or.inl ⟨by kernel_rfl, ?_⟩) ⟨b3, u3⟩ ?_
                · (intro w_ hS_; go_simp; try simp [hz0, hz1, htk])
                refine wpAnyH_take (i := 9) (v := .string (bs (bpa.take (lastF 47 bpa) ++ upa))) rfl (by kernel_rfl) (by kernel_rfl) (by kernel_rfl) (fun _ _ _ h => h) (Or.inl ⟨by kernel_rfl, ?_⟩) ⟨b3, u3⟩ ?_
                · (intro w_ hS_; go_simp; try simp [hsum, hba])
                refine wpAnyH_ready (rs := [10]) (by kernel_rfl) (by simp) ?_
                refine AllReadyH.cons rfl (fun K_ hK_ => ?_) AllReadyH.nil
                go_simp
                refine (HCL.out _).mono ?_
                rintro e w7 ⟨rfl, hb7⟩
                have hb7 : Below w6.heap.size w6 w7 := (Below.refl _ _).drew.trans hb7
                have HO7 := Lib.hid (HO6.out.below hb7 HO6.out.lt)
                have HS7 := Lib.hid (HS6.out.below hb7)
                have q3 : w7.cell? ⟨X, 3, none⟩ = some (.string (bs bpa)) := (hb7.cell (p := ⟨X, 3, none⟩) HS6.out.hb.lt).trans b3
                have qu : w7.cell? ⟨X + 1, 3, none⟩ = some (.string (bs upa)) := (hb7.cell (p := ⟨X + 1, 3, none⟩) HS6.out.hu.lt).trans u3
                clear HO6 HS6 hb7 u3 u4 o3 o4 o5 g3 g4 g5 b3 b4 b5
                have o3 := HO7.out.cell 3
                simp [uCells] at o3
                have g3 := HO7.out.frozen 3
                refine hK_.out _ _ (by exact ⟨q3, qu⟩) fun _ => ?_
                clear hK_ K_
                refine wpAnyH_take (i := 11) (v := ?_) rfl (by kernel_rfl) (by kernel_rfl) (by kernel_rfl) (fun _ _ _ h => h) (Or.inl ⟨by kernel_rfl, ?_⟩) ⟨q3, qu⟩ ?_
                rotate_left
                · (intro w_ hS_; obtain ⟨p3, pu⟩ := hS_; go_simp; try with_reducible rfl)
                refine wpAnyH_ready (rs := [12]) (by kernel_rfl) (by simp) ?_
                refine AllReadyH.cons rfl (fun K_ hK_ => ?_) AllReadyH.nil
                go_simp
                refine hK_.out _ _ (by exact ⟨(World.cell?_setCell_other _ _ _ _ (by simp [hne, hne2])).trans q3, (World.cell?_setCell_other _ _ _ _ (by simp [hne3, hne4])).trans qu⟩) fun _ => ?_
                clear hK_ K_
                refine wpAnyH_done (by kernel_rfl) ?_ _
                go_wp2_with fail
                go_meet
                case rel => exact ⟨by rw [Hid, HV2.out]; exact HO7.out.set_ 3 _, HS7.out.far (by have := HOX.out; omega) 3 _⟩
          case rest =>
            obtain ⟨HO7, HS7⟩ := hcut
            obtain ⟨w7, rfl⟩ : ∃ w7 : World, w7 = wc := ⟨_, rfl⟩
            have o0 := HO7.out.cell 0
            have o1 := HO7.out.cell 1
            have o2 := HO7.out.cell 2
            have o3 := HO7.out.cell 3
            have o4 := HO7.out.cell 4
            have o5 := HO7.out.cell 5
            simp [uCells] at o0 o1 o2 o3 o4 o5
            go_wp2_with fail
            refine (HRV.out HV.out _ (HS7.out.glob HG0.out)).mono ?_
            rintro e w8 ⟨rfl, hb8⟩
            have HO8 := Lib.hid (HO7.out.below hb8 HO7.out.lt)
            have HS1 := Lib.hid (HS7.out.below hb8)
            clear HO6 HS6 HO7 HS7 hb8 o0 o1 o2 o3 o4 o5
            cases hok : uriOk V with
            | false =>
              have HP2 : Hid (PF = (uri0, 2)) := by rw [Hid, HP2.out, hok]; rfl
              have r0 := HS1.out.hr.cell 0
              have r1 := HS1.out.hr.cell 1
              have r2 := HS1.out.hr.cell 2
              have r3 := HS1.out.hr.cell 3
              have r4 := HS1.out.hr.cell 4
              have r5 := HS1.out.hr.cell 5
              simp [uCells] at r0 r1 r2 r3 r4 r5
              have f0 := HS1.out.hr.frozen 0
              have f1 := HS1.out.hr.frozen 1
              have f2 := HS1.out.hr.frozen 2
              have f3 := HS1.out.hr.frozen 3
              have f4 := HS1.out.hr.frozen 4
              have f5 := HS1.out.hr.frozen 5
              go_wp2_with fail
              obtain ⟨q1, q2⟩ := HS1.out.fin uri0
              change bodyPost _ _ _ _ _ (fill6 _ (X + 1 + 1) uri0)
              refine bodyPost_ret (resolve_results rfl rfl q1) rfl ⟨?_, q2⟩
              rw [HP2.out]
              rfl
            | true =>
              have HP3 : Hid (PF = (V, 0)) := by rw [Hid, HP2.out, hok]; rfl
              have o0 := HO8.out.cell 0
              have o1 := HO8.out.cell 1
              have o2 := HO8.out.cell 2
              have o3 := HO8.out.cell 3
              have o4 := HO8.out.cell 4
              have o5 := HO8.out.cell 5
              simp [uCells] at o0 o1 o2 o3 o4 o5
              have r0 := HS1.out.hr.cell 0
              have r1 := HS1.out.hr.cell 1
              have r2 := HS1.out.hr.cell 2
              have r3 := HS1.out.hr.cell 3
              have r4 := HS1.out.hr.cell 4
              have r5 := HS1.out.hr.cell 5
              simp [uCells] at r0 r1 r2 r3 r4 r5
              have f0 := HS1.out.hr.frozen 0
              have f1 := HS1.out.hr.frozen 1
              have f2 := HS1.out.hr.frozen 2
              have f3 := HS1.out.hr.frozen 3
              have f4 := HS1.out.hr.frozen 4
              have f5 := HS1.out.hr.frozen 5
              go_wp2_with fail
              obtain ⟨q1, q2⟩ := HS1.out.fin V
              change bodyPost _ _ _ _ _ (fill6 _ (X + 1 + 1) V)
              refine bodyPost_ret (resolve_results rfl rfl q1) rfl ⟨?_, q2⟩
              rw [HP3.out]
              rfl
end Go.Proofs.YtijpfcjlochahaaGreatDoor
namespace Go.Proofs.YtijpfcjlochahaaGreatDoor
open Go Go.RowKit
set_option linter.unusedVariables false
set_option linter.unusedSimpArgs false

/-- Parse answers at a text as the plain function. -/
def ParseOk (s : List UInt8) : Prop := ∀ W, Glob W → Calls Tryz.prog 51 #[.string (bs s)] W fun e W' => e = .returned (.tuple #[(parseF s).1.val, .int .i64 (parseF s).2]) ∧ Below W.heap.size W W'
theorem indexAny_lt (chars : List UInt8) : ∀ l : List UInt8, Lib.indexAny l chars < l.length
  | [] => by simp [Lib.indexAny]
  | b :: l => by
    have ih := indexAny_lt chars l
    rw [Lib.indexAny, List.length_cons]
    split
    · omega
    · split <;> omega
theorem parseOk_ascii (s : List UInt8) (hl : s.length ≤ 100000) (ha : ∀ c ∈ s.drop 7, c.toNat < 128) : ParseOk s := by
  intro W hg
  have hge := Lib.indexAny_ge [47, 63] (s.drop 7)
  have hlt := indexAny_lt [47, 63] (s.drop 7)
  rw [List.length_drop] at hlt
  have h := parseZ_calls (bs s) (Lib.indexAny (s.drop 7) [47, 63]) W hg hge (by rw [size_bs]; omega) (fun W' => by
    have hx : (bs s).extract 7 (bs s).size = bs (s.drop 7) := drop_bs s 7
    rw [hx]
    have := Tryz.strings_IndexAny_laid (bs (s.drop 7)) ⟨#[47, 63]⟩ W' (by rw [size_bs, List.length_drop]; omega) (by show 2 < 4294967281; omega)
      (fun j b hj => ha b (by rw [bs_toL] at hj; exact List.mem_of_getElem? hj)) (fun j b hj => by
        have hm : b ∈ [47, 63] := List.mem_of_getElem? hj
        simp at hm
        rcases hm with rfl | rfl <;> decide)
    rw [bs_toL, show (⟨#[47, 63]⟩ : ByteArray).data.toList = [47, 63] from rfl] at this
    exact this)
  rw [L_bs] at h
  exact h
theorem finF5_small {s : List UInt8} {z : UriD × Bool} (hs : s.length ≤ 100000) (h : z.1.small) : (finF5 s z).1.small := by
  unfold finF5
  split
  · exact pathF_small hs h
  · exact uri0_small
theorem slashF_len (s : List UInt8) : (slashF s).length ≤ s.length + 1 := by
  unfold slashF
  split
  · simp
  · omega
theorem parseZ_small (s : List UInt8) (z : Int) : (parseZ s z).1.small := by
  unfold parseZ
  split
  · exact uri0_small
  · rename_i h
    split
    · refine finF5_small ?_ (placeF_small _ ?_)
      · refine Nat.le_trans (slashF_len _) ?_
        have : ∀ k, ((s.drop 7).drop k).length ≤ s.length := fun k => by rw [List.length_drop, List.length_drop]; exact Nat.le_trans (Nat.sub_le _ _) (Nat.sub_le _ _)
        exact Nat.le_trans (Nat.add_le_add_right (this _) 1) (by omega)
      · rw [List.length_take, List.length_drop]; omega
    · exact finF5_small (by omega) uri0_small
theorem parseF_small (s : List UInt8) : (parseF s).1.small := parseZ_small s _
theorem resolveF_small {b u : UriD} (hb : b.small) (hu : u.small) : (resolveF b u).1.small := by
  unfold resolveF
  split
  · rename_i h
    split
    · exact solve_small hb hu (Nat.le_trans (write_path b) (uriOk_parts h.1).2.2) (Nat.le_trans (write_path u) (uriOk_parts h.2.1).2.2)
    · exact uri0_small
  · exact uri0_small
set_option maxRecDepth 20000 in
set_option maxHeartbeats 4000000 in
theorem address_calls (base s : List UInt8) (h1 : ParseOk base) (h2 : ParseOk s) (w : World) (hg : Glob w) :
    Calls Tryz.prog 193 #[.string (bs base), .string (bs s)] w fun e w' => e = .returned (.tuple #[.string (bs (addressF base s).1), .int .i64 (addressF base s).2]) ∧ Below w.heap.size w w' := by
  have HA : Hid (addressF base s = if (parseF s).2 ≠ 0 then ([], (parseF s).2)
    else if (resolveF (parseF base).1 (parseF s).1).2 ≠ 0 then ([], (resolveF (parseF base).1 (parseF s).1).2)
    else printF (resolveF (parseF base).1 (parseF s).1).1) := rfl
  generalize addressF base s = AF at *
  have H1 := Lib.hid h1
  have H2 := Lib.hid h2
  have HG := Lib.hid hg
  have HSB := Lib.hid (parseF_small base)
  have HSU := Lib.hid (parseF_small s)
  unfold ParseOk at H1 H2
  generalize parseF base = PB at *
  generalize parseF s = PU at *
  obtain ⟨b, eb⟩ := PB
  obtain ⟨u, eu⟩ := PU
  clear h1 h2 hg
  simp only at HA HSB HSU
  have HRV := Lib.hid (resolveF_small HSB.out HSU.out)
  have HRC := Lib.hid (fun W hg => resolve_calls b u HSB.out HSU.out W hg)
  generalize resolveF b u = RV at *
  obtain ⟨v, ev⟩ := RV
  simp only at HA HRV
  have HPR := Lib.hid (fun W hg => print_calls5 v HRV.out W hg)
  go_enter Tryz.func193, Tryz.ntmps193
  go_wp2_with fail
  refine (H1.out w HG.out).mono ?_
  rintro e w1 ⟨rfl, hb1⟩
  have HB1 := Lib.hid hb1
  have hx1 := Blk.new w1 94 (uCells b)
  have hb2 : Below w1.heap.size w1 (w1.alloc (.cells (uCells b) 94)) := (Below.refl _ _).alloc (Nat.le_refl _) _
  simp only [UriD.val]
  go_upto_region 2 with (fail)
  change Code.wp _ _ _ _ (w1.alloc (.cells (uCells b) 94))
  generalize w1.alloc (.cells (uCells b) 94) = w2 at *
  have HX2 := Lib.hid hx1
  have HB2 := Lib.hid (HB1.out.trans (hb2.mono HB1.out.size))
  clear hx1 hb1 hb2 HB1
  generalize w1.heap.size = X at *
  go_wp2_with fail
  refine (H2.out w2 (HG.out.below HB2.out)).mono ?_
  rintro e w3 ⟨rfl, hb3⟩
  have HX3 := Lib.hid (HX2.out.below hb3 HX2.out.lt)
  have HB3 := Lib.hid (HB2.out.trans (hb3.mono HB2.out.size))
  have hy1 := Blk.new w3 94 (uCells u)
  have hb4 : Below w3.heap.size w3 (w3.alloc (.cells (uCells u) 94)) := (Below.refl _ _).alloc (Nat.le_refl _) _
  simp only [UriD.val]
  go_upto_region 3 with (fail)
  change Code.wp _ _ _ _ (w3.alloc (.cells (uCells u) 94))
  have hx4 := HX3.out.below hb4 HX3.out.lt
  have hlt := HX3.out.lt
  generalize w3.alloc (.cells (uCells u) 94) = w4 at *
  have HX4 := Lib.hid hx4
  have HY4 := Lib.hid hy1
  have HB4 := Lib.hid (HB3.out.trans (hb4.mono HB3.out.size))
  have hyw : w.heap.size ≤ w3.heap.size := HB3.out.size
  clear hx4 hy1 hb3 hb4 HX2 HB2 HX3 HB3
  generalize w3.heap.size = Y at *
  have HYW := Lib.hid hyw
  clear hyw hlt
  by_cases he : eu = 0
  · have be : (eu != 0) = false := by rw [he]; rfl
    have HA2 : Hid (AF = if ev ≠ 0 then ([], ev) else printF v) := by rw [Hid, HA.out, if_neg (by simpa using he)]
    clear he HA
    have x0 := HX4.out.cell 0
    have x1 := HX4.out.cell 1
    have x2 := HX4.out.cell 2
    have x3 := HX4.out.cell 3
    have x4 := HX4.out.cell 4
    have x5 := HX4.out.cell 5
    have y0 := HY4.out.cell 0
    have y1 := HY4.out.cell 1
    have y2 := HY4.out.cell 2
    have y3 := HY4.out.cell 3
    have y4 := HY4.out.cell 4
    have y5 := HY4.out.cell 5
    simp [uCells] at x0 x1 x2 x3 x4 x5 y0 y1 y2 y3 y4 y5
    go_wp2_with fail
    refine (HRC.out w4 (HG.out.below HB4.out)).mono ?_
    rintro e w5 ⟨rfl, hb5⟩
    have HY5 := Lib.hid (HY4.out.below hb5 HY4.out.lt)
    have HB5 := Lib.hid (HB4.out.trans (hb5.mono HB4.out.size))
    clear x0 x1 x2 x3 x4 x5 y0 y1 y2 y3 y4 y5 hb5 HY4 HB4 HX4
    have y0 := HY5.out.cell 0
    have y1 := HY5.out.cell 1
    have y2 := HY5.out.cell 2
    have y3 := HY5.out.cell 3
    have y4 := HY5.out.cell 4
    have y5 := HY5.out.cell 5
    simp [uCells] at y0 y1 y2 y3 y4 y5
    have f0 := HY5.out.frozen 0
    have f1 := HY5.out.frozen 1
    have f2 := HY5.out.frozen 2
    have f3 := HY5.out.frozen 3
    have f4 := HY5.out.frozen 4
    have f5 := HY5.out.frozen 5
    simp only [UriD.val]
    go_upto_region 6 with (fail)
    have HY6 := Lib.hid (fill6_blk HY5.out v)
    have HB6 := Lib.hid (fill6_below HB5.out HYW.out v)
    change Code.wp _ _ _ _ (fill6 w5 Y v)
    generalize fill6 w5 Y v = w6 at *
    clear y0 y1 y2 y3 y4 y5 f0 f1 f2 f3 f4 f5 HY5 HB5
    by_cases hev : ev = 0
    · have bv : (ev != 0) = false := by rw [hev]; rfl
      have HA3 : Hid (AF = printF v) := by rw [Hid, HA2.out, if_neg (by simpa using hev)]
      clear hev
      have y0 := HY6.out.cell 0
      have y1 := HY6.out.cell 1
      have y2 := HY6.out.cell 2
      have y3 := HY6.out.cell 3
      have y4 := HY6.out.cell 4
      have y5 := HY6.out.cell 5
      simp [uCells] at y0 y1 y2 y3 y4 y5
      go_wp2_with fail
      refine (HPR.out w6 (HG.out.below HB6.out)).mono ?_
      rintro e w7 ⟨rfl, hb7⟩
      have HB7 := Lib.hid (HB6.out.trans (hb7.mono HB6.out.size))
      clear hb7
      go_wp2_with fail
      go_ret2
      exact ⟨by rw [HA3.out]; rfl, HB7.out⟩
    · have bv : (ev != 0) = true := by rw [bne_iff_ne]; exact hev
      have HA3 : Hid (AF = ([], ev)) := by rw [Hid, HA2.out, if_pos hev]
      clear hev
      go_wp2_with fail
      go_ret2
      exact ⟨by rw [HA3.out]; rfl, HB6.out⟩
  · have be : (eu != 0) = true := by rw [bne_iff_ne]; exact he
    have HA2 : Hid (AF = ([], eu)) := by rw [Hid, HA.out, if_pos he]
    clear he
    go_wp2_with fail
    go_ret2
    exact ⟨by rw [HA2.out]; rfl, HB4.out⟩
end Go.Proofs.YtijpfcjlochahaaGreatDoor
