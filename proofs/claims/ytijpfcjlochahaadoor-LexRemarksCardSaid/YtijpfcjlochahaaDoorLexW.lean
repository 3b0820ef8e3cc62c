/- The walk of intarsialaw14.LexPlain. -/
import Derived.Test.YtijpfcjlochahaaDoorLexM
import Derived.Test.YtijpfcjlochahaaDoorLexV
import Derived.Test.YtijpfcjlochahaaDoorShelf
import Derived.Deep.CutRange
namespace Go.Proofs.YtijpfcjlochahaaDoor
open Go Go.RowKit

theorem repl_calls (a b : UInt8) (hab : a ≠ b) (s : ByteArray) (m : Int) (w : World) (hs : s.size ≤ 1000000) (hm : w.cell? ⟨0, 0, none⟩ = some (.int .i64 m)) :
    Calls Tryd.prog 12 #[.string s, .string ⟨#[a]⟩, .string ⟨#[b]⟩] w fun e w' => e = .returned (.string (bs (putB a b (L s)))) ∧ Below w.heap.size w w' ∧ w'.cell? ⟨0, 0, none⟩ = some (.int .i64 m) := by
  have hc := Lib.countB_mul_le ⟨#[a]⟩ (by show 1 ≤ 1; omega) s.size s (Nat.le_refl _)
  have hz : (⟨#[a]⟩ : ByteArray).size = 1 := rfl
  have hz2 : (⟨#[b]⟩ : ByteArray).size = 1 := rfl
  rw [hz, Nat.mul_one] at hc
  have h0 : 0 < w.heap.size := World.block_lt_of_cell? w _ hm
  refine (Tryd.strings_ReplaceAll s ⟨#[a]⟩ ⟨#[b]⟩ m w (by omega) hm (by rw [hz]; omega) (by rw [hz2, Nat.mul_one]; omega)).mono ?_
  rintro e w' ⟨rfl, hb⟩
  refine ⟨ret_eq (congrArg Value.string ?_), hb, (hb.cell (p := ⟨0, 0, none⟩) h0).trans hm⟩
  show bs (Lib.replaceAll (L s) [a] [b]) = _
  rw [replaceAll_byte hab]

set_option maxRecDepth 20000 in
set_option maxHeartbeats 4000000 in
theorem lexPlain_calls (s : ByteArray) (m : Int) (w : World) (hm : w.cell? ⟨0, 0, none⟩ = some (.int .i64 m)) :
    Calls Tryd.prog 3 #[.string s] w fun e w' => e = .returned (.bool true) ∧ Below w.heap.size w w' := by
  obtain ⟨s0, hs0⟩ : ∃ s0, s0 = s.extract 0 (min s.size 1000) := ⟨_, rfl⟩
  go_enter Tryd.func3, Tryd.ntmps3
  go_upto_region 1 with (fail)
  go_cut [0] from 7 to 11 (fun v wx => v = .string s0 ∧ wx = w)
  case first =>
    go_wp2_with fail
    all_goals
      go_meet
      case rel =>
        refine ⟨congrArg Value.string ?_, rfl⟩
        rw [hs0]
        congr 1
        first
          | omega
          | (exact L_ext (by rw [L_extract, Nat.min_eq_left (by omega), List.drop_zero, size_L, List.take_length]))
  case rest =>
    obtain ⟨rfl, hww⟩ := hcut
    have hww := hww.symm
    subst hww
    have hs1 : s0.size ≤ 1000 := by rw [hs0, ByteArray.size_extract]; omega
    have HM := Lib.hid hm
    clear hs0 hm
    go_wp2_with fail
    refine (repl_calls 60 40 (by decide) s0 m w (by omega) HM.out).mono ?_
    rintro e w1 ⟨rfl, hb1, hm1⟩
    have HM1 := Lib.hid hm1
    clear hm1
    go_wp2_with fail
    refine (repl_calls 45 43 (by decide) _ m w1 (by rw [size_bs, putB_len, ← size_L]; omega) HM1.out).mono ?_
    rw [L_bs]
    rintro e w2 ⟨rfl, hb2, -⟩
    have hbare : Bare (putB 45 43 (putB 60 40 (L s0))) := fun x hx => ⟨putB_keep (d := 60) (by decide) (putB_mem (by decide) _) x hx, putB_mem (by decide) _ x hx⟩
    have hlen : (putB 45 43 (putB 60 40 (L s0))).length ≤ 1000 := by rw [putB_len, putB_len, ← size_L]; exact hs1
    generalize putB 45 43 (putB 60 40 (L s0)) = l at *
    have hb12 := hb1.trans (hb2.mono hb1.size)
    have HBR := Lib.hid hbare
    have hlz : (bs l).size ≤ 1000 := by rw [size_bs]; exact hlen
    clear hbare hb1 hb2
    go_wp2_with fail
    refine (all_calls (bs l) w2 (by omega)).mono ?_
    rw [L_bs, allF_bare l HBR.out]
    rintro e w3 ⟨v3, rfl, hg3, hb3⟩
    have hb13 := hb12.trans (hb3.mono hb12.size)
    clear hb12
    have hz1 : (⟨#[60, 101, 115, 105, 58, 118, 97, 114, 115, 62]⟩ : ByteArray).size + (bs l).size ≤ 2000 := by show 10 + (bs l).size ≤ 2000; omega
    have hz2 : ((⟨#[60, 101, 115, 105, 58, 118, 97, 114, 115, 62]⟩ : ByteArray) ++ bs l).size ≤ 2000 := by rw [ByteArray.size_append]; exact hz1
    have hL : L ((⟨#[60, 101, 115, 105, 58, 118, 97, 114, 115, 62]⟩ : ByteArray) ++ bs l ++ ⟨#[60, 47, 101, 115, 105, 58, 118, 97, 114, 115, 62]⟩) = varsOpen ++ l ++ varsClose := by
      rw [L_append, L_append, L_bs]; rfl
    have hz3 : ((⟨#[60, 101, 115, 105, 58, 118, 97, 114, 115, 62]⟩ : ByteArray) ++ bs l ++ ⟨#[60, 47, 101, 115, 105, 58, 118, 97, 114, 115, 62]⟩).size ≤ 1000000 := by
      rw [ByteArray.size_append]
      show _ + 11 ≤ _
      omega
    have HL := Lib.hid hL
    have HZ := Lib.hid hz3
    have HG3 := Lib.hid hg3
    by_cases hl : l = []
    · have e1 : (if l = [] then [] else [textTok l]) = ([] : List Token) := if_pos hl
      have e2 : allF (varsOpen ++ l ++ varsClose) = ([⟨1, varsB, []⟩, ⟨2, varsB, []⟩], 0) := by rw [allF_vars l HBR.out, if_pos hl]
      have HE2 := Lib.hid e2
      rw [e1] at hg3 ⊢
      obtain ⟨A3, c3, rfl, -, -, -⟩ := toks_open hg3
      have htl : (bs l).toList.isEmpty = true := by rw [hl, toList_bs]; rfl
      clear e1 e2 hL hz3 hg3 HG3 hl
      go_wp2_with fail
      refine (all_calls _ w3 HZ.out).mono ?_
      rw [HL.out, HE2.out]
      rintro e w4 ⟨v4, rfl, hg4, hb4⟩
      obtain ⟨A4, c4, rfl, -, -, -⟩ := toks_open hg4
      have hb14 := hb13.trans (hb4.mono hb13.size)
      go_wp2_with fail
      refine (alive_calls w4).mono ?_
      rintro e w5 ⟨rfl, hb5⟩
      go_wp2_with fail
      go_ret
      exact ⟨rfl, hb14.trans (hb5.mono hb14.size)⟩
    · have e1 : (if l = [] then [] else [textTok l]) = [textTok l] := if_neg hl
      have e2 : allF (varsOpen ++ l ++ varsClose) = ([⟨1, varsB, []⟩, textTok l, ⟨2, varsB, []⟩], 0) := by rw [allF_vars l HBR.out, if_neg hl]
      have HE2 := Lib.hid e2
      rw [e1] at hg3 ⊢
      obtain ⟨A3, c3, rfl, -, -, ho3⟩ := toks_open (GR.lt_heap _ _ hg3)
      obtain ⟨b3, o3, rfl, ⟨-, hb3l⟩, hc3⟩ := ho3 (by simp)
      obtain ⟨va3, x0, x1, -, -⟩ := hc3 0 (by simp)
      simp only [List.getElem_cons_zero, Nat.zero_mul, Nat.add_zero, textTok] at x0 x1
      have htl : (bs l).toList.isEmpty = false := by rw [toList_bs]; simpa using hl
      clear e1 e2 hL hz3 hg3 HG3 hl hc3 ho3
      go_wp2_with fail
      refine (all_calls _ w3 HZ.out).mono ?_
      rw [HL.out, HE2.out]
      rintro e w4 ⟨v4, rfl, hg4, hb4⟩
      obtain ⟨A4, c4, rfl, -, -, ho4⟩ := toks_open (GR.lt_heap _ _ hg4)
      obtain ⟨b4, o4, rfl, ⟨-, hb4l⟩, hc4⟩ := ho4 (by simp)
      obtain ⟨vb0, y0, -, -, -⟩ := hc4 0 (by simp)
      obtain ⟨vb1, -, y1, -, -⟩ := hc4 1 (by simp)
      obtain ⟨vb2, y2, y3, -, -⟩ := hc4 2 (by simp)
      simp only [List.getElem_cons_zero, List.getElem_cons_succ, Nat.zero_mul, Nat.one_mul, Nat.add_zero, textTok] at y0 y1 y2 y3
      have hb14 := hb13.trans (hb4.mono hb13.size)
      have x0 := (hb4.cell (p := ⟨b3, o3, none⟩) hb3l).trans x0
      have x1 := (hb4.cell (p := ⟨b3, o3 + 1, none⟩) hb3l).trans x1
      have hs4 := hb4.size
      clear hc4 ho4 hg4
      go_wp2_with fail
      refine (alive_calls w4).mono ?_
      rintro e w5 ⟨rfl, hb5⟩
      have x0 := (hb5.cell (p := ⟨b3, o3, none⟩) (show b3 < w4.heap.size by omega)).trans x0
      have x1 := (hb5.cell (p := ⟨b3, o3 + 1, none⟩) (show b3 < w4.heap.size by omega)).trans x1
      have y0 := (hb5.cell (p := ⟨b4, o4, none⟩) hb4l).trans y0
      have y1 := (hb5.cell (p := ⟨b4, o4 + 3 + 1, none⟩) hb4l).trans y1
      have y2 := (hb5.cell (p := ⟨b4, o4 + 2 * 3, none⟩) hb4l).trans y2
      have y3 := (hb5.cell (p := ⟨b4, o4 + 2 * 3 + 1, none⟩) hb4l).trans y3
      go_wp2_with fail
      go_ret
      exact ⟨ret_bool (by rw [toList_bs]; rfl), hb14.trans (hb5.mono hb14.size)⟩
end Go.Proofs.YtijpfcjlochahaaDoor
