/- The walk of intarsialaw14.LexRemarks. -/
import Derived.Test.YtijpfcjlochahaaDoorLexW
import Derived.Test.YtijpfcjlochahaaDoorLexX
namespace Go.Proofs.YtijpfcjlochahaaDoor
open Go Go.RowKit

theorem feed_parts (x : LexSt) (q : List UInt8) : ∃ yr yi toks err, feedF x q = (⟨yr, yi⟩, toks, err) := ⟨_, _, _, _, rfl⟩
theorem feed_calls2 (rest s : ByteArray) (b : Bool) (w : World) (hsz : rest.size + s.size ≤ 1000000) {yr : List UInt8} {yi : Bool} {toks : List Token} {err : Int} (h : feedF ⟨L rest, b⟩ (L s) = (⟨yr, yi⟩, toks, err)) :
    Calls Tryd.prog 16 #[.agg #[.string rest, .bool b], .string s] w fun e w' =>
      ∃ v, e = .returned (.tuple #[.agg #[.string (bs yr), .bool yi], v, .int .i64 err]) ∧ OwnR w' w.heap.size 30 3 (fun g => w.heap.size ≤ g) v (toks.map Token.gv) ∧ Below w.heap.size w w' := by
  have := feed_calls rest s b w hsz
  rw [h] at this
  exact this
theorem index_mem {l : List UInt8} {c : UInt8} : decide (0 ≤ Lib.indexByte l c) = decide (c ∈ l) := by
  rw [← Lib.index_one]
  induction l with
  | nil => simp [Lib.index]
  | cons x l ih =>
    have hg := Lib.index_ge l [c]
    rw [Bool.eq_iff_iff] at ih ⊢
    simp only [decide_eq_true_eq] at ih ⊢
    unfold Lib.index
    by_cases hx : c = x
    · subst hx
      simp [List.isPrefixOf]
    · have hp : ([c] : List UInt8).isPrefixOf (x :: l) = false := by simpa [List.isPrefixOf] using hx
      rw [hp]
      simp only [Bool.false_eq_true, if_false, List.mem_cons, hx, false_or]
      rw [← ih]
      split
      · rename_i h
        rw [beq_iff_eq] at h
        omega
      · rename_i h
        rw [beq_iff_eq] at h
        omega

theorem contains_calls (c : UInt8) (s : ByteArray) (w : World) : Calls Tryd.prog 15 #[.string s, .string ⟨#[c]⟩] w fun e w' => e = .returned (.bool (decide (c ∈ L s))) ∧ w = w' := by
  refine (Tryd.strings_Contains_one s c w).mono ?_
  intro e w' h
  obtain ⟨h1, h2⟩ := h
  exact ⟨h1.trans (ret_bool index_mem), h2.symm⟩
set_option maxRecDepth 20000 in
set_option maxHeartbeats 4000000 in
theorem lexRemarks_calls (s : ByteArray) (m : Int) (w : World) (hm : w.cell? ⟨0, 0, none⟩ = some (.int .i64 m)) :
    Calls Tryd.prog 4 #[.string s] w fun e w' => e = .returned (.bool true) ∧ Below w.heap.size w w' := by
  obtain ⟨s0, hs0⟩ : ∃ s0, s0 = s.extract 0 (min s.size 1000) := ⟨_, rfl⟩
  go_enter Tryd.func4, Tryd.ntmps4
  go_upto_region 1 with (fail)
  go_cut [0] from 12 to 16 (fun v wx => v = .string s0 ∧ wx = w)
  case first =>
    go_wp2_with fail
    all_goals
      go_meet
      case rel =>
        refine ⟨congrArg Value.string ?_, rfl⟩
        rw [hs0]
        congr 1
        first
          | omega
          | (exact L_ext (by rw [L_extract, Nat.min_eq_left (by omega), List.drop_zero, size_L, List.take_length]))
  case rest =>
    obtain ⟨rfl, hww⟩ := hcut
    have hww := hww.symm
    subst hww
    have hs1 : s0.size ≤ 1000 := by rw [hs0, ByteArray.size_extract]; omega
    have HM := Lib.hid hm
    clear hs0 hm
    obtain ⟨has, hhas⟩ : ∃ has, has = decide (45 ∈ L s0) := ⟨_, rfl⟩
    have HAS := Lib.hid hhas
    clear hhas
    go_upto_if 18 with (refine (contains_calls 45 s0 _).mono ?_; rintro e w' ⟨rfl, rfl⟩; rw [← HAS.out])
    go_cut [0] from 19 to 20 (fun sv wx => ∃ l : List UInt8, sv = .string (bs l) ∧ l.length ≤ 1000 ∧ Hid (No45 l) ∧ Below w.heap.size w wx ∧ Hid (wx.cell? ⟨0, 0, none⟩ = some (.int .i64 m)))
    case first =>
      cases has with
      | true =>
        go_wp2_with fail
        refine (repl_calls 45 43 (by decide) s0 m w (by omega) HM.out).mono ?_
        rintro e w1 ⟨rfl, hb1, hm1⟩
        have HM1 := Lib.hid hm1
        clear hm1
        go_wp2_with fail
        go_meet
        case rel => exact ⟨_, rfl, by rw [putB_len, ← size_L]; exact hs1, fun x hx => putB_mem (by decide) _ x hx, hb1, HM1⟩
      | false =>
        go_wp2_with fail
        go_meet
        case rel =>
          refine ⟨L s0, by rw [bs_L], by rw [← size_L]; exact hs1, fun x hx e => ?_, Below.refl _ _, HM⟩
          have := HAS.out.symm
          rw [decide_eq_false_iff_not] at this
          exact this (e ▸ hx)
    case rest =>
      obtain ⟨l, rfl, hl, H45, hb1, HM1⟩ := hcut
      obtain ⟨w1, rfl⟩ : ∃ w1 : World, w1 = wc := ⟨_, rfl⟩
      obtain ⟨yr, yi, toks, err, hy⟩ := feed_parts ⟨[], false⟩ l
      have HY := Lib.hid hy
      have hlz : (bs l).size ≤ 1000 := by rw [size_bs]; exact hl
      clear hy HM HAS hs1
      go_wp2_with fail
      refine (feed_calls2 ⟨#[]⟩ (bs l) false w1 (by show 0 + (bs l).size ≤ 1000000; omega) (show feedF ⟨L ⟨#[]⟩, false⟩ (L (bs l)) = (⟨yr, yi⟩, toks, err) by rw [L_bs]; exact HY.out)).mono ?_
      rintro e w2 ⟨vt, rfl, hown, hb2⟩
      obtain ⟨At, ct, rfl⟩ := hown.form
      have hxb := Blk.new w2 34 #[.string (bs yr), .bool yi]
      have x0 := hxb.cell 0
      have x1 := hxb.cell 1
      have hb3 := (hb1.trans (hb2.mono hb1.size)).alloc (Nat.le_trans hb1.size hb2.size) (.cells #[.string (bs yr), .bool yi] 34)
      have hc3 : Hid ((w2.alloc (.cells #[.string (bs yr), .bool yi] 34)).cell? ⟨0, 0, none⟩ = some (.int .i64 m)) := by
        have h0 := World.block_lt_of_cell? w1 _ HM1.out
        have hb := hb2.alloc hb2.size (.cells #[.string (bs yr), .bool yi] 34)
        exact (hb.cell (p := ⟨0, 0, none⟩) h0).trans HM1.out
      clear hown hxb hb1 hb2 HM1
      by_cases herr : err = 0
      · have hbe : (err != 0) = false := by rw [herr]; rfl
        by_cases hyr : yr = []
        · have htl : (bs yr).toList.isEmpty = true := by rw [hyr, toList_bs]; rfl
          have hpl := allF_read H45.out (show feedF ⟨[], false⟩ l = (⟨yr, yi⟩, toks, 0) by rw [HY.out, herr]) hyr
          have HP1 := Lib.hid hpl.1
          have HP2 := Lib.hid hpl.2
          clear hpl herr hyr HY
          go_wp2_with fail
          have hbx := hb3.size
          generalize w2.alloc (.cells #[.string (bs yr), .bool yi] 34) = w3 at *
          refine (all_calls (bs l) w3 (by omega)).mono ?_
          rw [L_bs, HP1.out]
          rintro e w4 ⟨v4, rfl, hg4, hb4⟩
          obtain ⟨A4, c4, rfl, -, -, -⟩ := toks_open hg4
          have HG4 := Lib.hid hg4
          have hz1 : (⟨#[60, 33, 45, 45, 101, 115, 105]⟩ : ByteArray).size + (bs l).size ≤ 2000 := by show 7 + (bs l).size ≤ 2000; omega
          have hz2 : ((⟨#[60, 33, 45, 45, 101, 115, 105]⟩ : ByteArray) ++ bs l).size ≤ 2000 := by rw [ByteArray.size_append]; exact hz1
          have HL : Hid (L ((⟨#[60, 33, 45, 45, 101, 115, 105]⟩ : ByteArray) ++ bs l ++ ⟨#[45, 45, 62]⟩) = remB ++ l ++ behB) := by rw [Hid, L_append, L_append, L_bs]; rfl
          have HZ : Hid (((⟨#[60, 33, 45, 45, 101, 115, 105]⟩ : ByteArray) ++ bs l ++ ⟨#[45, 45, 62]⟩).size ≤ 1000000) := by
            rw [Hid, ByteArray.size_append]
            show _ + 3 ≤ _
            omega
          clear hg4
          go_wp2_with fail
          refine (all_calls _ w4 HZ.out).mono ?_
          rw [HL.out, HP2.out]
          rintro e w5 ⟨v5, rfl, hg5, hb5⟩
          obtain ⟨A5, c5, rfl, -, -, -⟩ := toks_open hg5
          have HG5 := Lib.hid hg5
          have hb35 := hb4.trans (hb5.mono hb4.size)
          have hc5 : Hid (w5.cell? ⟨0, 0, none⟩ = some (.int .i64 m)) := (hb35.cell (p := ⟨0, 0, none⟩) (World.block_lt_of_cell? w3 _ hc3.out)).trans hc3.out
          clear hg5 x0 x1 hz1 hz2 HL HZ
          go_wp2_with fail
          refine (repl_calls 60 40 (by decide) (bs l) m w5 (by omega) hc5.out).mono ?_
          rw [L_bs]
          rintro e w6 ⟨rfl, hb6, -⟩
          have hbare : Bare (putB 60 40 l) := fun x hx => ⟨putB_mem (by decide) _ x hx, putB_keep (d := 45) (by decide) H45.out x hx⟩
          have HB := Lib.hid hbare
          have hl2 : (bs (putB 60 40 l)).size ≤ 1000 := by rw [size_bs, putB_len]; exact hl
          clear hbare
          generalize putB 60 40 l = l2 at *
          have hz1 : (⟨#[60, 33, 45, 45, 32]⟩ : ByteArray).size + (bs l2).size ≤ 2000 := by show 5 + (bs l2).size ≤ 2000; omega
          have hz2 : ((⟨#[60, 33, 45, 45, 32]⟩ : ByteArray) ++ bs l2).size ≤ 2000 := by rw [ByteArray.size_append]; exact hz1
          have HL : Hid (L ((⟨#[60, 33, 45, 45, 32]⟩ : ByteArray) ++ bs l2 ++ ⟨#[45, 45, 62]⟩) = remText ++ l2 ++ behB) := by rw [Hid, L_append, L_append, L_bs]; rfl
          have HZ : Hid (((⟨#[60, 33, 45, 45, 32]⟩ : ByteArray) ++ bs l2 ++ ⟨#[45, 45, 62]⟩).size ≤ 1000000) := by
            rw [Hid, ByteArray.size_append]
            show _ + 3 ≤ _
            omega
          go_wp2_with fail
          refine (all_calls _ w6 HZ.out).mono ?_
          rw [HL.out, allF_unread l2 HB.out]
          rintro e w7 ⟨v7, rfl, hg7, hb7⟩
          obtain ⟨A7, c7, rfl, -, -, ho7⟩ := toks_open (GR.lt_heap _ _ hg7)
          obtain ⟨b7, o7, rfl, ⟨-, hb7l⟩, hc7⟩ := ho7 (by simp)
          obtain ⟨va7, z0, -, -, -⟩ := hc7 0 (by simp)
          simp only [List.getElem_cons_zero, Nat.zero_mul, Nat.add_zero, textTok] at z0
          have hb57 := hb6.trans (hb7.mono hb6.size)
          have hb37 := hb35.trans (hb57.mono hb35.size)
          clear hc7 ho7 hg7 hz1 hz2 HL HZ
          go_wp2_with fail
          refine (alive_calls w7).mono ?_
          rintro e w8 ⟨rfl, hb8⟩
          have z1 := (hb8.cell (p := ⟨b7, o7, none⟩) hb7l).trans z0
          have hb58 := hb57.trans (hb8.mono hb57.size)
          have hb48 := hb5.trans (hb58.mono hb5.size)
          have hva := HG4.out.below hb48
          have hvb := HG5.out.below hb58
          have hs8 := hb8.size
          clear z0
          go_wp2_with fail
          refine (same_calls (joinF toks) (joinF toks) _ _ _ _ w8 hva hvb).mono ?_
          rw [decide_eq_true rfl]
          rintro e w9 ⟨rfl, hb9⟩
          have z2 := (hb9.cell (p := ⟨b7, o7, none⟩) (show b7 < w8.heap.size by omega)).trans z1
          clear z1
          go_wp2_with fail
          go_ret
          have hb38 := hb37.trans (hb8.mono hb37.size)
          have hb39 := hb38.trans (hb9.mono hb38.size)
          exact ⟨rfl, hb3.trans (hb39.mono hb3.size)⟩
        · have htl : (bs yr).toList.isEmpty = false := by rw [toList_bs]; simpa using hyr
          clear hyr herr HY
          go_wp2_with fail
          refine (alive_calls _).mono ?_
          rintro e w4 ⟨rfl, hb4⟩
          go_wp2_with fail
          go_ret
          exact ⟨rfl, hb3.trans (hb4.mono hb3.size)⟩
      · have hbe : (err != 0) = true := by rw [bne_iff_ne]; exact herr
        clear herr HY
        go_wp2_with fail
        refine (alive_calls _).mono ?_
        rintro e w4 ⟨rfl, hb4⟩
        go_wp2_with fail
        go_ret
        exact ⟨rfl, hb3.trans (hb4.mono hb3.size)⟩
end Go.Proofs.YtijpfcjlochahaaDoor
