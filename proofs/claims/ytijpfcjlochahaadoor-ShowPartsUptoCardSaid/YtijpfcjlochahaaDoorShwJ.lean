/- The walk of ShowParts. -/
import Derived.Test.YtijpfcjlochahaaDoorShwK
namespace Go.Proofs.YtijpfcjlochahaaDoor
open Go Go.RowKit

theorem textF_append : ∀ (l m : List Elem), textF (l ++ m) = textF l + textF m
  | [], m => by simp [textF]
  | e :: l, m => by simp only [List.cons_append, textF]; rw [textF_append l m, Nat.add_assoc]
theorem textF_take (l : List Elem) (k : Nat) : textF (l.take k) ≤ textF l := by
  have e : textF l = textF (l.take k) + textF (l.drop k) := by rw [← textF_append, List.take_append_drop]
  omega
theorem textF_drop (l : List Elem) (k : Nat) : textF (l.drop k) ≤ textF l := by
  have e : textF l = textF (l.take k) + textF (l.drop k) := by rw [← textF_append, List.take_append_drop]
  omega
theorem row_drop {w : World} {F : Nat → Prop} {sz : Nat} {l : List GV} {A : Option Addr} {n c : Nat} (h : GR w F (.row sz l) [.slice A n c]) (k : Nat) (hk : k ≤ l.length) : GR w F (.row sz (l.drop k)) [.slice (A.map (·.add (k * sz))) (n - k) (c - k)] := by
  obtain ⟨A', c', xs, h1, h2, h3, h4, h5, h6⟩ := GR_row.1 h
  simp only [List.cons.injEq, and_true] at h1
  injection h1 with e1 e2 e3
  subst e1 e2 e3
  refine GR_row.2 ⟨A.map (·.add (k * sz)), c - k, xs.drop (k * sz), by rw [List.length_drop], by rw [List.length_drop]; omega, by omega, by rw [List.length_drop, List.length_drop, h4, Nat.sub_mul], ?_, h6.drop k⟩
  intro hne
  have hne2 : xs ≠ [] := by rintro rfl; simp at hne
  obtain ⟨b, o, q1, q2, q3⟩ := h5 hne2
  subst q1
  refine ⟨b, o + k * sz, by simp [Addr.add], q2, fun j u hu => ?_⟩
  rw [List.getElem?_drop] at hu
  have := q3 _ _ hu
  rwa [← Nat.add_assoc] at this
def wrapV (l : List Elem) : List Elem := [.mk 10 [] [] [] false [] l]
def vars1 : List UInt8 := [60, 101, 115, 105, 58, 118, 97, 114, 115, 62]
def vars2 : List UInt8 := [60, 47, 101, 115, 105, 58, 118, 97, 114, 115, 62]
theorem wrapV_sh (l : List Elem) : shF (wrapV l) = vars1 ++ (shF l ++ vars2) := by
  simp [wrapV, shF, shE, shName, shTag, shAttrs, vars1, vars2]
theorem wrapV_text (l : List Elem) : textF (wrapV l) = textF l := by simp [wrapV, textF, textE]
set_option maxRecDepth 20000 in
set_option maxHeartbeats 4000000 in
theorem showParts_calls (l : List Elem) (cut : Int) (m : Int) (w : World) {v : Value} (hv : GR w (fun _ => True) (.row 7 (l.map Elem.gv)) [v]) (_hm : w.cell? ⟨0, 0, none⟩ = some (.int .i64 m)) (ht : textF l ≤ 1048576) :
    Calls Tryd.prog 9 #[v, .int .i64 cut] w fun e w' => e = .returned (.bool true) ∧ Below w.heap.size w w' := by
  obtain ⟨A, c, rfl, hlc, hcm, hopen⟩ := elems_open hv
  have HV := Lib.hid hv
  have HT := Lib.hid ht
  obtain ⟨k, hk⟩ : ∃ k : Nat, (k : Int) = min (max cut 0) (l.length : Int) := ⟨(min (max cut 0) (l.length : Int)).toNat, by omega⟩
  have HK := Lib.hid hk
  have hkl : k ≤ l.length := by omega
  have HOPN := Lib.hid hopen
  clear hv _hm ht hk hopen
  unfold maxLen at hcm
  go_enter Tryd.func9, Tryd.ntmps9
  go_wp2_with fail
  refine (rcountL_calls 200 (by omega) l _ _ _ HV.out).mono ?_
  rintro e w1 ⟨rfl, hb1⟩
  have HB1 := Lib.hid hb1
  clear hb1
  by_cases h2 : 200 < countF 200 l
  · have hd1 : (200 : Int) < (countF 200 l : Int) := by omega
    have hd2 : decide ((200 : Int) < (countF 200 l : Int)) = true := by simpa using hd1
    generalize countF 200 l = R at *
    clear h2
    go_wp2_with fail
    refine (alive16_calls _).mono ?_
    rintro e w2 ⟨rfl, hb2⟩
    have HB2 := Lib.hid (HB1.out.trans (hb2.mono HB1.out.size))
    clear hb2
    go_wp2_with fail
    go_ret
    exact ⟨rfl, HB2.out⟩
  have hd1 : ¬ (200 : Int) < (countF 200 l : Int) := by omega
  have hd2 : decide ((200 : Int) < (countF 200 l : Int)) = false := by simpa using hd1
  generalize countF 200 l = R at *
  clear h2
  have HC := Lib.hid (fun (W : World) (h : GR W (fun _ => True) (.row 7 (l.map Elem.gv)) [.slice A l.length c]) => print_calls l _ _ W h (fun hc => shF_ok (Nat.le_trans HT.out (by omega)) hc))
  rcases print_cases l with h0 | ⟨h1, h2, -⟩
  · obtain ⟨p1, p2, p3, p4⟩ := print_ok h0
    have HP : Hid (printF l = (shF l, 0)) := Prod.ext p1 h0
    rw [HP.out] at HC
    have HLE : Hid ((shF l).length ≤ 20000) := p2
    clear h0 p1 p2 p3 p4
    go_wp2_with fail
    refine (HC.out _ (HV.out.below HB1.out)).mono ?_
    rintro e w2 ⟨rfl, hb2⟩
    have HB2 := Lib.hid (HB1.out.trans (hb2.mono HB1.out.size))
    clear hb2
    go_upto_region 6 with (fail)
    go_cut [1] from 25 to 29 (fun v wx => v = .int .i64 k ∧ wx = w2)
    case first =>
      go_wp2_with fail
      all_goals
        go_meet
        case rel =>
          refine ⟨?_, rfl⟩
          have := HK.out
          congr 1
          first
            | omega
            | (split <;> omega)
            | (repeat' split) <;> omega
    case rest =>
      obtain ⟨rfl, hww⟩ := hcut
      have hww := hww.symm
      subst hww
      have hk0 : (0 : Int) ≤ (k : Int) := by omega
      have hk1 : (k : Int) ≤ (c : Int) := by omega
      have hk2 : (k : Int) ≤ (l.length : Int) := by omega
      have HT1 := Lib.hid (Nat.le_trans (textF_take l k) (Nat.le_trans HT.out (by omega : 1048576 ≤ 20000000)))
      have HT2 := Lib.hid (Nat.le_trans (textF_drop l k) (Nat.le_trans HT.out (by omega : 1048576 ≤ 20000000)))
      have HG1 : Hid (GR w (fun _ => True) (.row 7 ((l.take k).map Elem.gv)) [.slice A k c]) := by
        have h := row_take HV.out k (by rw [List.length_map]; exact hkl)
        rw [← List.map_take] at h
        exact h
      have HG2 : Hid (GR w (fun _ => True) (.row 7 ((l.drop k).map Elem.gv)) [.slice (if c = k then A else A.map (·.add (k * 7))) (l.length - k) (c - k)]) := by
        have h := row_drop HV.out k (by rw [List.length_map]; exact hkl)
        rw [← List.map_drop] at h
        split
        · rename_i hck
          have hkl2 : l.length = k := by omega
          subst hck
          rw [List.drop_of_length_le (by omega)]
          rw [hkl2, Nat.sub_self]
          exact GR_row.2 ⟨A, 0, [], rfl, Nat.le_refl _, by simp [maxLen], rfl, fun h => absurd rfl h, GRl_nil.2 rfl⟩
        · exact h
      go_wp2_with fail
      refine (print_calls (l.take k) _ _ _ (HG1.out.below HB2.out) (fun hc => shF_ok HT1.out hc)).mono ?_
      rintro e w3 ⟨rfl, hb3⟩
      have HB3 := Lib.hid (HB2.out.trans (hb3.mono HB2.out.size))
      clear hb3
      have HQ : Hid ((printF (l.take k)).2 = 0 → (printF (l.drop k)).2 = 0 → bs (printF (l.take k)).1 ++ bs (printF (l.drop k)).1 = bs (shF l) ∧ (bs (printF (l.take k)).1).size + (bs (printF (l.drop k)).1).size ≤ 40000) := by
        intro h1 h2
        obtain ⟨p1, p2, -⟩ := print_ok h1
        obtain ⟨q1, q2, -⟩ := print_ok h2
        rw [p1, q1, bs_append, ← shF_append, List.take_append_drop, size_bs, size_bs]
        exact ⟨rfl, by omega⟩
      have HC2 : Hid (∀ W : World, Below w.heap.size w W → Calls Tryd.prog 32 #[.slice (if c = k then A else A.map (·.add (k * 7))) (l.length - k) (c - k)] W fun e w' => e = .returned (.tuple #[.string (bs (printF (l.drop k)).1), .int .i64 (printF (l.drop k)).2]) ∧ Below W.heap.size W w') :=
        fun W hW => print_calls (l.drop k) _ _ _ (HG2.out.below hW) (fun hc => shF_ok HT2.out hc)
      clear HG1 HG2
      have HP3 := Lib.hid (print_cases (wrapV l))
      have HQ3 : Hid ((printF (wrapV l)).2 = 0 → bs (printF (wrapV l)).1 = bs (vars1 ++ (shF l ++ vars2))) := fun h => by rw [(print_ok h).1, wrapV_sh]
      have HTW := Lib.hid (Nat.le_trans (Nat.le_of_eq (wrapV_text l)) (Nat.le_trans HT.out (by omega : 1048576 ≤ 20000000)))
      generalize printF (l.take k) = P1 at *
      generalize printF (l.drop k) = P2 at *
      obtain ⟨s1, z1⟩ := P1
      obtain ⟨s2, z2⟩ := P2
      have HPW := Lib.hid (fun (W : World) (v : Value) (h : GR W (fun _ => True) (.row 7 ((wrapV l).map Elem.gv)) [v]) => print_calls (wrapV l) v _ W h (fun hc => shF_ok HTW.out hc))
      generalize printF (wrapV l) = P3 at *
      obtain ⟨s3, z3⟩ := P3
      have HQS : Hid ((bs (shF l)).size ≤ 20000) := by rw [Hid, size_bs]; exact HLE.out
      generalize shF l = S at *
      have HCASE : Hid ((z1 = 0 ∧ z2 = 0) ∨ z1 ≠ 0 ∨ (z1 = 0 ∧ z2 ≠ 0)) := by rw [Hid]; omega
      by_cases hck : c = k
      all_goals
        first
          | (rw [if_pos hck] at HC2
             have hck := hck.symm
             subst hck
             rw [Nat.sub_self, show l.length - k = 0 by omega] at HC2
             clear hck)
          | (rw [if_neg hck] at HC2
             have hck : ((c : Int) == (k : Int)) = false := by rw [beq_eq_false_iff_ne]; omega)
        go_wp2_with fail
        refine (HC2.out w3 HB3.out).mono ?_
        rintro e w4 ⟨rfl, hb4⟩
        have HB4 := Lib.hid (HB3.out.trans (hb4.mono HB3.out.size))
        clear hb4
        rcases HCASE.out with ⟨h1, h2⟩ | h1 | ⟨h1, h2⟩
      all_goals
        first
          | (subst h1 h2
             have hq1 : (bs s1).size + (bs s2).size ≤ 40000 := (HQ.out rfl rfl).2
             have hq2 : bs s1 ++ bs s2 = bs S := (HQ.out rfl rfl).1)
          | (subst h1
             have hq1 : (z2 == 0) = false := by rw [beq_eq_false_iff_ne]; exact h2)
          | have hq1 : (z1 == 0) = false := by rw [beq_eq_false_iff_ne]; exact h1
        go_wp2_with fail
        refine (alive16_calls _).mono ?_
        rintro e w5 ⟨rfl, hb5⟩
        have HB5 := Lib.hid (HB4.out.trans (hb5.mono HB4.out.size))
        clear hb5 hq1
        have hsz : (⟨#[60, 101, 115, 105, 58, 118, 97, 114, 115, 62]⟩ : ByteArray).size + (bs S).size ≤ 30000 := by
          have := HQS.out
          show 10 + _ ≤ _
          omega
        have hsz2 : (⟨#[60, 101, 115, 105, 58, 118, 97, 114, 115, 62]⟩ ++ bs S : ByteArray).size + (⟨#[60, 47, 101, 115, 105, 58, 118, 97, 114, 115, 62]⟩ : ByteArray).size ≤ 40000 := by
          have := HQS.out
          rw [ByteArray.size_append]
          show 10 + _ + 11 ≤ _
          omega
      all_goals
        first
          | (have hX := Blk.new w5 46 (eCells (.mk 10 [] [] [] false [] l) (.slice A l.length c)).toArray
             have HB6 := Lib.hid (HB5.out.alloc HB5.out.size (.cells (eCells (.mk 10 [] [] [] false [] l) (.slice A l.length c)).toArray 46)))
          | (have hX := Blk.new w5 46 (eCells (.mk 10 [] [] [] false [] l) (.slice A l.length k)).toArray
             have HB6 := Lib.hid (HB5.out.alloc HB5.out.size (.cells (eCells (.mk 10 [] [] [] false [] l) (.slice A l.length k)).toArray 46)))
        have H5 := Lib.hid (gr_one_new (F := fun _ => True) (sz := 7) hX trivial (cells_elem (e := .mk 10 [] [] [] false [] l) (HV.out.below HB6.out)) rfl)
        clear hX
        go_wp2_with fail
        refine (HPW.out _ _ H5.out).mono ?_
        rintro e w7 ⟨rfl, hb7⟩
        have HB7 := Lib.hid (HB6.out.trans (hb7.mono HB6.out.size))
        clear hb7 H5
        rcases HP3.out with h3 | ⟨h3, h4, -⟩
      all_goals
        first
          | (have hq3 : ⟨#[60, 101, 115, 105, 58, 118, 97, 114, 115, 62]⟩ ++ bs S ++ ⟨#[60, 47, 101, 115, 105, 58, 118, 97, 114, 115, 62]⟩ = bs s3 := by
               have h := HQ3.out h3
               have h : bs s3 = bs (vars1 ++ (S ++ vars2)) := h
               rw [h, ← List.append_assoc, ← bs_append, ← bs_append]
               rfl
             have h3 : z3 = 0 := h3
             subst h3)
          | (have h3 : z3 = 1 := h3
             have h4 : s3 = [] := h4
             subst h3 h4)
        go_wp2_with fail
        go_ret
        exact ⟨rfl, HB7.out⟩
  · have HP : Hid (printF l = ([], 1)) := Prod.ext h2 h1
    rw [HP.out] at HC
    clear h1 h2
    go_wp2_with fail
    refine (HC.out _ (HV.out.below HB1.out)).mono ?_
    rintro e w2 ⟨rfl, hb2⟩
    have HB2 := Lib.hid (HB1.out.trans (hb2.mono HB1.out.size))
    clear hb2
    go_wp2_with fail
    refine (alive16_calls _).mono ?_
    rintro e w3 ⟨rfl, hb3⟩
    have HB3 := Lib.hid (HB2.out.trans (hb3.mono HB2.out.size))
    clear hb3
    go_wp2_with fail
    go_ret
    exact ⟨rfl, HB3.out⟩
end Go.Proofs.YtijpfcjlochahaaDoor
