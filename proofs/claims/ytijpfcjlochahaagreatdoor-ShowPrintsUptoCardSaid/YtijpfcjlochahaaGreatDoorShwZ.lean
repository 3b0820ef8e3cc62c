/- The walks of the reference's Like at any two rows, and of the reference's Right (layer 16). The walk of ShowPrints. -/
import Derived.Test.YtijpfcjlochahaaGreatDoorRefY
import Derived.Test.YtijpfcjlochahaaGreatDoorShwG
import Derived.Test.YtijpfcjlochahaaGreatDoorLexB
import Derived.Test.YtijpfcjlochahaaGreatDoorElem
import Derived.Test.YtijpfcjlochahaaGreatDoorLnkP
import Derived.Test.YtijpfcjlochahaaGreatDoorLexA
import Derived.Deep.CutRange
import Derived.Deep.QuietTactic
import Derived.IntWalk
import Derived.Test.YtijpfcjlochahaaGreatDoorShwM
import Derived.Test.YtijpfcjlochahaaGreatDoorCntL
namespace Go.Proofs.YtijpfcjlochahaaGreatDoor
open Go Go.RowKit
set_option linter.unusedVariables false
set_option linter.unusedSimpArgs false

set_option maxRecDepth 20000 in
set_option maxHeartbeats 4000000 in
theorem rlike_calls : ∀ (n : Nat) (l m : List Elem) (va vb : Value) (F : Nat → Prop) (w : World), sizeF l ≤ n → GR w F (.row 7 (l.map Elem.gv)) [va] → GR w F (.row 7 (m.map Elem.gv)) [vb] →
    Calls Tryz.prog 21 #[va, vb] w fun e w' => e = .returned (.bool (likeF l m)) ∧ Below w.heap.size w w' := by
  intro n
  induction n using Nat.strongRecOn with
  | ind n ih =>
    intro l m va vb F w hn ha hb
    obtain ⟨A, c, rfl, hlc, hcm, hop⟩ := elems_open (GR.lt_heap _ _ ha)
    obtain ⟨B, d, rfl, hld, hdm, hop2⟩ := elems_open (GR.lt_heap _ _ hb)
    have HOP := Lib.hid hop
    have HOP2 := Lib.hid hop2
    have IH := Lib.hid ih
    have HN0 := Lib.hid (likeF_len (l := l) (m := m))
    have HR0 : Hid (likeF l m = likeF (l.drop 0) (m.drop 0)) := rfl
    have HDR := Lib.hid (fun k h1 h2 => likeF_drop (l := l) (m := m) (k := k) h1 h2)
    have HDE : Hid (likeF (l.drop l.length) (m.drop m.length) = true) := by rw [Hid, List.drop_length, List.drop_length]; rfl
    obtain ⟨R, hR⟩ : ∃ R, R = likeF l m := ⟨_, rfl⟩
    rw [← hR] at HN0 HR0 ⊢
    clear hop hop2 ha hb ih hR
    unfold maxLen at hcm hdm
    by_cases hlm : l.length = m.length
    · obtain ⟨N, hN⟩ : ∃ N, N = l.length := ⟨_, rfl⟩
      rw [← hlm] at hld ⊢
      rw [← hN] at hlc hld ⊢
      have HLM := Lib.hid hlm
      have HNL := Lib.hid hN
      clear HN0 hlm hN
      go_enter Tryz.func21, Tryz.ntmps21
      go_wp2_with fail
      go_loopw [5, 6, 7, 15] (fun _ _ _ i wr => ∃ k : Nat, k ≤ N ∧ i = .int .i64 k ∧ Hid (R = likeF (l.drop k) (m.drop k)) ∧ Hid (Below w.heap.size w wr))
        (fun _ _ _ i wr => N - (intOf i).toNat)
      case atStart => exact ⟨0, Nat.zero_le _, rfl, HR0.out, Below.refl _ _⟩
      case round =>
        clear HR0
        obtain ⟨k, hk, rfl, HR, HB⟩ := hrel
        by_cases hltN : k < N
        · have hlt : k < l.length := by rw [← HNL.out]; exact hltN
          have hlt2 : k < m.length := by have h9 := HLM.out; omega
          obtain ⟨b, off, rfl, ⟨_, hbw⟩, hop⟩ := HOP.out (by rintro rfl; simp at hlt)
          obtain ⟨b2, off2, rfl, ⟨_, hbw2⟩, hop2⟩ := HOP2.out (by rintro rfl; simp at hlt2)
          obtain ⟨A1, c1, hE⟩ := hop k hlt
          obtain ⟨A2, c2, hE2⟩ := hop2 k hlt2
          have hE := hE.below HB.out hbw
          have HE2 := Lib.hid (hE2.below HB.out hbw2)
          have HW2 : Hid (b2 < wr.heap.size) := Nat.lt_of_lt_of_le hbw2 HB.out.size
          have hsz : sizeF l[k].kids < n := by have h1 := sizeE_mem hlt; have h2 := sizeE_eq l[k]; omega
          have HSZ := Lib.hid hsz
          have HK1 := Lib.hid hE.kids
          have hk1 : (0 : Int) ≤ (k : Int) := by omega
          have hk2 : (k : Int) < (N : Int) := by omega
          have e0 := hE.c0
          have e1 := hE.c1
          have e2 := hE.c2
          have e3 := hE.c3
          have e4 := hE.c4
          have e5 := hE.c5
          have e6 := hE.c6
          rw [HDR.out k hlt hlt2] at HR
          clear hop hop2 hbw hbw2 hE hE2 hsz HDR
          generalize l[k] = x at *
          generalize m[k] = y at *
          clear hlt hlt2
          obtain ⟨xk, xt, xs, xa, xb, xu, xl⟩ := x
          obtain ⟨yk, yt, ys, ya, yb, yu, yl⟩ := y
          rw [likeE] at HR
          simp only [Elem.kind, Elem.text, Elem.src, Elem.alt, Elem.soft, Elem.test, Elem.kids] at *
          go_upto_region 6 with (fail)
          have hal : Below wr.heap.size wr (wr.alloc (.cells #[.int .i64 xk, .string (bs xt), .string (bs xs), .string (bs xa), .bool xb, .string (bs xu), .slice A1 xl.length c1] 74)) := (Below.refl _ _).alloc (Nat.le_refl _) _
          have HX := Lib.hid (Blk.new wr 74 #[.int .i64 xk, .string (bs xt), .string (bs xs), .string (bs xa), .bool xb, .string (bs xu), .slice A1 xl.length c1])
          clear e0 e1 e2 e3 e4 e5 e6
          have hE2 := HE2.out.below hal HW2.out
          have HB5 := Lib.hid (HB.out.trans (hal.mono HB.out.size))
          have HK1 := Lib.hid (HK1.out.below hal)
          have HK2 := Lib.hid hE2.kids
          generalize wr.alloc (.cells #[.int .i64 xk, .string (bs xt), .string (bs xs), .string (bs xa), .bool xb, .string (bs xu), .slice A1 xl.length c1] 74) = w5 at *
          have e0 := hE2.c0
          have e1 := hE2.c1
          have e2 := hE2.c2
          have e3 := hE2.c3
          have e4 := hE2.c4
          have e5 := hE2.c5
          have e6 := hE2.c6
          simp only [Elem.kind, Elem.text, Elem.src, Elem.alt, Elem.soft, Elem.test, Elem.kids] at e0 e1 e2 e3 e4 e5 e6 HK2
          clear hE2 HE2 HB hal HW2
          generalize wr.heap.size = X at *
          go_upto_region 7 with (fail)
          have hal : Below w5.heap.size w5 (w5.alloc (.cells #[.int .i64 yk, .string (bs yt), .string (bs ys), .string (bs ya), .bool yb, .string (bs yu), .slice A2 yl.length c2] 74)) := (Below.refl _ _).alloc (Nat.le_refl _) _
          have hY := Blk.new w5 74 #[.int .i64 yk, .string (bs yt), .string (bs ys), .string (bs ya), .bool yb, .string (bs yu), .slice A2 yl.length c2]
          have hX := HX.out.below hal HX.out.lt
          clear e0 e1 e2 e3 e4 e5 e6 HX
          have HB6 := Lib.hid (HB5.out.trans (hal.mono HB5.out.size))
          have HK1 := Lib.hid (HK1.out.below hal)
          have HK2 := Lib.hid (HK2.out.below hal)
          generalize w5.alloc (.cells #[.int .i64 yk, .string (bs yt), .string (bs ys), .string (bs ya), .bool yb, .string (bs yu), .slice A2 yl.length c2] 74) = w6 at *
          generalize w5.heap.size = Y at *
          have x0 := hX.cell 0
          have x1 := hX.cell 1
          have x2 := hX.cell 2
          have x3 := hX.cell 3
          have x4 := hX.cell 4
          have x5 := hX.cell 5
          have x6 := hX.cell 6
          have y0 := hY.cell 0
          have y1 := hY.cell 1
          have y2 := hY.cell 2
          have y3 := hY.cell 3
          have y4 := hY.cell 4
          have y5 := hY.cell 5
          have y6 := hY.cell 6
          clear hX hY hal HB5
          have htx : ∀ q : List UInt8, (bs q).toList = q := toList_bs
          by_cases q0 : xk = yk
          · subst q0
            by_cases q1 : xt = yt
            · subst q1
              by_cases q2 : xs = ys
              · subst q2
                by_cases q3 : xa = ya
                · subst q3
                  by_cases q4 : xb = yb
                  · subst q4
                    by_cases q5 : xu = yu
                    · subst q5
                      have HIC := Lib.hid (IH.out _ HSZ.out xl yl _ _ _ w6 (Nat.le_refl _) HK1.out HK2.out)
                      have HR2 : Hid (R = (likeF xl yl && likeF (l.drop (k + 1)) (m.drop (k + 1)))) := by rw [Hid, HR.out]; simp
                      clear HR
                      generalize likeF xl yl = z at *
                      go_wp2_with fail
                      refine HIC.out.mono ?_
                      rintro e w7 ⟨rfl, hb7⟩
                      have HB7 := Lib.hid (HB6.out.trans (hb7.mono HB6.out.size))
                      clear hb7 HB6 HIC
                      cases z with
                      | true =>
                        go_wp2_with fail
                        have HR3 : Hid (R = likeF (l.drop (k + 1)) (m.drop (k + 1))) := by rw [Hid, HR2.out, Bool.true_and]
                        go_roundw
                        case rel => exact ⟨k + 1, hltN, by go_num, HR3.out, HB7.out⟩
                        case measure => simp [intOf]; omega
                      | false =>
                        go_wp2_with fail
                        go_ret
                        exact ⟨ret_bool (by rw [HR2.out]; rfl), HB7.out⟩
                    · have hq : (xu == yu) = false := beq_eq_false_iff_ne.2 q5
                      have HF : Hid (R = false) := by rw [Hid, HR.out]; simp [hq]
                      clear HR
                      go_wp2_with fail
                      go_ret
                      exact ⟨ret_bool (by rw [HF.out]), HB6.out⟩
                  · have q4b : yb = !xb := by cases xb <;> cases yb <;> simp_all
                    subst q4b
                    have HF : Hid (R = false) := by rw [Hid, HR.out]; cases xb <;> simp
                    clear HR
                    cases xb
                    all_goals
                      go_wp2_with fail
                      go_ret
                      exact ⟨ret_bool (by rw [HF.out]), HB6.out⟩
                · have hq : (xa == ya) = false := beq_eq_false_iff_ne.2 q3
                  have HF : Hid (R = false) := by rw [Hid, HR.out]; simp [hq]
                  clear HR
                  go_wp2_with fail
                  go_ret
                  exact ⟨ret_bool (by rw [HF.out]), HB6.out⟩
              · have hq : (xs == ys) = false := beq_eq_false_iff_ne.2 q2
                have HF : Hid (R = false) := by rw [Hid, HR.out]; simp [hq]
                clear HR
                go_wp2_with fail
                go_ret
                exact ⟨ret_bool (by rw [HF.out]), HB6.out⟩
            · have hq : (xt == yt) = false := beq_eq_false_iff_ne.2 q1
              have HF : Hid (R = false) := by rw [Hid, HR.out]; simp [hq]
              clear HR
              go_wp2_with fail
              go_ret
              exact ⟨ret_bool (by rw [HF.out]), HB6.out⟩
          · have hq : (xk == yk) = false := beq_eq_false_iff_ne.2 q0
            have HF : Hid (R = false) := by rw [Hid, HR.out]; simp [hq]
            clear HR
            go_wp2_with fail
            go_ret
            exact ⟨ret_bool (by rw [HF.out]), HB6.out⟩
        · have hkl : k = N := by omega
          subst hkl
          have HT : Hid (R = true) := by rw [Hid, HR.out, ← HDE.out, ← HLM.out, ← HNL.out]
          go_wp2_with fail
          go_ret
          exact ⟨ret_bool (by rw [HT.out]), HB.out⟩
    · have HF : Hid (R = false) := HN0.out hlm
      have hlb : ((l.length : Int) == (m.length : Int)) = false := beq_eq_false_iff_ne.2 (by omega)
      clear hlm HN0 HR0
      go_enter Tryz.func21, Tryz.ntmps21
      go_wp2_with fail
      go_ret
      exact ⟨ret_bool (by rw [HF.out]), Below.refl _ _⟩
def rrF (l : List Elem) : Bool := decide ((shF l).length ≤ 20000) && ((readR (shF l)).2 == 0) && likeF l (readR (shF l)).1
theorem rr_page {l : List Elem} (hc : countF 1000 l ≤ 1000) : rrF l = (pageF l).2 := by
  unfold rrF pageF
  rw [if_neg (by omega)]
  by_cases h2 : 20000 < (shF l).length
  · rw [if_pos h2, decide_eq_false (by omega)]; rfl
  · rw [if_neg h2, decide_eq_true (by omega), Bool.true_and]
    obtain ⟨r1, r2⟩ := read_ref (shF l)
    by_cases h : (readR (shF l)).2 = 0
    · rw [r1 h]
    · have h3 : ¬ (readF (shF l)).2 = 0 := fun e => h (by rw [r2 e]; exact e)
      rw [beq_eq_false_iff_ne.2 h, beq_eq_false_iff_ne.2 h3]; rfl
set_option maxRecDepth 20000 in
set_option maxHeartbeats 2000000 in
theorem right16_calls (l : List Elem) (v : Value) (F : Nat → Prop) (w : World) (hv : GR w F (.row 7 (l.map Elem.gv)) [v]) (hs : (shF l).length ≤ 3000000) :
    Calls Tryz.prog 27 #[v] w fun e w' => e = .returned (.bool (rrF l)) ∧ Below w.heap.size w w' := by
  obtain ⟨A, c, rfl, -, -, -⟩ := elems_open hv
  have HV := Lib.hid hv
  have HP : Hid (rrF l = (decide ((shF l).length ≤ 20000) && ((readR (shF l)).2 == 0) && likeF l (readR (shF l)).1)) := rfl
  have HW := Lib.hid (write16_calls (sizeF l) l _ F w (Nat.le_refl _) (by omega) hv)
  have HS := Lib.hid hs
  generalize rrF l = P at *
  clear hv hs
  go_enter Tryz.func27, Tryz.ntmps27
  go_wp2_with fail
  refine HW.out.mono ?_
  rintro e w1 ⟨rfl, hb1⟩
  have HB1 := Lib.hid hb1
  have hsb : (bs (shF l)).size = (shF l).length := size_bs _
  have HRC := Lib.hid (read15_calls (bs (shF l)) w1 (by rw [hsb]; exact HS.out))
  rw [L_bs] at HRC
  generalize readR (shF l) = q at *
  obtain ⟨q1, q2⟩ := q
  clear hb1 HW
  go_wp2_with fail
  refine HRC.out.mono ?_
  rintro e w2 ⟨⟨A2, c2, rfl, h2⟩, hb2⟩
  have HB2 := Lib.hid (HB1.out.trans (hb2.mono HB1.out.size))
  have H2 := Lib.hid (h2.weaken (F' := fun _ => True) (fun _ _ => trivial))
  clear h2 hb2 HRC
  try simp only at HP
  by_cases hl : (shF l).length ≤ 20000
  · have hl1 : ((shF l).length : Int) ≤ 20000 := by omega
    have hl2 : decide (((shF l).length : Int) ≤ 20000) = true := by simpa using hl1
    rw [decide_eq_true hl, Bool.true_and] at HP
    clear hl
    cases hq : (q2 == 0) with
    | false =>
      have HF : Hid (P = false) := by rw [Hid, HP.out, hq]; rfl
      clear HP
      go_wp2_with fail
      go_ret
      exact ⟨ret_bool (by rw [HF.out]), HB2.out⟩
    | true =>
      have HF : Hid (P = likeF l q1) := by rw [Hid, HP.out, hq, Bool.true_and]
      clear HP
      go_wp2_with fail
      refine (rlike_calls (sizeF l) l q1 _ _ (fun _ => True) _ (Nat.le_refl _) ((HV.out.below HB2.out).weaken (fun _ _ => trivial)) H2.out).mono ?_
      rintro e w3 ⟨rfl, hb3⟩
      have HB3 := Lib.hid (HB2.out.trans (hb3.mono HB2.out.size))
      clear hb3
      go_wp2_with fail
      go_ret
      exact ⟨ret_bool (by rw [HF.out]), HB3.out⟩
  · have hl1 : ¬ ((shF l).length : Int) ≤ 20000 := by omega
    have hl2 : decide (((shF l).length : Int) ≤ 20000) = false := by simpa using hl1
    have HF : Hid (P = false) := by rw [Hid, HP.out, decide_eq_false hl]; rfl
    clear hl HP
    go_wp2_with fail
    go_ret
    exact ⟨ret_bool (by rw [HF.out]), HB2.out⟩
end Go.Proofs.YtijpfcjlochahaaGreatDoor
namespace Go.Proofs.YtijpfcjlochahaaGreatDoor
set_option linter.unusedVariables false
set_option linter.unusedSimpArgs false
open Go Go.RowKit

theorem size_len : ∀ l : List Elem, l.length ≤ sizeF l
  | [] => Nat.zero_le _
  | e :: l => by
    have h1 := size_len l
    have h2 := sizeE_eq e
    rw [List.length_cons, sizeF]
    omega
theorem size_take (l : List Elem) (k : Nat) : sizeF (l.take k) ≤ sizeF l := by
  have e : sizeF l = sizeF (l.take k) + sizeF (l.drop k) := by rw [← sizeF_append, List.take_append_drop]
  omega
theorem bfsF_upper {lim : Nat} : ∀ (n i : Nat) (q : List Elem), i ≤ q.length → bfsF lim n i q ≤ i + sizeF (q.drop i)
  | 0, i, q, hi => by
    rw [bfsF]
    have := size_len (q.drop i)
    rw [List.length_drop] at this
    omega
  | n + 1, i, q, hi => by
    rw [bfsF]
    split
    · rename_i hc
      have hk : ((q[i]?).map Elem.kids).getD [] = q[i].kids := by rw [List.getElem?_eq_getElem hc.1]; rfl
      rw [hk]
      have h1 := bfsF_upper (lim := lim) n (i + 1) (q ++ q[i].kids.take (lim + 1 - q.length)) (by rw [List.length_append]; omega)
      have h2 := size_take q[i].kids (lim + 1 - q.length)
      have h3 := sizeE_eq q[i]
      rw [List.drop_append_of_le_length (by omega), sizeF_append] at h1
      rw [List.drop_eq_getElem_cons hc.1, sizeF]
      omega
    · have := size_len (q.drop i)
      rw [List.length_drop] at this
      omega
theorem countF_big {l : List Elem} (h : sizeF l ≤ 1000) : countF 1000 l ≤ 1000 := by
  have h1 := bfsF_upper (lim := 1000) (1000 + 2) 0 (l.take (1000 + 1)) (Nat.zero_le _)
  have h2 := size_take l (1000 + 1)
  rw [List.drop_zero] at h1
  unfold countF
  omega
set_option maxRecDepth 20000 in
set_option maxHeartbeats 4000000 in
theorem showPrints_calls (l : List Elem) (m : Int) (w : World) {v : Value} (hv : GR w (fun _ => True) (.row 7 (l.map Elem.gv)) [v]) (_hm : w.cell? ⟨0, 0, none⟩ = some (.int .i64 m)) (ht : textF l ≤ 1048576) :
    Calls Tryz.prog 6 #[v] w fun e w' => e = .returned (.bool true) ∧ Below w.heap.size w w' := by
  obtain ⟨A, c, rfl, -, -, -⟩ := elems_open hv
  have HV := Lib.hid hv
  have HCS := Lib.hid (fun h => count_small (lim := 300) (l := l) (by omega) h)
  have HCB := Lib.hid (fun h => countF_big (l := l) h)
  have HT := Lib.hid ht
  clear hv ht _hm
  go_enter Tryz.func6, Tryz.ntmps6
  go_wp2_with fail
  refine (rcountL_calls 300 (by omega) l _ _ w HV.out).mono ?_
  rintro e w1 ⟨rfl, hb1⟩
  have HB1 := Lib.hid hb1
  clear hb1
  by_cases h2 : 300 < countF 300 l
  · have hd1 : (300 : Int) < (countF 300 l : Int) := by omega
    have hd2 : decide ((300 : Int) < (countF 300 l : Int)) = true := by simpa using hd1
    generalize countF 300 l = R at *
    clear h2
    go_wp2_with fail
    refine (alive16_calls _).mono ?_
    rintro e w2 ⟨rfl, hb2⟩
    have HB2 := Lib.hid (HB1.out.trans (hb2.mono HB1.out.size))
    clear hb2
    go_wp2_with fail
    go_ret
    exact ⟨rfl, HB2.out⟩
  · have hd1 : ¬ (300 : Int) < (countF 300 l : Int) := by omega
    have hd2 : decide ((300 : Int) < (countF 300 l : Int)) = false := by simpa using hd1
    have HSZ := Lib.hid (HCS.out (by omega))
    have HC1 : Hid (countF 1000 l ≤ 1000) := HCB.out (by have := HSZ.out; omega)
    have HLS : Hid ((shF l).length ≤ 3000000) := by
      have h1 := shF_len l
      have h2 := HSZ.out
      have h3 := HT.out
      rw [Hid]
      omega
    have HPC := Lib.hid (fun (W : World) (h : GR W (fun _ => True) (.row 7 (l.map Elem.gv)) [.slice A l.length c]) => print_calls l _ _ W h (fun _ => by have := HLS.out; omega))
    have HRC := Lib.hid (fun (W : World) (h : GR W (fun _ => True) (.row 7 (l.map Elem.gv)) [.slice A l.length c]) => right16_calls l _ _ W h HLS.out)
    have HSC := Lib.hid (fun (W : World) (h : GR W (fun _ => True) (.row 7 (l.map Elem.gv)) [.slice A l.length c]) => shRight_calls l _ _ W h (fun _ => by have := HLS.out; omega))
    have HWC := Lib.hid (fun (W : World) (h : GR W (fun _ => True) (.row 7 (l.map Elem.gv)) [.slice A l.length c]) => write16_calls (sizeF l) l _ _ W (Nat.le_refl _) (by have := HLS.out; omega) h)
    have HRP : Hid (rrF l = (pageF l).2) := rr_page HC1.out
    have HPF : Hid ((pageF l).2 = true → printF l = (shF l, 0)) := by
      intro h
      have h2 : (printF l).2 = 0 := by rw [printF, if_pos h]
      obtain ⟨h3, -, -, -⟩ := print_ok h2
      rw [← h3, ← h2]
    have HPN : Hid ((pageF l).2 = false → printF l = ([], 1)) := fun h => by rw [printF, if_neg (by rw [h]; decide)]
    generalize countF 300 l = R at *
    generalize printF l = PF at *
    rw [HRP.out] at HRC
    generalize (pageF l).2 = pg at *
    generalize shF l = S at *
    obtain ⟨pf, pe⟩ := PF
    clear h2 HRP HLS HSZ HCS HCB HC1
    go_wp2_with fail
    refine (HPC.out _ (HV.out.below HB1.out)).mono ?_
    rintro e w2 ⟨rfl, hb2⟩
    have HB2 := Lib.hid (HB1.out.trans (hb2.mono HB1.out.size))
    clear hb2 HPC
    simp only
    go_wp2_with fail
    refine (HRC.out _ (HV.out.below HB2.out)).mono ?_
    rintro e w3 ⟨rfl, hb3⟩
    have HB3 := Lib.hid (HB2.out.trans (hb3.mono HB2.out.size))
    clear hb3 HRC
    cases pg with
    | false =>
      have h := HPN.out rfl
      injection h with h4 h5
      subst h4 h5
      clear HPF HPN
      go_wp2_with fail
      refine (alive16_calls _).mono ?_
      rintro e w4 ⟨rfl, hb4⟩
      have HB4 := Lib.hid (HB3.out.trans (hb4.mono HB3.out.size))
      clear hb4
      go_wp2_with fail
      refine (HSC.out _ (HV.out.below HB4.out)).mono ?_
      rintro e w5 ⟨rfl, hb5⟩
      have HB5 := Lib.hid (HB4.out.trans (hb5.mono HB4.out.size))
      clear hb5
      have htn : (bs []).toList = [] := toList_bs []
      go_wp2_with fail
      go_ret
      exact ⟨rfl, HB5.out⟩
    | true =>
      have h := HPF.out rfl
      injection h with h4 h5
      subst h4 h5
      clear HPF HPN
      go_wp2_with fail
      refine (alive16_calls _).mono ?_
      rintro e w4 ⟨rfl, hb4⟩
      have HB4 := Lib.hid (HB3.out.trans (hb4.mono HB3.out.size))
      clear hb4
      go_wp2_with fail
      refine (HSC.out _ (HV.out.below HB4.out)).mono ?_
      rintro e w5 ⟨rfl, hb5⟩
      have HB5 := Lib.hid (HB4.out.trans (hb5.mono HB4.out.size))
      clear hb5
      go_wp2_with fail
      refine (HWC.out _ (HV.out.below HB5.out)).mono ?_
      rintro e w6 ⟨rfl, hb6⟩
      have HB6 := Lib.hid (HB5.out.trans (hb6.mono HB5.out.size))
      clear hb6
      go_wp2_with fail
      go_ret
      exact ⟨by simp, HB6.out⟩
end Go.Proofs.YtijpfcjlochahaaGreatDoor
