/- Plain: two rows of elements that are the same; the walk of the reference's Like (layer 15). -/
import Derived.Test.YtijpfcjlochahaaGreatDoorElem
import Derived.Test.YtijpfcjlochahaaGreatDoorLexB
import Derived.Test.YtijpfcjlochahaaGreatDoorLnkP
import Derived.Deep.CutRange
import Derived.Deep.QuietTactic
import Derived.IntWalk
namespace Go.Proofs.YtijpfcjlochahaaGreatDoor
open Go Go.RowKit
set_option linter.unusedVariables false
set_option linter.unusedSimpArgs false

mutual
def likeE : Elem → Elem → Bool
  | .mk k t s a b u l, .mk k' t' s' a' b' u' l' => k == k' && t == t' && s == s' && a == a' && b == b' && u == u' && likeF l l'
def likeF : List Elem → List Elem → Bool
  | [], [] => true
  | e :: l, f :: m => likeE e f && likeF l m
  | _, _ => false
end
mutual
theorem likeE_refl : ∀ e : Elem, likeE e e = true
  | .mk k t s a b u l => by simp [likeE, likeF_refl l]
theorem likeF_refl : ∀ l : List Elem, likeF l l = true
  | [] => rfl
  | e :: l => by simp [likeF, likeE_refl e, likeF_refl l]
end
mutual
theorem likeE_eq : ∀ e f : Elem, likeE e f = true → e = f
  | .mk k t s a b u l, .mk k' t' s' a' b' u' l', h => by
    simp only [likeE, Bool.and_eq_true, beq_iff_eq] at h
    obtain ⟨⟨⟨⟨⟨⟨h1, h2⟩, h3⟩, h4⟩, h5⟩, h6⟩, h7⟩ := h
    rw [h1, h2, h3, h4, h5, h6, likeF_eq l l' h7]
theorem likeF_eq : ∀ l m : List Elem, likeF l m = true → l = m
  | [], [], _ => rfl
  | [], _ :: _, h => by simp [likeF] at h
  | _ :: _, [], h => by simp [likeF] at h
  | e :: l, f :: m, h => by
    simp only [likeF, Bool.and_eq_true] at h
    rw [likeE_eq e f h.1, likeF_eq l m h.2]
end
theorem likeF_iff {l m : List Elem} : likeF l m = true ↔ l = m := ⟨likeF_eq l m, fun h => h ▸ likeF_refl l⟩
theorem likeF_len : ∀ {l m : List Elem}, l.length ≠ m.length → likeF l m = false
  | [], [], h => absurd rfl h
  | [], _ :: _, _ => by simp [likeF]
  | _ :: _, [], _ => by simp [likeF]
  | e :: l, f :: m, h => by
    rw [likeF, likeF_len (l := l) (m := m) (by simpa using h), Bool.and_false]
theorem likeF_drop {l m : List Elem} {k : Nat} (h1 : k < l.length) (h2 : k < m.length) : likeF (l.drop k) (m.drop k) = (likeE l[k] m[k] && likeF (l.drop (k + 1)) (m.drop (k + 1))) := by
  rw [List.drop_eq_getElem_cons h1, List.drop_eq_getElem_cons h2, likeF]
set_option maxRecDepth 20000 in
set_option maxHeartbeats 4000000 in
theorem rlike_calls : ∀ (n : Nat) (l m : List Elem) (va vb : Value) (F : Nat → Prop) (w : World), sizeF l ≤ n → GR w F (.row 7 (l.map Elem.gv)) [va] → GR w F (.row 7 (m.map Elem.gv)) [vb] →
    Calls Tryz.prog 21 #[va, vb] w fun e w' => e = .returned (.bool (likeF l m)) ∧ Below w.heap.size w w' := by
  intro n
  induction n using Nat.strongRecOn with
  | ind n ih =>
    intro l m va vb F w hn ha hb
    obtain ⟨A, c, rfl, hlc, hcm, hop⟩ := elems_open (GR.lt_heap _ _ ha)
    obtain ⟨B, d, rfl, hld, hdm, hop2⟩ := elems_open (GR.lt_heap _ _ hb)
    have HOP := Lib.hid hop
    have HOP2 := Lib.hid hop2
    have IH := Lib.hid ih
    have HN0 := Lib.hid (likeF_len (l := l) (m := m))
    have HR0 : Hid (likeF l m = likeF (l.drop 0) (m.drop 0)) := rfl
    have HDR := Lib.hid (fun k h1 h2 => likeF_drop (l := l) (m := m) (k := k) h1 h2)
    have HDE : Hid (likeF (l.drop l.length) (m.drop m.length) = true) := by rw [Hid, List.drop_length, List.drop_length]; rfl
    obtain ⟨R, hR⟩ : ∃ R, R = likeF l m := ⟨_, rfl⟩
    rw [← hR] at HN0 HR0 ⊢
    clear hop hop2 ha hb ih hR
    unfold maxLen at hcm hdm
    by_cases hlm : l.length = m.length
    · obtain ⟨N, hN⟩ : ∃ N, N = l.length := ⟨_, rfl⟩
      rw [← hlm] at hld ⊢
      rw [← hN] at hlc hld ⊢
      have HLM := Lib.hid hlm
      have HNL := Lib.hid hN
      clear HN0 hlm hN
      go_enter Tryz.func21, Tryz.ntmps21
      go_wp2_with fail
      go_loopw [5, 6, 7, 15] (fun _ _ _ i wr => ∃ k : Nat, k ≤ N ∧ i = .int .i64 k ∧ Hid (R = likeF (l.drop k) (m.drop k)) ∧ Hid (Below w.heap.size w wr))
        (fun _ _ _ i wr => N - (intOf i).toNat)
      case atStart => exact ⟨0, Nat.zero_le _, rfl, HR0.out, Below.refl _ _⟩
      case round =>
        clear HR0
        obtain ⟨k, hk, rfl, HR, HB⟩ := hrel
        by_cases hltN : k < N
        · have hlt : k < l.length := by rw [← HNL.out]; exact hltN
          have hlt2 : k < m.length := by have h9 := HLM.out; omega
          obtain ⟨b, off, rfl, ⟨_, hbw⟩, hop⟩ := HOP.out (by rintro rfl; simp at hlt)
          obtain ⟨b2, off2, rfl, ⟨_, hbw2⟩, hop2⟩ := HOP2.out (by rintro rfl; simp at hlt2)
          obtain ⟨A1, c1, hE⟩ := hop k hlt
          obtain ⟨A2, c2, hE2⟩ := hop2 k hlt2
          have hE := hE.below HB.out hbw
          have HE2 := Lib.hid (hE2.below HB.out hbw2)
          have HW2 : Hid (b2 < wr.heap.size) := Nat.lt_of_lt_of_le hbw2 HB.out.size
          have hsz : sizeF l[k].kids < n := by have h1 := sizeE_mem hlt; have h2 := sizeE_eq l[k]; omega
          have HSZ := Lib.hid hsz
          have HK1 := Lib.hid hE.kids
          have hk1 : (0 : Int) ≤ (k : Int) := by omega
          have hk2 : (k : Int) < (N : Int) := by omega
          have e0 := hE.c0
          have e1 := hE.c1
          have e2 := hE.c2
          have e3 := hE.c3
          have e4 := hE.c4
          have e5 := hE.c5
          have e6 := hE.c6
          rw [HDR.out k hlt hlt2] at HR
          clear hop hop2 hbw hbw2 hE hE2 hsz HDR
          generalize l[k] = x at *
          generalize m[k] = y at *
          clear hlt hlt2
          obtain ⟨xk, xt, xs, xa, xb, xu, xl⟩ := x
          obtain ⟨yk, yt, ys, ya, yb, yu, yl⟩ := y
          rw [likeE] at HR
          simp only [Elem.kind, Elem.text, Elem.src, Elem.alt, Elem.soft, Elem.test, Elem.kids] at *
          go_upto_region 6 with (fail)
          have hal : Below wr.heap.size wr (wr.alloc (.cells #[.int .i64 xk, .string (bs xt), .string (bs xs), .string (bs xa), .bool xb, .string (bs xu), .slice A1 xl.length c1] 74)) := (Below.refl _ _).alloc (Nat.le_refl _) _
          have HX := Lib.hid (Blk.new wr 74 #[.int .i64 xk, .string (bs xt), .string (bs xs), .string (bs xa), .bool xb, .string (bs xu), .slice A1 xl.length c1])
          clear e0 e1 e2 e3 e4 e5 e6
          have hE2 := HE2.out.below hal HW2.out
          have HB5 := Lib.hid (HB.out.trans (hal.mono HB.out.size))
          have HK1 := Lib.hid (HK1.out.below hal)
          have HK2 := Lib.hid hE2.kids
          generalize wr.alloc (.cells #[.int .i64 xk, .string (bs xt), .string (bs xs), .string (bs xa), .bool xb, .string (bs xu), .slice A1 xl.length c1] 74) = w5 at *
          have e0 := hE2.c0
          have e1 := hE2.c1
          have e2 := hE2.c2
          have e3 := hE2.c3
          have e4 := hE2.c4
          have e5 := hE2.c5
          have e6 := hE2.c6
          simp only [Elem.kind, Elem.text, Elem.src, Elem.alt, Elem.soft, Elem.test, Elem.kids] at e0 e1 e2 e3 e4 e5 e6 HK2
          clear hE2 HE2 HB hal HW2
          generalize wr.heap.size = X at *
          go_upto_region 7 with (fail)
          have hal : Below w5.heap.size w5 (w5.alloc (.cells #[.int .i64 yk, .string (bs yt), .string (bs ys), .string (bs ya), .bool yb, .string (bs yu), .slice A2 yl.length c2] 74)) := (Below.refl _ _).alloc (Nat.le_refl _) _
          have hY := Blk.new w5 74 #[.int .i64 yk, .string (bs yt), .string (bs ys), .string (bs ya), .bool yb, .string (bs yu), .slice A2 yl.length c2]
          have hX := HX.out.below hal HX.out.lt
          clear e0 e1 e2 e3 e4 e5 e6 HX
          have HB6 := Lib.hid (HB5.out.trans (hal.mono HB5.out.size))
          have HK1 := Lib.hid (HK1.out.below hal)
          have HK2 := Lib.hid (HK2.out.below hal)
          generalize w5.alloc (.cells #[.int .i64 yk, .string (bs yt), .string (bs ys), .string (bs ya), .bool yb, .string (bs yu), .slice A2 yl.length c2] 74) = w6 at *
          generalize w5.heap.size = Y at *
          have x0 := hX.cell 0
          have x1 := hX.cell 1
          have x2 := hX.cell 2
          have x3 := hX.cell 3
          have x4 := hX.cell 4
          have x5 := hX.cell 5
          have x6 := hX.cell 6
          have y0 := hY.cell 0
          have y1 := hY.cell 1
          have y2 := hY.cell 2
          have y3 := hY.cell 3
          have y4 := hY.cell 4
          have y5 := hY.cell 5
          have y6 := hY.cell 6
          clear hX hY hal HB5
          have htx : ∀ q : List UInt8, (bs q).toList = q := toList_bs
          by_cases q0 : xk = yk
          · subst q0
            by_cases q1 : xt = yt
            · subst q1
              by_cases q2 : xs = ys
              · subst q2
                by_cases q3 : xa = ya
                · subst q3
                  by_cases q4 : xb = yb
                  · subst q4
                    by_cases q5 : xu = yu
                    · subst q5
                      have HIC := Lib.hid (IH.out _ HSZ.out xl yl _ _ _ w6 (Nat.le_refl _) HK1.out HK2.out)
                      have HR2 : Hid (R = (likeF xl yl && likeF (l.drop (k + 1)) (m.drop (k + 1)))) := by rw [Hid, HR.out]; simp
                      clear HR
                      generalize likeF xl yl = z at *
                      go_wp2_with fail
                      refine HIC.out.mono ?_
                      rintro e w7 ⟨rfl, hb7⟩
                      have HB7 := Lib.hid (HB6.out.trans (hb7.mono HB6.out.size))
                      clear hb7 HB6 HIC
                      cases z with
                      | true =>
                        go_wp2_with fail
                        have HR3 : Hid (R = likeF (l.drop (k + 1)) (m.drop (k + 1))) := by rw [Hid, HR2.out, Bool.true_and]
                        go_roundw
                        case rel => exact ⟨k + 1, hltN, by go_num, HR3.out, HB7.out⟩
                        case measure => simp [intOf]; omega
                      | false =>
                        go_wp2_with fail
                        go_ret
                        exact ⟨ret_bool (by rw [HR2.out]; rfl), HB7.out⟩
                    · have hq : (xu == yu) = false := beq_eq_false_iff_ne.2 q5
                      have HF : Hid (R = false) := by rw [Hid, HR.out]; simp [hq]
                      clear HR
                      go_wp2_with fail
                      go_ret
                      exact ⟨ret_bool (by rw [HF.out]), HB6.out⟩
                  · have q4b : yb = !xb := by cases xb <;> cases yb <;> simp_all
                    subst q4b
                    have HF : Hid (R = false) := by rw [Hid, HR.out]; cases xb <;> simp
                    clear HR
                    cases xb
                    all_goals
                      go_wp2_with fail
                      go_ret
                      exact ⟨ret_bool (by rw [HF.out]), HB6.out⟩
                · have hq : (xa == ya) = false := beq_eq_false_iff_ne.2 q3
                  have HF : Hid (R = false) := by rw [Hid, HR.out]; simp [hq]
                  clear HR
                  go_wp2_with fail
                  go_ret
                  exact ⟨ret_bool (by rw [HF.out]), HB6.out⟩
              · have hq : (xs == ys) = false := beq_eq_false_iff_ne.2 q2
                have HF : Hid (R = false) := by rw [Hid, HR.out]; simp [hq]
                clear HR
                go_wp2_with fail
                go_ret
                exact ⟨ret_bool (by rw [HF.out]), HB6.out⟩
            · have hq : (xt == yt) = false := beq_eq_false_iff_ne.2 q1
              have HF : Hid (R = false) := by rw [Hid, HR.out]; simp [hq]
              clear HR
              go_wp2_with fail
              go_ret
              exact ⟨ret_bool (by rw [HF.out]), HB6.out⟩
          · have hq : (xk == yk) = false := beq_eq_false_iff_ne.2 q0
            have HF : Hid (R = false) := by rw [Hid, HR.out]; simp [hq]
            clear HR
            go_wp2_with fail
            go_ret
            exact ⟨ret_bool (by rw [HF.out]), HB6.out⟩
        · have hkl : k = N := by omega
          subst hkl
          have HT : Hid (R = true) := by rw [Hid, HR.out, ← HDE.out, ← HLM.out, ← HNL.out]
          go_wp2_with fail
          go_ret
          exact ⟨ret_bool (by rw [HT.out]), HB.out⟩
    · have HF : Hid (R = false) := HN0.out hlm
      have hlb : ((l.length : Int) == (m.length : Int)) = false := beq_eq_false_iff_ne.2 (by omega)
      clear hlm HN0 HR0
      go_enter Tryz.func21, Tryz.ntmps21
      go_wp2_with fail
      go_ret
      exact ⟨ret_bool (by rw [HF.out]), Below.refl _ _⟩
end Go.Proofs.YtijpfcjlochahaaGreatDoor
