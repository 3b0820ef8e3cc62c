/- Plain: two rows of elements that are the same. No program is named here. The walk of show's same$1 (the closure of same). The walks of EqualFunc at elements with same's closure, and of show's same. The walks of show's page, Print, Right. -/
import Derived.Test.YtijpfcjlochahaaGreatDoorCntP
import Derived.Test.YtijpfcjlochahaaGreatDoorShwO
import Derived.Test.YtijpfcjlochahaaGreatDoorLike
import Derived.Test.YtijpfcjlochahaaGreatDoorDocL
namespace Go.Proofs.YtijpfcjlochahaaGreatDoor
open Go Go.RowKit
set_option linter.unusedVariables false
set_option linter.unusedSimpArgs false

mutual
def likeE : Elem → Elem → Bool
  | .mk k t s a b u l, .mk k' t' s' a' b' u' l' => k == k' && t == t' && s == s' && a == a' && b == b' && u == u' && likeF l l'
def likeF : List Elem → List Elem → Bool
  | [], [] => true
  | e :: l, f :: m => likeE e f && likeF l m
  | _, _ => false
end
mutual
theorem likeE_refl : ∀ e : Elem, likeE e e = true
  | .mk k t s a b u l => by simp [likeE, likeF_refl l]
theorem likeF_refl : ∀ l : List Elem, likeF l l = true
  | [] => rfl
  | e :: l => by simp [likeF, likeE_refl e, likeF_refl l]
end
mutual
theorem likeE_eq : ∀ e f : Elem, likeE e f = true → e = f
  | .mk k t s a b u l, .mk k' t' s' a' b' u' l', h => by
    simp only [likeE, Bool.and_eq_true, beq_iff_eq] at h
    obtain ⟨⟨⟨⟨⟨⟨h1, h2⟩, h3⟩, h4⟩, h5⟩, h6⟩, h7⟩ := h
    rw [h1, h2, h3, h4, h5, h6, likeF_eq l l' h7]
theorem likeF_eq : ∀ l m : List Elem, likeF l m = true → l = m
  | [], [], _ => rfl
  | [], _ :: _, h => by simp [likeF] at h
  | _ :: _, [], h => by simp [likeF] at h
  | e :: l, f :: m, h => by
    simp only [likeF, Bool.and_eq_true] at h
    rw [likeE_eq e f h.1, likeF_eq l m h.2]
end
theorem likeF_iff {l m : List Elem} : likeF l m = true ↔ l = m := ⟨likeF_eq l m, fun h => h ▸ likeF_refl l⟩
end Go.Proofs.YtijpfcjlochahaaGreatDoor
namespace Go.Proofs.YtijpfcjlochahaaGreatDoor
set_option linter.unusedVariables false
set_option linter.unusedSimpArgs false
open Go Go.RowKit

theorem likeE_unf (e f : Elem) : likeE e f = (e.kind == f.kind && e.text == f.text && e.src == f.src && e.alt == f.alt && e.soft == f.soft && e.test == f.test && likeF e.kids f.kids) := by
  cases e; cases f; rfl
theorem bs_beq (a b : List UInt8) : ((bs a).toList == (bs b).toList) = (a == b) := by rw [toList_bs, toList_bs]
set_option maxRecDepth 20000 in
set_option maxHeartbeats 4000000 in
theorem same1_calls (e f : Elem) (A B : Option Addr) (c d : Nat) (w : World) (hsame : ∀ W, Below w.heap.size w W → Calls Tryz.prog 80 #[.slice A e.kids.length c, .slice B f.kids.length d] W fun en W' => en = .returned (.bool (likeF e.kids f.kids)) ∧ Below W.heap.size W W') :
    Calls Tryz.prog 132 #[.agg #[.int .i64 e.kind, .string (bs e.text), .string (bs e.src), .string (bs e.alt), .bool e.soft, .string (bs e.test), .slice A e.kids.length c], .agg #[.int .i64 f.kind, .string (bs f.text), .string (bs f.src), .string (bs f.alt), .bool f.soft, .string (bs f.test), .slice B f.kids.length d]] w fun en w' => en = .returned (.bool (likeE e f)) ∧ Below w.heap.size w w' := by
  have HS := Lib.hid hsame
  have HL := Lib.hid (likeE_unf e f)
  generalize likeE e f = R at *
  clear hsame
  have h1 : Below w.heap.size w (w.alloc (.cells #[.int .i64 e.kind, .string (bs e.text), .string (bs e.src), .string (bs e.alt), .bool e.soft, .string (bs e.test), .slice A e.kids.length c] 74)) := (Below.refl _ _).alloc (Nat.le_refl _) _
  have hX := Blk.new w 74 #[.int .i64 e.kind, .string (bs e.text), .string (bs e.src), .string (bs e.alt), .bool e.soft, .string (bs e.test), .slice A e.kids.length c]
  have hY := Blk.new (w.alloc (.cells #[.int .i64 e.kind, .string (bs e.text), .string (bs e.src), .string (bs e.alt), .bool e.soft, .string (bs e.test), .slice A e.kids.length c] 74)) 74 #[.int .i64 f.kind, .string (bs f.text), .string (bs f.src), .string (bs f.alt), .bool f.soft, .string (bs f.test), .slice B f.kids.length d]
  have hX2 := hX.alloc (.cells #[.int .i64 f.kind, .string (bs f.text), .string (bs f.src), .string (bs f.alt), .bool f.soft, .string (bs f.test), .slice B f.kids.length d] 74)
  have HB := Lib.hid (h1.alloc h1.size (.cells #[.int .i64 f.kind, .string (bs f.text), .string (bs f.src), .string (bs f.alt), .bool f.soft, .string (bs f.test), .slice B f.kids.length d] 74))
  go_enter Tryz.func132, Tryz.ntmps132
  go_upto_region 1 with (fail)
  rw [size_alloc] at hY
  clear hX h1
  generalize (w.alloc (.cells #[.int .i64 e.kind, .string (bs e.text), .string (bs e.src), .string (bs e.alt), .bool e.soft, .string (bs e.test), .slice A e.kids.length c] 74)).alloc (.cells #[.int .i64 f.kind, .string (bs f.text), .string (bs f.src), .string (bs f.alt), .bool f.soft, .string (bs f.test), .slice B f.kids.length d] 74) = w5 at *
  have x0 := hX2.cell 0
  have x1 := hX2.cell 1
  have x2 := hX2.cell 2
  have x3 := hX2.cell 3
  have x4 := hX2.cell 4
  have x5 := hX2.cell 5
  have x6 := hX2.cell 6
  have y0 := hY.cell 0
  have y1 := hY.cell 1
  have y2 := hY.cell 2
  have y3 := hY.cell 3
  have y4 := hY.cell 4
  have y5 := hY.cell 5
  have y6 := hY.cell 6
  clear hX2 hY
  have b1 := bs_beq e.text f.text
  have b2 := bs_beq e.src f.src
  have b3 := bs_beq e.alt f.alt
  have b5 := bs_beq e.test f.test
  cases q0 : (e.kind == f.kind) with
  | false =>
    have HR : Hid (R = false) := by rw [Hid, HL.out, q0]; rfl
    go_wp2_with fail
    go_ret
    exact ⟨by rw [HR.out]; rfl, HB.out⟩
  | true =>
    cases q1 : (e.text == f.text) with
    | false =>
      rw [q1] at b1
      have HR : Hid (R = false) := by rw [Hid, HL.out, q0, q1]; simp
      go_wp2_with fail
      go_ret
      exact ⟨by rw [HR.out]; rfl, HB.out⟩
    | true =>
      rw [q1] at b1
      cases q2 : (e.src == f.src) with
      | false =>
        rw [q2] at b2
        have HR : Hid (R = false) := by rw [Hid, HL.out, q0, q1, q2]; simp
        go_wp2_with fail
        go_ret
        exact ⟨by rw [HR.out]; rfl, HB.out⟩
      | true =>
        rw [q2] at b2
        cases q3 : (e.alt == f.alt) with
        | false =>
          rw [q3] at b3
          have HR : Hid (R = false) := by rw [Hid, HL.out, q0, q1, q2, q3]; simp
          go_wp2_with fail
          go_ret
          exact ⟨by rw [HR.out]; rfl, HB.out⟩
        | true =>
          rw [q3] at b3
          cases q4 : (e.soft == f.soft) with
          | false =>
            have HR : Hid (R = false) := by rw [Hid, HL.out, q0, q1, q2, q3, q4]; simp
            go_wp2_with fail
            go_ret
            exact ⟨by rw [HR.out]; rfl, HB.out⟩
          | true =>
            cases q5 : (e.test == f.test) with
            | false =>
              rw [q5] at b5
              have HR : Hid (R = false) := by rw [Hid, HL.out, q0, q1, q2, q3, q4, q5]; simp
              go_wp2_with fail
              go_ret
              exact ⟨by rw [HR.out]; rfl, HB.out⟩
            | true =>
              rw [q5] at b5
              go_wp2_with fail
              refine (HS.out w5 HB.out).mono ?_
              rintro en w6 ⟨rfl, h6⟩
              have HB6 := Lib.hid (HB.out.trans (h6.mono HB.out.size))
              clear h6
              have HR : Hid (R = likeF e.kids f.kids) := by rw [Hid, HL.out, q0, q1, q2, q3, q4, q5]; rfl
              go_wp2_with fail
              all_goals
                go_ret
                exact ⟨by rw [HR.out]; rfl, HB6.out⟩
end Go.Proofs.YtijpfcjlochahaaGreatDoor
namespace Go.Proofs.YtijpfcjlochahaaGreatDoor
set_option linter.unusedVariables false
set_option linter.unusedSimpArgs false
open Go Go.RowKit

theorem likeF_len : ∀ {l m : List Elem}, l.length ≠ m.length → likeF l m = false
  | [], [], h => absurd rfl h
  | [], _ :: _, _ => by simp [likeF]
  | _ :: _, [], _ => by simp [likeF]
  | e :: l, f :: m, h => by
    rw [likeF, likeF_len (l := l) (m := m) (by simpa using h), Bool.and_false]
theorem likeF_drop {l m : List Elem} {k : Nat} (h1 : k < l.length) (h2 : k < m.length) : likeF (l.drop k) (m.drop k) = (likeE l[k] m[k] && likeF (l.drop (k + 1)) (m.drop (k + 1))) := by
  rw [List.drop_eq_getElem_cons h1, List.drop_eq_getElem_cons h2, likeF]
def EqOne (e f : Elem) (F : Nat → Prop) (w : World) : Prop := ∀ (A B : Option Addr) (c d : Nat) (W : World), Below w.heap.size w W → GR w F (.row 7 (e.kids.map Elem.gv)) [.slice A e.kids.length c] → GR w F (.row 7 (f.kids.map Elem.gv)) [.slice B f.kids.length d] →
  Calls Tryz.prog 132 #[.agg #[.int .i64 e.kind, .string (bs e.text), .string (bs e.src), .string (bs e.alt), .bool e.soft, .string (bs e.test), .slice A e.kids.length c], .agg #[.int .i64 f.kind, .string (bs f.text), .string (bs f.src), .string (bs f.alt), .bool f.soft, .string (bs f.test), .slice B f.kids.length d]] W fun en W' => en = .returned (.bool (likeE e f)) ∧ Below W.heap.size W W'
set_option maxRecDepth 20000 in
set_option maxHeartbeats 4000000 in
theorem equal_step (l m : List Elem) (va vb : Value) (F : Nat → Prop) (w : World) (ha : GR w F (.row 7 (l.map Elem.gv)) [va]) (hb : GR w F (.row 7 (m.map Elem.gv)) [vb])
    (hone : ∀ k (h1 : k < l.length) (h2 : k < m.length), EqOne l[k] m[k] (fun g => F g ∧ g < w.heap.size) w) :
    Calls Tryz.prog 131 #[va, vb, .func (.func 132) #[] #[]] w fun e w' => e = .returned (.bool (likeF l m)) ∧ Below w.heap.size w w' := by
  obtain ⟨A, c, rfl, hlc, hcm, hop⟩ := elems_open (GR.lt_heap _ _ ha)
  obtain ⟨B, d, rfl, hld, hdm, hop2⟩ := elems_open (GR.lt_heap _ _ hb)
  have HOP := Lib.hid hop
  have HOP2 := Lib.hid hop2
  have HONE := Lib.hid hone
  clear hop hop2 ha hb hone
  unfold maxLen at hcm hdm
  by_cases hlen : l.length = m.length
  · have hbl : ((l.length : Int) != (m.length : Int)) = false := by rw [hlen]; simp
    have HLEN := Lib.hid hlen
    have HR : Hid (likeF l m = likeF (l.drop 0) (m.drop 0)) := rfl
    generalize likeF l m = R at *
    clear hlen
    go_enter Tryz.func131, Tryz.ntmps131
    go_wp2_with fail
    go_loopw [7, 8, 9, 17] (fun _ _ _ i wr => ∃ k : Nat, k ≤ l.length ∧ i = .int .i64 k ∧ Hid (Below w.heap.size w wr) ∧ Hid (R = likeF (l.drop k) (m.drop k)))
      (fun _ _ _ i wr => l.length - (intOf i).toNat)
    case atStart => exact ⟨0, Nat.zero_le _, rfl, Below.refl _ _, HR.out⟩
    case round =>
      clear HR
      obtain ⟨k, hk, rfl, HB, HR⟩ := hrel
      by_cases hlt : k < l.length
      · have hlt2 : k < m.length := by have := HLEN.out; omega
        obtain ⟨b, off, rfl, ⟨_, hbw⟩, hop⟩ := HOP.out (by rintro rfl; simp at hlt)
        obtain ⟨b2, off2, rfl, ⟨_, hbw2⟩, hop2⟩ := HOP2.out (by rintro rfl; simp at hlt2)
        obtain ⟨A1, c1, hE⟩ := hop k hlt
        obtain ⟨A2, c2, hE2⟩ := hop2 k hlt2
        have H1 := Lib.hid (HONE.out k hlt hlt2)
        have HD := Lib.hid (likeF_drop hlt hlt2)
        have HK1 := Lib.hid hE.kids
        have HK2 := Lib.hid hE2.kids
        have hE := hE.below HB.out hbw
        have HE2 := Lib.hid (hE2.below HB.out hbw2)
        have HW2 : Hid (b2 < wr.heap.size) := Nat.lt_of_lt_of_le hbw2 HB.out.size
        have hk1 : (0 : Int) ≤ (k : Int) := by omega
        have hk2 : (k : Int) < (l.length : Int) := by omega
        have hk3 : (k : Int) < (m.length : Int) := by omega
        have e0 := hE.c0
        have e1 := hE.c1
        have e2 := hE.c2
        have e3 := hE.c3
        have e4 := hE.c4
        have e5 := hE.c5
        have e6 := hE.c6
        clear hop hop2 hbw hbw2 hE hE2
        generalize l[k] = x at *
        generalize m[k] = y at *
        go_upto_region 6 with (fail)
        have hal : Below wr.heap.size wr (wr.alloc (.cells #[.int .i64 x.kind, .string (bs x.text), .string (bs x.src), .string (bs x.alt), .bool x.soft, .string (bs x.test), .slice A1 x.kids.length c1] 74)) := (Below.refl _ _).alloc (Nat.le_refl _) _
        have HX := Lib.hid (Blk.new wr 74 #[.int .i64 x.kind, .string (bs x.text), .string (bs x.src), .string (bs x.alt), .bool x.soft, .string (bs x.test), .slice A1 x.kids.length c1])
        clear e0 e1 e2 e3 e4 e5 e6
        have hE2 := HE2.out.below hal HW2.out
        have HB5 := Lib.hid (HB.out.trans (hal.mono HB.out.size))
        generalize wr.alloc (.cells #[.int .i64 x.kind, .string (bs x.text), .string (bs x.src), .string (bs x.alt), .bool x.soft, .string (bs x.test), .slice A1 x.kids.length c1] 74) = w5 at *
        have e0 := hE2.c0
        have e1 := hE2.c1
        have e2 := hE2.c2
        have e3 := hE2.c3
        have e4 := hE2.c4
        have e5 := hE2.c5
        have e6 := hE2.c6
        clear hE2 HE2 HB hal HW2
        generalize wr.heap.size = X at *
        go_upto_region 7 with (fail)
        have hal : Below w5.heap.size w5 (w5.alloc (.cells #[.int .i64 y.kind, .string (bs y.text), .string (bs y.src), .string (bs y.alt), .bool y.soft, .string (bs y.test), .slice A2 y.kids.length c2] 74)) := (Below.refl _ _).alloc (Nat.le_refl _) _
        have hY := Blk.new w5 74 #[.int .i64 y.kind, .string (bs y.text), .string (bs y.src), .string (bs y.alt), .bool y.soft, .string (bs y.test), .slice A2 y.kids.length c2]
        have hX := HX.out.below hal HX.out.lt
        clear e0 e1 e2 e3 e4 e5 e6 HX
        have HB6 := Lib.hid (HB5.out.trans (hal.mono HB5.out.size))
        generalize w5.alloc (.cells #[.int .i64 y.kind, .string (bs y.text), .string (bs y.src), .string (bs y.alt), .bool y.soft, .string (bs y.test), .slice A2 y.kids.length c2] 74) = w6 at *
        generalize w5.heap.size = Y at *
        have x0 := hX.cell 0
        have x1 := hX.cell 1
        have x2 := hX.cell 2
        have x3 := hX.cell 3
        have x4 := hX.cell 4
        have x5 := hX.cell 5
        have x6 := hX.cell 6
        have y0 := hY.cell 0
        have y1 := hY.cell 1
        have y2 := hY.cell 2
        have y3 := hY.cell 3
        have y4 := hY.cell 4
        have y5 := hY.cell 5
        have y6 := hY.cell 6
        clear hX hY hal HB5
        go_wp2_with fail
        refine (H1.out _ _ _ _ w6 HB6.out HK1.out HK2.out).mono ?_
        rintro e w7 ⟨rfl, hb7⟩
        have HB7 := Lib.hid (HB6.out.trans (hb7.mono HB6.out.size))
        clear hb7 HB6
        cases hq : likeE x y with
        | true =>
          have HR2 : Hid (R = likeF (l.drop (k + 1)) (m.drop (k + 1))) := by rw [Hid, HR.out, HD.out, hq, Bool.true_and]
          go_wp2_with fail
          exact ⟨⟨k + 1, hlt, by go_num, HB7.out, HR2.out⟩, by simp [intOf]; omega⟩
        | false =>
          have HR2 : Hid (R = false) := by rw [Hid, HR.out, HD.out, hq, Bool.false_and]
          go_wp2_with fail
          go_ret
          exact ⟨by rw [HR2.out]; rfl, HB7.out⟩
      · have hkl : k = l.length := by omega
        have HR2 : Hid (R = true) := by
          rw [Hid, HR.out, hkl, List.drop_length, HLEN.out, List.drop_length]; rfl
        go_wp2_with fail
        go_ret
        exact ⟨by rw [HR2.out]; rfl, HB.out⟩
  · have hbl : ((l.length : Int) != (m.length : Int)) = true := by rw [bne_iff_ne]; omega
    have HR : Hid (likeF l m = false) := likeF_len hlen
    generalize likeF l m = R at *
    clear hlen
    go_enter Tryz.func131, Tryz.ntmps131
    go_wp2_with fail
    go_ret
    exact ⟨by rw [HR.out]; rfl, Below.refl _ _⟩
set_option maxRecDepth 20000 in
set_option maxHeartbeats 4000000 in
theorem showSame_calls : ∀ (n : Nat) (l m : List Elem) (va vb : Value) (F : Nat → Prop) (w : World), sizeF l ≤ n → GR w F (.row 7 (l.map Elem.gv)) [va] → GR w F (.row 7 (m.map Elem.gv)) [vb] →
    Calls Tryz.prog 80 #[va, vb] w fun e w' => e = .returned (.bool (likeF l m)) ∧ Below w.heap.size w w' := by
  intro n
  induction n using Nat.strongRecOn with
  | ind n ih =>
    intro l m va vb F w hn ha hb
    obtain ⟨A, c, rfl, -, -, -⟩ := elems_open ha
    obtain ⟨B, d, rfl, -, -, -⟩ := elems_open hb
    have HE := Lib.hid (equal_step l m _ _ F w ha hb (fun k h1 h2 A B c d W hW g1 g2 => same1_calls _ _ A B c d W (fun W2 h => by
      have q1 := sizeE_mem h1
      have q2 := sizeE_eq l[k]
      exact ih (sizeF l[k].kids) (by omega) _ _ _ _ _ W2 (Nat.le_refl _) ((g1.below hW).below h) ((g2.below hW).below h))))
    generalize likeF l m = R at *
    clear ha hb ih
    go_enter Tryz.func80, Tryz.ntmps80
    go_wp2_with fail
    refine HE.out.mono ?_
    rintro e w1 ⟨rfl, h1⟩
    have H1 := Lib.hid h1
    clear h1
    go_wp2_with fail
    go_ret
    exact ⟨rfl, H1.out⟩
end Go.Proofs.YtijpfcjlochahaaGreatDoor
namespace Go.Proofs.YtijpfcjlochahaaGreatDoor
set_option linter.unusedVariables false
set_option linter.unusedSimpArgs false
open Go Go.RowKit

def pageF (l : List Elem) : List UInt8 × Bool :=
  if 1000 < countF 1000 l then ([], false) else if 20000 < (shF l).length then ([], false) else (shF l, (readF (shF l)).2 == 0 && likeF l (readF (shF l)).1)
set_option maxRecDepth 20000 in
set_option maxHeartbeats 4000000 in
theorem page_calls (l : List Elem) (v : Value) (F : Nat → Prop) (w : World) (hv : GR w F (.row 7 (l.map Elem.gv)) [v]) (hsz : countF 1000 l ≤ 1000 → (shF l).length ≤ 100000000) :
    Calls Tryz.prog 48 #[v] w fun e w' => e = .returned (.tuple #[.string (bs (pageF l).1), .bool (pageF l).2]) ∧ Below w.heap.size w w' := by
  obtain ⟨A, c, rfl, -, -, -⟩ := elems_open hv
  have HV := Lib.hid hv
  have HSZ := Lib.hid hsz
  have HP : Hid (pageF l = if 1000 < countF 1000 l then ([], false) else if 20000 < (shF l).length then ([], false) else (shF l, (readF (shF l)).2 == 0 && likeF l (readF (shF l)).1)) := rfl
  generalize pageF l = P at *
  clear hv hsz
  go_enter Tryz.func48, Tryz.ntmps48
  go_wp2_with fail
  refine (count_calls l _ _ _ HV.out).mono ?_
  rintro e w1 ⟨rfl, hb1⟩
  have HB1 := Lib.hid hb1
  clear hb1
  by_cases h : 1000 < countF 1000 l
  · have hd1 : (1000 : Int) < (countF 1000 l : Int) := by omega
    have hd2 : decide ((1000 : Int) < (countF 1000 l : Int)) = true := by simpa using hd1
    have HR : Hid (P = ([], false)) := by rw [Hid, HP.out, if_pos h]
    generalize countF 1000 l = R at *
    clear h HP
    go_wp2_with fail
    go_ret2
    exact ⟨by rw [HR.out]; rfl, HB1.out⟩
  · have HLS := Lib.hid (HSZ.out (by omega))
    have hd1 : ¬ (1000 : Int) < (countF 1000 l : Int) := by omega
    have hd2 : decide ((1000 : Int) < (countF 1000 l : Int)) = false := by simpa using hd1
    have HR : Hid (P = if 20000 < (shF l).length then ([], false) else (shF l, (readF (shF l)).2 == 0 && likeF l (readF (shF l)).1)) := by rw [Hid, HP.out, if_neg h]
    generalize countF 1000 l = R at *
    clear h HP
    go_wp2_with fail
    refine (showAll_calls (sizeF l) l _ _ _ (Nat.le_refl _) HLS.out (HV.out.below HB1.out)).mono ?_
    rintro e w2 ⟨rfl, hb2⟩
    have HB2 := Lib.hid (HB1.out.trans (hb2.mono HB1.out.size))
    clear hb2
    have hsb : (bs (shF l)).size = (shF l).length := size_bs _
    by_cases h : 20000 < (shF l).length
    · have HR2 : Hid (P = ([], false)) := by rw [Hid, HR.out, if_pos h]
      have hd3 : (20000 : Int) < ((shF l).length : Int) := by omega
      have hd4 : decide ((20000 : Int) < ((shF l).length : Int)) = true := by simpa using hd3
      clear h
      go_wp2_with fail
      go_ret2
      exact ⟨by rw [HR2.out]; rfl, HB2.out⟩
    · have HR2 : Hid (P = (shF l, (readF (shF l)).2 == 0 && likeF l (readF (shF l)).1)) := by rw [Hid, HR.out, if_neg h]
      have hd3 : ¬ (20000 : Int) < ((shF l).length : Int) := by omega
      have hd4 : decide ((20000 : Int) < ((shF l).length : Int)) = false := by simpa using hd3
      have HLE : Hid ((bs (shF l)).size ≤ 90000) := by rw [Hid, hsb]; omega
      clear h
      go_wp2_with fail
      refine (read_calls (bs (shF l)) w2 HLE.out).mono ?_
      rw [L_bs]
      rintro e w3 ⟨v3, rfl, hg3, hb3⟩
      obtain ⟨A3, c3, rfl, -, -, -⟩ := elems_open hg3
      have HB3 := Lib.hid (HB2.out.trans (hb3.mono HB2.out.size))
      have HG3 := Lib.hid (hg3.weaken (F' := fun _ => True) (fun _ _ => trivial))
      clear hg3 hb3
      generalize readF (shF l) = q at *
      obtain ⟨q1, q2⟩ := q
      cases hq : (q2 == 0) with
      | false =>
        go_wp2_with fail
        go_ret2
        exact ⟨by rw [HR2.out]; simp only [hq]; rfl, HB3.out⟩
      | true =>
        have HQ := Lib.hid hq
        go_wp2_with fail
        refine (showSame_calls (sizeF l) l q1 _ _ (fun _ => True) _ (Nat.le_refl _) ((HV.out.below HB3.out).weaken (fun _ _ => trivial)) HG3.out).mono ?_
        rintro e w4 ⟨rfl, hb4⟩
        have HB4 := Lib.hid (HB3.out.trans (hb4.mono HB3.out.size))
        clear hb4
        go_wp2_with fail
        go_ret2
        exact ⟨by rw [HR2.out]; simp only [HQ.out]; rfl, HB4.out⟩
def printF (l : List Elem) : List UInt8 × Int := if (pageF l).2 = true then ((pageF l).1, 0) else ([], 1)
set_option maxRecDepth 20000 in
set_option maxHeartbeats 2000000 in
theorem print_calls (l : List Elem) (v : Value) (F : Nat → Prop) (w : World) (hv : GR w F (.row 7 (l.map Elem.gv)) [v]) (hsz : countF 1000 l ≤ 1000 → (shF l).length ≤ 100000000) :
    Calls Tryz.prog 26 #[v] w fun e w' => e = .returned (.tuple #[.string (bs (printF l).1), .int .i64 (printF l).2]) ∧ Below w.heap.size w w' := by
  obtain ⟨A, c, rfl, -, -, -⟩ := elems_open hv
  have HC := Lib.hid (page_calls l _ F w hv hsz)
  have HP : Hid (printF l = if (pageF l).2 = true then ((pageF l).1, 0) else ([], 1)) := rfl
  generalize printF l = P at *
  generalize pageF l = q at *
  obtain ⟨q1, q2⟩ := q
  clear hv hsz
  go_enter Tryz.func26, Tryz.ntmps26
  go_wp2_with fail
  refine HC.out.mono ?_
  rintro e w1 ⟨rfl, hb1⟩
  have HB1 := Lib.hid hb1
  clear hb1
  cases q2 with
  | true =>
    have HR : Hid (P = (q1, 0)) := HP.out
    go_wp2_with fail
    go_ret2
    exact ⟨by rw [HR.out]; rfl, HB1.out⟩
  | false =>
    have HR : Hid (P = ([], 1)) := HP.out
    go_wp2_with fail
    go_ret2
    exact ⟨by rw [HR.out]; rfl, HB1.out⟩
set_option maxRecDepth 20000 in
set_option maxHeartbeats 2000000 in
theorem shRight_calls (l : List Elem) (v : Value) (F : Nat → Prop) (w : World) (hv : GR w F (.row 7 (l.map Elem.gv)) [v]) (hsz : countF 1000 l ≤ 1000 → (shF l).length ≤ 100000000) :
    Calls Tryz.prog 28 #[v] w fun e w' => e = .returned (.bool (pageF l).2) ∧ Below w.heap.size w w' := by
  obtain ⟨A, c, rfl, -, -, -⟩ := elems_open hv
  have HC := Lib.hid (page_calls l _ F w hv hsz)
  generalize pageF l = q at *
  obtain ⟨q1, q2⟩ := q
  clear hv hsz
  go_enter Tryz.func28, Tryz.ntmps28
  go_wp2_with fail
  refine HC.out.mono ?_
  rintro e w1 ⟨rfl, hb1⟩
  have HB1 := Lib.hid hb1
  clear hb1
  go_wp2_with fail
  go_ret
  exact ⟨rfl, HB1.out⟩
end Go.Proofs.YtijpfcjlochahaaGreatDoor
