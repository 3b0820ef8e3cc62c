/- The walks of doc's small functions: what takes an attribute, what an element needs. -/
import Derived.Test.YtijpfcjlochahaaGreatDoorDocM
import Derived.Test.YtijpfcjlochahaaGreatDoorLexJ
import Derived.Test.YtijpfcjlochahaaGreatDoorAsk
import Derived.Deep.RegionHeld
set_option linter.unusedVariables false
set_option linter.unusedSimpArgs false
namespace Go.Proofs.YtijpfcjlochahaaGreatDoor
open Go Go.RowKit
set_option linter.unusedVariables false
set_option linter.unusedSimpArgs false

/-- An element without others within it, in a block of its own. -/
def ElemAt (w : World) (X : Nat) (e : Elem) : Prop :=
  Blk w X 74 #[.int .i64 e.kind, .string (bs e.text), .string (bs e.src), .string (bs e.alt), .bool e.soft, .string (bs e.test), .slice none 0 0]
def TakePost (X : Nat) (kd : Int) (el : Elem) (n v : List UInt8) (w : World) (e : Ending) (w' : World) : Prop :=
  e = .returned (.bool (takeF kd el n v).isSome) ∧ (∀ e2, takeF kd el n v = some e2 → ElemAt w' X e2) ∧ w.grownBy w' (some X)
theorem take_none {X : Nat} {kd : Int} {el : Elem} {n v : List UInt8} {w w' : World} (h : takeF kd el n v = none) (hg : w.grownBy w' (some X)) : TakePost X kd el n v w (.returned (.bool false)) w' :=
  ⟨by rw [h]; rfl, (fun e2 he => by rw [h] at he; cases he), hg⟩
theorem take_some {X : Nat} {kd : Int} {el e2 : Elem} {n v : List UInt8} {w w' : World} (h : takeF kd el n v = some e2) (he : ElemAt w' X e2) (hg : w.grownBy w' (some X)) : TakePost X kd el n v w (.returned (.bool true)) w' :=
  ⟨by rw [h]; rfl, (fun e3 h3 => by rw [h] at h3; injection h3 with h3; subst h3; exact he), hg⟩
theorem grown_two (w : World) (X i j : Nat) (u v : Value) : w.grownBy ((w.setCell ⟨X, i, none⟩ u).setCell ⟨X, j, none⟩ v) (some X) :=
  grown_setCell (p := ⟨X, j, none⟩) (grown_setCell (p := ⟨X, i, none⟩) (grown_refl w (some X)) (.inl rfl) u) (.inl rfl) v
theorem str_eq {n m : List UInt8} (h : n = m) : ((bs n).toList == m) = true := by rw [toList_bs, h]; simp
theorem str_ne {n m : List UInt8} (h : ¬ n = m) : ((bs n).toList == m) = false := by rw [toList_bs, beq_eq_false_iff_ne]; exact h

set_option maxRecDepth 20000 in
set_option maxHeartbeats 1000000 in
theorem include_calls (X : Nat) (el : Elem) (n v : List UInt8) (w : World) (h : ElemAt w X el) :
    Calls Tryz.prog 111 #[.pointer (some ⟨X, 0, none⟩), .string (bs n), .string (bs v)] w (TakePost X 2 el n v w) := by
  have x2 := h.cell 2
  have x3 := h.cell 3
  have x4 := h.cell 4
  have z2 := h.frozen 2
  have z3 := h.frozen 3
  have z4 := h.frozen 4
  have HX := Lib.hid h
  clear h
  obtain ⟨T, hT⟩ : ∃ T, T = takeF 2 el n v := ⟨_, rfl⟩
  have HT : Hid (takeF 2 el n v = if n = nSrc then (if v = [] then none else some (el.setSrc v)) else if n = nAlt then some (el.setAlt v) else if n = nOnerror then (if v = nContinue then some (el.setSoft true) else none) else none) := rfl
  clear hT
  obtain ⟨k, tx, s, a, b, u, ks⟩ := el
  go_enter Tryz.func111, Tryz.ntmps111
  by_cases h1 : n = nSrc
  · have hb1 := str_eq h1
    have HT2 : Hid (takeF 2 (.mk k tx s a b u ks) n v = if v = [] then none else some (.mk k tx v a b u ks)) := HT.out.trans (if_pos h1)
    clear HT h1
    unfold nSrc at hb1
    by_cases hv : v = []
    · have htl : (bs v).toList.isEmpty = true := by rw [hv, toList_bs]; rfl
      have HT3 := Lib.hid (HT2.out.trans (if_pos hv))
      clear hv HT2
      go_wp2_with fail
      go_ret
      exact take_none HT3.out (grown_setCell (grown_refl _ _) (.inl rfl) _)
    · have htl : (bs v).toList.isEmpty = false := by rw [toList_bs]; simpa using hv
      have HT3 := Lib.hid (HT2.out.trans (if_neg hv))
      clear hv HT2
      go_wp2_with fail
      go_ret
      exact take_some HT3.out (HX.out.set_ 2 (.string (bs v))) (grown_setCell (grown_refl _ _) (.inl rfl) _)
  · have hb1 := str_ne h1
    have HT2 : Hid (takeF 2 (.mk k tx s a b u ks) n v = if n = nAlt then some (.mk k tx s v b u ks) else if n = nOnerror then (if v = nContinue then some (.mk k tx s a true u ks) else none) else none) := HT.out.trans (if_neg h1)
    clear HT h1
    unfold nSrc at hb1
    by_cases h2 : n = nAlt
    · have hb2 := str_eq h2
      have HT3 := Lib.hid (HT2.out.trans (if_pos h2))
      clear HT2 h2
      unfold nAlt at hb2
      go_wp2_with fail
      go_ret
      exact take_some HT3.out (HX.out.set_ 3 (.string (bs v))) (grown_setCell (grown_refl _ _) (.inl rfl) _)
    · have hb2 := str_ne h2
      have HT3 := Lib.hid (HT2.out.trans (if_neg h2))
      clear HT2 h2
      unfold nAlt at hb2
      by_cases h3 : n = nOnerror
      · have hb3 := str_eq h3
        have HT4 := Lib.hid (HT3.out.trans (if_pos h3))
        clear HT3 h3
        unfold nOnerror at hb3
        by_cases hv : v = nContinue
        · have hb4 := str_eq hv
          have HT5 := Lib.hid (HT4.out.trans (if_pos hv))
          clear HT4 hv
          unfold nContinue at hb4
          go_wp2_with fail
          go_ret
          exact take_some HT5.out (HX.out.set_ 4 (.bool true)) (grown_setCell (grown_refl _ _) (.inl rfl) _)
        · have hb4 := str_ne hv
          have HT5 := Lib.hid (HT4.out.trans (if_neg hv))
          clear HT4 hv
          unfold nContinue at hb4
          go_wp2_with fail
          go_ret
          exact take_none HT5.out (grown_setCell (grown_refl _ _) (.inl rfl) _)
      · have hb3 := str_ne h3
        have HT4 := Lib.hid (HT3.out.trans (if_neg h3))
        clear HT3 h3
        unfold nOnerror at hb3
        go_wp2_with fail
        go_ret
        exact take_none HT4.out (grown_refl _ _)

set_option maxRecDepth 20000 in
set_option maxHeartbeats 1000000 in
theorem inline_calls (X : Nat) (el : Elem) (n v : List UInt8) (w : World) (h : ElemAt w X el) :
    Calls Tryz.prog 115 #[.pointer (some ⟨X, 0, none⟩), .string (bs n), .string (bs v)] w (TakePost X 3 el n v w) := by
  have x2 := h.cell 2
  have z2 := h.frozen 2
  have HX := Lib.hid h
  clear h
  have HT : Hid (takeF 3 el n v = if n = nName then (if v = [] then none else some (el.setSrc v)) else if n = nFetchable ∧ (v = nYes ∨ v = nNo) then some el else none) := rfl
  obtain ⟨k, tx, s, a, b, u, ks⟩ := el
  go_enter Tryz.func115, Tryz.ntmps115
  by_cases h1 : n = nName
  · have hb1 := str_eq h1
    have HT2 : Hid (takeF 3 (.mk k tx s a b u ks) n v = if v = [] then none else some (.mk k tx v a b u ks)) := HT.out.trans (if_pos h1)
    clear HT h1
    unfold nName at hb1
    by_cases hv : v = []
    · have htl : (bs v).toList.isEmpty = true := by rw [hv, toList_bs]; rfl
      have HT3 := Lib.hid (HT2.out.trans (if_pos hv))
      clear hv HT2
      go_wp2_with fail
      go_ret
      exact take_none HT3.out (grown_setCell (grown_refl _ _) (.inl rfl) _)
    · have htl : (bs v).toList.isEmpty = false := by rw [toList_bs]; simpa using hv
      have HT3 := Lib.hid (HT2.out.trans (if_neg hv))
      clear hv HT2
      go_wp2_with fail
      go_ret
      exact take_some HT3.out (HX.out.set_ 2 (.string (bs v))) (grown_setCell (grown_refl _ _) (.inl rfl) _)
  · have hb1 := str_ne h1
    have HT2 := Lib.hid (HT.out.trans (if_neg h1))
    clear HT h1
    unfold nName at hb1
    by_cases h2 : n = nFetchable
    · have hb2 := str_eq h2
      have H2 := Lib.hid h2
      clear h2
      unfold nFetchable at hb2
      by_cases hy : v = nYes
      · have hb3 := str_eq hy
        have HT3 := Lib.hid (HT2.out.trans (if_pos ⟨H2.out, .inl hy⟩))
        clear hy HT2
        unfold nYes at hb3
        go_wp2_with fail
        go_ret
        exact take_some HT3.out (HX.out) (grown_refl _ _)
      · have hb3 := str_ne hy
        have HY := Lib.hid hy
        clear hy
        unfold nYes at hb3
        by_cases hn : v = nNo
        · have hb4 := str_eq hn
          have HT3 := Lib.hid (HT2.out.trans (if_pos ⟨H2.out, .inr hn⟩))
          clear hn HT2
          unfold nNo at hb4
          go_wp2_with fail
          go_ret
          exact take_some HT3.out (HX.out) (grown_refl _ _)
        · have hb4 := str_ne hn
          have HT3 := Lib.hid (HT2.out.trans (if_neg (by rintro ⟨_, e | e⟩; exact HY.out e; exact hn e)))
          clear hn HT2
          unfold nNo at hb4
          go_wp2_with fail
          go_ret
          exact take_none HT3.out (grown_refl _ _)
    · have hb2 := str_ne h2
      have HT3 := Lib.hid (HT2.out.trans (if_neg (fun e => h2 e.1)))
      clear h2 HT2
      unfold nFetchable at hb2
      go_wp2_with fail
      go_ret
      exact take_none HT3.out (grown_refl _ _)

set_option maxRecDepth 20000 in
set_option maxHeartbeats 1000000 in
theorem text_calls (X : Nat) (el : Elem) (n v : List UInt8) (w : World) (h : ElemAt w X el) :
    Calls Tryz.prog 113 #[.pointer (some ⟨X, 0, none⟩), .string (bs n), .string (bs v)] w (TakePost X 12 el n v w) := by
  have x1 := h.cell 1
  have x4 := h.cell 4
  have z1 := h.frozen 1
  have z4 := h.frozen 4
  have HX := Lib.hid h
  clear h
  have HT : Hid (takeF 12 el n v = if n = nText then some ((el.setText v).setSoft true) else none) := rfl
  obtain ⟨k, tx, s, a, b, u, ks⟩ := el
  go_enter Tryz.func113, Tryz.ntmps113
  by_cases h1 : n = nText
  · have hb1 := str_eq h1
    have HT2 := Lib.hid (HT.out.trans (if_pos h1))
    clear HT h1
    unfold nText at hb1
    go_wp2_with fail
    go_ret
    exact take_some HT2.out ((HX.out.set_ 1 (.string (bs v))).set_ 4 (.bool true)) (grown_two _ _ _ _ _ _)
  · have hb1 := str_ne h1
    have HT2 := Lib.hid (HT.out.trans (if_neg h1))
    clear HT h1
    unfold nText at hb1
    go_wp2_with fail
    go_ret
    exact take_none HT2.out (grown_two _ _ _ _ _ _)
set_option maxRecDepth 20000 in
set_option maxHeartbeats 1000000 in
theorem test_calls (X : Nat) (el : Elem) (n v : List UInt8) (w : World) (h : ElemAt w X el) :
    Calls Tryz.prog 119 #[.pointer (some ⟨X, 0, none⟩), .string (bs n), .string (bs v)] w (TakePost X 8 el n v w) := by
  have x5 := h.cell 5
  have x4 := h.cell 4
  have z5 := h.frozen 5
  have z4 := h.frozen 4
  have HX := Lib.hid h
  clear h
  have HT : Hid (takeF 8 el n v = if n = nTest then some ((el.setTest v).setSoft true) else none) := rfl
  obtain ⟨k, tx, s, a, b, u, ks⟩ := el
  go_enter Tryz.func119, Tryz.ntmps119
  by_cases h1 : n = nTest
  · have hb1 := str_eq h1
    have HT2 := Lib.hid (HT.out.trans (if_pos h1))
    clear HT h1
    unfold nTest at hb1
    go_wp2_with fail
    go_ret
    exact take_some HT2.out ((HX.out.set_ 5 (.string (bs v))).set_ 4 (.bool true)) (grown_two _ _ _ _ _ _)
  · have hb1 := str_ne h1
    have HT2 := Lib.hid (HT.out.trans (if_neg h1))
    clear HT h1
    unfold nTest at hb1
    go_wp2_with fail
    go_ret
    exact take_none HT2.out (grown_two _ _ _ _ _ _)
theorem never_calls (X : Nat) (el : Elem) (kd : Int) (hk : ¬ (kd = 2 ∨ kd = 3 ∨ kd = 12 ∨ kd = 8)) (n v : List UInt8) (w : World) (h : ElemAt w X el) :
    Calls Tryz.prog 117 #[.pointer (some ⟨X, 0, none⟩), .string (bs n), .string (bs v)] w (TakePost X kd el n v w) := by
  have HT : Hid (takeF kd el n v = none) := by
    rw [Hid, takeF, if_neg (by omega), if_neg (by omega), if_neg (by omega), if_neg (by omega)]
  clear h
  go_enter Tryz.func117, Tryz.ntmps117
  go_wp2_with fail
  go_ret
  exact take_none HT.out (grown_refl _ _)
/-- The last open element. -/
structure Bld (w : World) (base B : Nat) (v : Value) (st : List Level) (kvs : List Value) (own : Nat → Option Nat) : Prop where
  blk : Blk w B 86 #[v, .int .i64 0]
  stk : Stk w base 90 74 v st kvs own
  free : own B = none
  ne : v.ownBlock ≠ some B
theorem Bld.form {w : World} {base B : Nat} {v : Value} {r : List Level} {t : Level} {kvs : List Value} {own : Nat → Option Nat} (h : Bld w base B v (r ++ [t]) kvs own) :
    ∃ sb cap, v = .slice (some ⟨sb, 0, none⟩) (r.length + 1) cap ∧ r.length + 1 ≤ cap ∧ cap ≤ maxLen ∧ sb < w.heap.size ∧ base ≤ sb := by
  have hr := h.stk.row
  rcases hr.2 with ⟨_, h0⟩ | ⟨g, cap, cur, hv, hb, hh, hn, hm, _⟩
  · simp at h0
  · rw [List.length_append, List.length_singleton] at hv hn
    exact ⟨g, cap, hv, hn, hm, (hr.lt g (by rw [hv]; rfl)).2, hb⟩
theorem Bld.kid {w : World} {base B : Nat} {v : Value} {r : List Level} {t : Level} {kvs : List Value} {own : Nat → Option Nat} (h : Bld w base B v (r ++ [t]) kvs own) :
    ∃ kvr kv, kvs = kvr ++ [kv] ∧ kvr.length = r.length := by
  have hl := h.stk.len
  rw [List.length_append, List.length_singleton] at hl
  rcases List.eq_nil_or_concat kvs with rfl | ⟨a, b, rfl⟩
  · simp at hl
  · rw [List.concat_eq_append] at hl ⊢
    exact ⟨a, b, rfl, by simpa using hl⟩
set_option maxRecDepth 20000 in
set_option maxHeartbeats 1000000 in
theorem top_calls {B sb cap n : Nat} (w : World) (h0 : w.cell? ⟨B, 0, none⟩ = some (.slice (some ⟨sb, 0, none⟩) (n + 1) cap)) (hn : n + 1 ≤ cap) (hc : n ≤ 1000) :
    Calls Tryz.prog 46 #[.pointer (some ⟨B, 0, none⟩)] w fun e w' => e = .returned (.pointer (some ⟨sb, n * 8, none⟩)) ∧ ∃ m, w' = w.drewN m := by
  have hn1 : (0 : Int) ≤ (n : Int) := by omega
  have hn2 : (n : Int) < ((n + 1 : Nat) : Int) := by omega
  have hn3 : ((n : Int) + 1) - 1 = (n : Int) := by omega
  go_enter Tryz.func46, Tryz.ntmps46
  go_wp2_with fail
  go_quiet (fail)
  go_wp2_with fail
  go_ret
  exact ⟨rfl, _, rfl⟩
end Go.Proofs.YtijpfcjlochahaaGreatDoor
