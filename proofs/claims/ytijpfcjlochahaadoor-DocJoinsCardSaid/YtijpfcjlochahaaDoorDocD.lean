/- The walks of what an element needs, of fits and of word. -/
import Derived.Test.YtijpfcjlochahaaDoorDocC
namespace Go.Proofs.YtijpfcjlochahaaDoor
open Go Go.RowKit

def elemV (e : Elem) (kv : Value) : Value := .agg #[.int .i64 e.kind, .string (bs e.text), .string (bs e.src), .string (bs e.alt), .bool e.soft, .string (bs e.test), kv]
theorem src_ne (s : List UInt8) : ((bs s).toList != []) = decide (s ≠ []) := by rw [toList_bs]; by_cases h : s = [] <;> simp [h]
set_option maxRecDepth 20000 in
set_option maxHeartbeats 1000000 in
theorem needs1_calls (e : Elem) (kv : Value) (w : World) : Calls Tryd.prog 101 #[.agg #[.int .i64 e.kind, .string (bs e.text), .string (bs e.src), .string (bs e.alt), .bool e.soft, .string (bs e.test), kv]] w fun en w' => en = .returned (.bool (decide (e.src ≠ []))) ∧ Below w.heap.size w w' := by
  go_enter Tryd.func101, Tryd.ntmps101
  go_wp2_with fail
  go_ret
  refine ⟨?_, (Below.refl _ _).alloc (Nat.le_refl _) _⟩
  show Ending.returned (.bool !(bs e.src).toList.isEmpty) = _
  rw [toList_bs]
  cases e.src <;> rfl
set_option maxRecDepth 20000 in
set_option maxHeartbeats 1000000 in
theorem needs2_calls (e : Elem) (kv : Value) (w : World) : Calls Tryd.prog 103 #[.agg #[.int .i64 e.kind, .string (bs e.text), .string (bs e.src), .string (bs e.alt), .bool e.soft, .string (bs e.test), kv]] w fun en w' => en = .returned (.bool e.soft) ∧ Below w.heap.size w w' := by
  go_enter Tryd.func103, Tryd.ntmps103
  go_wp2_with fail
  go_ret
  exact ⟨rfl, (Below.refl _ _).alloc (Nat.le_refl _) _⟩
set_option maxRecDepth 20000 in
set_option maxHeartbeats 1000000 in
theorem always_calls (e : Elem) (kv : Value) (w : World) : Calls Tryd.prog 107 #[.agg #[.int .i64 e.kind, .string (bs e.text), .string (bs e.src), .string (bs e.alt), .bool e.soft, .string (bs e.test), kv]] w fun en w' => en = .returned (.bool true) ∧ Below w.heap.size w w' := by
  go_enter Tryd.func107, Tryd.ntmps107
  go_wp2_with fail
  go_ret
  exact ⟨rfl, (Below.refl _ _).alloc (Nat.le_refl _) _⟩

set_option maxRecDepth 20000 in
set_option maxHeartbeats 1000000 in
theorem needs3_calls (e : Elem) (kv : Value) (w : World) : Calls Tryd.prog 105 #[.agg #[.int .i64 e.kind, .string (bs e.text), .string (bs e.src), .string (bs e.alt), .bool e.soft, .string (bs e.test), kv]] w fun en w' => en = .returned (.bool (decide (e.src ≠ []))) ∧ Below w.heap.size w w' := by
  go_enter Tryd.func105, Tryd.ntmps105
  go_wp2_with fail
  go_ret
  refine ⟨?_, (Below.refl _ _).alloc (Nat.le_refl _) _⟩
  show Ending.returned (.bool !(bs e.src).toList.isEmpty) = _
  rw [toList_bs]
  cases e.src <;> rfl
set_option maxRecDepth 20000 in
set_option maxHeartbeats 1000000 in
theorem needs4_calls (e : Elem) (kv : Value) (w : World) : Calls Tryd.prog 109 #[.agg #[.int .i64 e.kind, .string (bs e.text), .string (bs e.src), .string (bs e.alt), .bool e.soft, .string (bs e.test), kv]] w fun en w' => en = .returned (.bool e.soft) ∧ Below w.heap.size w w' := by
  go_enter Tryd.func109, Tryd.ntmps109
  go_wp2_with fail
  go_ret
  exact ⟨rfl, (Below.refl _ _).alloc (Nat.le_refl _) _⟩
theorem needs_calls (k : Int) (e : Elem) (kv : Value) (w : World) : Calls Tryd.prog (needsOf k) #[.agg #[.int .i64 e.kind, .string (bs e.text), .string (bs e.src), .string (bs e.alt), .bool e.soft, .string (bs e.test), kv]] w fun en w' => en = .returned (.bool (needsF k e)) ∧ Below w.heap.size w w' := by
  unfold needsOf needsF
  by_cases h1 : k = 2
  · rw [if_pos h1, if_pos (show k = 2 ∨ k = 3 from .inl h1)]
    exact needs1_calls e kv w
  · rw [if_neg h1]
    by_cases h2 : k = 12
    · rw [if_pos h2, if_neg (show ¬ (k = 2 ∨ k = 3) by omega), if_pos (show k = 12 ∨ k = 8 from .inl h2)]
      exact needs2_calls e kv w
    · rw [if_neg h2]
      by_cases h3 : k = 3
      · rw [if_pos h3, if_pos (show k = 2 ∨ k = 3 from .inr h3)]
        exact needs3_calls e kv w
      · rw [if_neg h3, if_neg (show ¬ (k = 2 ∨ k = 3) by omega)]
        by_cases h4 : k = 8
        · rw [if_pos h4, if_pos (show k = 12 ∨ k = 8 from .inr h4)]
          exact needs4_calls e kv w
        · rw [if_neg h4, if_neg (show ¬ (k = 12 ∨ k = 8) by omega)]
          exact always_calls e kv w
theorem takes_calls (k : Int) (X : Nat) (el : Elem) (n v : List UInt8) (w : World) (h : ElemAt w X el) : Calls Tryd.prog (takesOf k) #[.pointer (some ⟨X, 0, none⟩), .string (bs n), .string (bs v)] w (TakePost X k el n v w) := by
  unfold takesOf
  by_cases h1 : k = 2
  · rw [if_pos h1, h1]
    exact include_calls X el n v w h
  · rw [if_neg h1]
    by_cases h2 : k = 12
    · rw [if_pos h2, h2]
      exact text_calls X el n v w h
    · rw [if_neg h2]
      by_cases h3 : k = 3
      · rw [if_pos h3, h3]
        exact inline_calls X el n v w h
      · rw [if_neg h3]
        by_cases h4 : k = 8
        · rw [if_pos h4, h4]
          exact test_calls X el n v w h
        · rw [if_neg h4]
          exact never_calls X el k (by omega) n v w h
theorem last_kid {w : World} {base : Nat} {te : TypeId} {G : Nat → Prop} {A : Option Addr} {c : Nat} {l ys : List Elem} {u : Elem} (h : OwnR w base te 7 G (.slice A l.length c) (l.map Elem.gv)) (hl : l = ys ++ [u]) :
    ∃ g, A = some ⟨g, 0, none⟩ ∧ w.cell? ⟨g, ys.length * 7, none⟩ = some (.int .i64 u.kind) ∧ l.length ≤ c := by
  subst hl
  obtain ⟨xs, hr, hg⟩ := h
  have hr0 := hr
  rcases hr.2 with ⟨_, h0⟩ | ⟨g, cap, cur, hv, hb, hh, hn, hm, _⟩
  · simp at h0
  · injection hv with e1 e2 e3
    subst e1 e3
    refine ⟨g, rfl, ?_, by simpa using hn⟩
    obtain ⟨cs, h1, h2, h3⟩ := hg.at_ ys.length (by simp)
    have e : ((ys ++ [u]).map Elem.gv)[ys.length]'(by simp) = u.gv := by simp
    rw [e] at h1
    obtain ⟨k, tx, s, a, b, v, ks⟩ := u
    rw [Elem.gv] at h1
    obtain ⟨a1, b1, rfl, h4, -⟩ := GRa_cons.1 (GR_agg.1 h1)
    have h4 := GR_int.1 h4
    subst h4
    have h5 := h3 0 (by omega)
    rw [List.length_map] at hr0
    have h6 := hr0.cellAt (ys.length * 7) (by simp)
    rw [h6]
    show xs[ys.length * 7]? = some (Value.int .i64 k)
    simpa using h5

set_option maxRecDepth 20000 in
set_option maxHeartbeats 4000000 in
theorem fits_calls {base B : Nat} {v : Value} {r : List Level} {t : Level} {kvs : List Value} {own : Nat → Option Nat} (kind inn : Int) (w : World) (h : Bld w base B v (r ++ [t]) kvs own) (hr : r.length ≤ 100) (hk : t.e.kids.length ≤ 10000) :
    Calls Tryd.prog 69 #[.pointer (some ⟨B, 0, none⟩), .int .i64 kind, .int .i64 inn] w fun en w' => en = .returned (.bool (fitsF t.e kind inn)) ∧ ∃ m, w' = w.drewN m := by
  obtain ⟨sb, cap, rfl, hcap, hcm, hsb, hbs⟩ := h.form
  obtain ⟨kvr, kv, rfl, hkr⟩ := h.kid
  obtain ⟨hkid, hkown⟩ := h.stk.kid r.length t kv (by simp) (by rw [← hkr]; simp)
  obtain ⟨Ak, ck, rfl⟩ := hkid.form
  rw [List.length_map] at *
  have hrow := h.stk.row
  rw [List.length_append, List.length_singleton] at hrow
  have hat : ∀ j, j < 8 → w.cell? ⟨sb, r.length * 8 + j, none⟩ = (levCells t (.slice Ak t.e.kids.length ck))[j]? := fun j hj => by
    rw [hrow.cellAt _ (by omega)]
    exact stk_at r.length j hj (by simp) (by rw [← hkr]; simp)
  have b0 := h.blk.cell 0
  have k0 := hat 0 (by omega)
  have k6 : w.cell? ⟨sb, r.length * 8 + 6, none⟩ = some (.slice Ak t.e.kids.length ck) := hat 6 (by omega)
  have HKD := Lib.hid hkid
  clear hkid hkown hat h
  go_enter Tryd.func69, Tryd.ntmps69
  go_wp2_with fail
  refine (top_calls w b0 hcap (by omega)).mono ?_
  rintro en w2 ⟨rfl, m, rfl⟩
  have k0 : (w.drewN m).cell? ⟨sb, r.length * 8, none⟩ = some (.int .i64 t.e.kind) := k0
  have k6 : (w.drewN m).cell? ⟨sb, r.length * 8 + 6, none⟩ = some (.slice Ak t.e.kids.length ck) := k6
  by_cases h4 : t.e.kind = 4
  · have hb : (t.e.kind == 4) = true := by rw [h4]; rfl
    go_wp2_with fail
    all_goals (go_ret; refine ⟨?_, _, rfl⟩; simp only [fitsF, h4, if_true]; simp_all)
    all_goals (rw [Bool.eq_iff_iff]; simp; try omega)
  · have hb : (t.e.kind == 4) = false := by rw [beq_eq_false_iff_ne]; exact h4
    by_cases h7 : t.e.kind = 7
    · have hb7 : (t.e.kind == 7) = true := by rw [h7]; rfl
      have hF : Hid (fitsF t.e kind inn = decide ((kind = 8 ∨ kind = 9 ∧ 0 < t.e.kids.length) ∧ ∀ u, t.e.kids.getLast? = some u → u.kind ≠ 9)) := by unfold Hid fitsF; rw [if_neg h4, if_pos h7]
      clear h4 h7
      rcases List.eq_nil_or_concat t.e.kids with hz | ⟨ys, u, hz⟩
      · have hF2 : Hid (fitsF t.e kind inn = decide (kind = 8)) := by
          rw [Hid, hF.out, hz]; simp
        have hl0 : t.e.kids.length = 0 := by rw [hz]; rfl
        rw [hl0] at k6
        clear hF hz hl0
        go_wp2_with fail
        all_goals (go_ret; refine ⟨?_, _, rfl⟩; rw [hF2.out]; show Ending.returned (.bool _) = _; congr 2; rw [Bool.eq_iff_iff]; simp [*])
      · rw [List.concat_eq_append] at hz
        have hF2 : Hid (fitsF t.e kind inn = decide ((kind = 8 ∨ kind = 9) ∧ u.kind ≠ 9)) := by
          rw [Hid, hF.out, hz]; simp
        have hl0 : t.e.kids.length = ys.length + 1 := by rw [hz]; simp
        obtain ⟨g, rfl, hu, hcl⟩ := last_kid HKD.out hz
        rw [hl0] at k6
        have hu : (w.drewN m).cell? ⟨g, ys.length * 7, none⟩ = some (.int .i64 u.kind) := hu
        have hn1 : (0 : Int) ≤ (ys.length : Int) := by omega
        have hn2 : (ys.length : Int) < ((ys.length + 1 : Nat) : Int) := by omega
        have hn3 : ((ys.length : Int) + 1) - 1 = (ys.length : Int) := by omega
        have hn4 : (0 : Int) < (ys.length : Int) + 1 := by omega
        have hyl : ys.length ≤ 10000 := by omega
        have hn5 : ((ys.length : Int) + 1 == 0) = false := by rw [beq_eq_false_iff_ne]; omega
        clear hF hz hl0
        go_wp2_with fail
        all_goals (go_ret; refine ⟨?_, _, rfl⟩; rw [hF2.out]; show Ending.returned (.bool _) = _; congr 2; rw [Bool.eq_iff_iff]; simp [*])
    · have hb7 : (t.e.kind == 7) = false := by rw [beq_eq_false_iff_ne]; exact h7
      have hF : Hid (fitsF t.e kind inn = decide (inn = 0)) := by unfold Hid fitsF; rw [if_neg h4, if_neg h7]
      clear h4 h7
      go_wp2_with fail
      all_goals (go_ret; refine ⟨?_, _, rfl⟩; rw [hF.out]; rfl)
end Go.Proofs.YtijpfcjlochahaaDoor
