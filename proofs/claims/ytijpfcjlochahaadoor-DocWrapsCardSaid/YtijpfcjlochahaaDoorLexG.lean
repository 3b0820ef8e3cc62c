/- The walks of lex.Right, HasPrefix, End. -/
import Derived.Test.YtijpfcjlochahaaDoorLexD
import Derived.Test.YtijpfcjlochahaaDoorLexE
namespace Go.Proofs.YtijpfcjlochahaaDoor
open Go Go.RowKit

set_option maxRecDepth 20000 in
set_option maxHeartbeats 2000000 in
theorem hasPrefix0_calls (s p : ByteArray) (w : World) (_hs : s.size ≤ 10000000) (_hp : p.size ≤ 10000000) :
    Calls Tryd.prog 81 #[.string s, .string p] w fun e w' => e = .returned (.bool ((L p).isPrefixOf (L s))) ∧ w = w' := by
  by_cases h : p.size ≤ s.size
  · go_enter Tryd.func81, Tryd.ntmps81
    go_wp2_with fail
    go_ret
    refine ⟨ret_bool ?_, rfl⟩
    simp only [toList_L, L_extract, List.drop_zero]
    rw [Bool.eq_iff_iff, beq_iff_eq, List.isPrefixOf_iff_prefix, List.prefix_iff_eq_take, ← size_L]
    exact eq_comm
  · go_enter Tryd.func81, Tryd.ntmps81
    go_wp2_with fail
    go_ret
    refine ⟨ret_bool ?_, rfl⟩
    rw [eq_comm, ← Bool.not_eq_true, List.isPrefixOf_iff_prefix]
    intro hpre
    have := hpre.length_le
    rw [← size_L, ← size_L] at this
    omega
set_option maxRecDepth 20000 in
theorem hasPrefix_calls (s p : ByteArray) (w : World) (hs : s.size ≤ 10000000) (hp : p.size ≤ 10000000) :
    Calls Tryd.prog 58 #[.string s, .string p] w fun e w' => e = .returned (.bool ((L p).isPrefixOf (L s))) ∧ w = w' := by
  go_enter Tryd.func58, Tryd.ntmps58
  go_wp2_with (go_at_call 81; refine (hasPrefix0_calls s p _ hs hp).mono ?_; rintro e w' ⟨rfl, rfl⟩)
  go_ret
  exact ⟨rfl, rfl⟩

theorem markF_len (b : Bool) : ∀ l : List UInt8, (markF b l).1.length ≤ 7 ∧ (markF b l).2 ≤ l.length
  | [] => by simp [markF]
  | c :: l => by
    have ih := markF_len b l
    have key : ∀ m, (if c = 60 ∨ c = 45 then markAt b (c :: l) else none) = some m → m.length ≤ 7 := by
      intro m h
      split at h
      · unfold markAt at h
        split at h
        · injection h with h; subst h; decide
        · split at h
          · injection h with h; subst h; decide
          · split at h
            · injection h with h; subst h; unfold lastMark; split <;> decide
            · cases h
      · cases h
    rw [markF]
    split
    · rename_i m h
      exact ⟨key m h, by simp⟩
    · refine ⟨ih.1, ?_⟩
      simp; omega

set_option maxRecDepth 20000 in
set_option maxHeartbeats 2000000 in
theorem right_calls (s : ByteArray) (b : Bool) (w : World) (hs : s.size ≤ 10000000) :
    Calls Tryd.prog 38 #[.agg #[.string s, .bool b]] w fun e w' => e = .returned (.bool (rightF ⟨L s, b⟩)) ∧ Below w.heap.size w w' := by
  obtain ⟨hml, hmi⟩ := markF_len b (L s)
  rw [← size_L] at hmi
  have HRF : Hid (rightF ⟨L s, b⟩ = if L s = [] ∨ (markF b (L s)).2 ≠ 0 ∨ (L s).length < (markF b (L s)).1.length then decide ((markF b (L s)).2 = 0)
    else decide ((markF b (L s)).1 = openB ∨ (markF b (L s)).1 = closB) && decide ((cutF (L s) (markF b (L s)).1).2.1 = 0) && decide ((cutF (L s) (markF b (L s)).1).2.2 = 0)) := rfl
  go_enter Tryd.func38, Tryd.ntmps38
  go_wp2_with fail
  refine (mark_calls s b _ hs).mono ?_
  have hb0 := Blk.new w 34 #[.string s, .bool b]
  have hbl := (Below.refl w.heap.size w).alloc (Nat.le_refl _) (.cells #[.string s, .bool b] 34)
  have hsz := size_alloc w (.cells #[.string s, .bool b] 34)
  generalize w.alloc (.cells #[.string s, .bool b] 34) = w1 at *
  rintro e w2 ⟨rfl, hb2⟩
  have hb1 := hb0.below hb2 hb0.lt
  have hbl2 := hbl.trans (hb2.mono (by omega))
  have c0 := hb1.cell 0
  have hlt2 := hb1.lt
  clear hb0 hbl hb2 hsz
  generalize markF b (L s) = mi at *
  obtain ⟨m, i⟩ := mi
  have hml : m.length ≤ 7 := hml
  have hmi : i ≤ s.size := hmi
  have HRF2 := HRF
  clear HRF
  go_wp2_with fail
  · have h : s.toList = [] := by assumption
    go_ret
    refine ⟨ret_bool ?_, hbl2⟩
    rw [HRF2.out, if_pos (.inl (by rw [← toList_L]; exact h))]
    show ((i : Int) == 0) = decide (i = 0)
    rw [Bool.eq_iff_iff, beq_iff_eq, decide_eq_true_eq]
    omega
  · have h : ¬ s.toList = [] := by assumption
    have h2 : i = 0 := by assumption
    have h3 : s.toList.isEmpty = true ∨ s.size < (bs m).size := by assumption
    go_ret
    refine ⟨ret_bool ?_, hbl2⟩
    have h4 : s.size < (bs m).size := by
      rcases h3 with h3 | h3
      · exact absurd (by simpa using h3) h
      · exact h3
    rw [size_bs, size_L] at h4
    rw [HRF2.out, if_pos (.inr (.inr h4))]
    simp [h2]
  · have h : ¬ s.toList = [] := by assumption
    have h2 : i = 0 := by assumption
    have h3 : s.toList.isEmpty = false ∧ ¬ s.size < (bs m).size := by assumption
    have h4 := h3.2
    rw [size_bs, size_L] at h4
    have HRF3 : Hid (rightF ⟨L s, b⟩ = (decide (m = openB ∨ m = closB) && decide ((cutF (L s) m).2.1 = 0) && decide ((cutF (L s) m).2.2 = 0))) := by
      rw [Hid, HRF2.out, if_neg]
      rintro (e | e | e)
      · exact h (by rw [toList_L]; exact e)
      · exact e h2
      · exact h4 e
    clear h h2 h3 h4 HRF2
    refine (cut_calls s (bs m) _ hs (by rw [size_bs]; omega)).mono ?_
    rw [L_bs]
    generalize cutF (L s) m = r at *
    obtain ⟨t, n, bad⟩ := r
    rintro e w3 ⟨va, rfl, hgr, hb3⟩
    obtain ⟨A, ca, rfl, _⟩ := pairs_open hgr
    have HG := Lib.hid hgr
    have HB := Lib.hid (hbl2.trans (hb3.mono (by omega)))
    clear hgr hb3
    go_wp2_with fail
    all_goals
      go_ret
      refine ⟨ret_bool ?_, HB.out.alloc (by have := HB.out.size; omega) _⟩
      rw [HRF3.out]
      simp only [toList_bs] at *
      simp [openB, closB, *]
      try rfl
  · have h2 : ¬ i = 0 := by assumption
    go_ret
    refine ⟨ret_bool ?_, hbl2⟩
    rw [HRF2.out, if_pos (.inr (.inl h2))]
    simp [h2]

theorem tokTy : ElemTy Tryd.prog 23 30 3 48 := by
  obtain ⟨i0, hi, hz0, hz1, hz2⟩ := info_parts (show (Tryd.prog.info? 30).map (fun i => (i.zero, i.size, i.bytes)) = some (some (.agg #[.int .i64 0, .string (bs []), .slice none 0 0]), 3, 48) by kernel_rfl)
  exact ⟨i0, _, Tryd.underlying23, hi, hz0, hz1, hz2, rfl, by omega⟩

/-- What 'End' leaves: the tokens lie in new memory. -/
def EndPost (w : World) (r : List Token × Int) (e : Ending) (w' : World) : Prop :=
  ∃ v, e = .returned (.tuple #[v, .int .i64 r.2]) ∧ GR w' (fun g => w.heap.size ≤ g) (.row 3 (r.1.map Token.gv)) [v] ∧ Below w.heap.size w w'

set_option maxRecDepth 20000 in
set_option maxHeartbeats 2000000 in
theorem end_calls (s : ByteArray) (b : Bool) (w : World) (hs : s.size ≤ 10000000) :
    Calls Tryd.prog 35 #[.agg #[.string s, .bool b]] w (EndPost w (endF ⟨L s, b⟩)) := by
  have HEF : Hid (endF ⟨L s, b⟩ = if rightF ⟨L s, b⟩ then
    if openB.isPrefixOf (L s) || closB.isPrefixOf (L s) then ([], 40) else if L s = [] then ([], 0) else ([textTok (L s)], 0) else ([], 1)) := rfl
  have hb0 := Blk.new w 34 #[.string s, .bool b]
  have hbl := (Below.refl w.heap.size w).alloc (Nat.le_refl _) (.cells #[.string s, .bool b] 34)
  have hsz := size_alloc w (.cells #[.string s, .bool b] 34)
  have c0 := hb0.cell 0
  have c1 := hb0.cell 1
  go_enter Tryd.func35, Tryd.ntmps35
  go_wp2_with fail
  generalize w.alloc (.cells #[.string s, .bool b] 34) = w1 at *
  refine (right_calls s b _ hs).mono ?_
  rintro e w2 ⟨rfl, hb2⟩
  have hb1 := hb0.below hb2 hb0.lt
  have hbl2 := hbl.trans (hb2.mono (by omega))
  clear c0 c1
  have c0 := hb1.cell 0
  have hlt2 := hb1.lt
  clear hb0 hbl hb2 hsz
  cases hrt : rightF ⟨L s, b⟩ with
  | false =>
    have HEF2 : Hid (endF ⟨L s, b⟩ = ([], 1)) := HEF.out.trans (by rw [hrt]; rfl)
    clear HEF
    go_wp2_with fail
    go_ret2
    refine ⟨.slice none 0 0, by rw [HEF2.out]; rfl, ?_, hbl2⟩
    rw [HEF2.out]
    exact gr_nil
  | true =>
    have HEF2 : Hid (endF ⟨L s, b⟩ = if openB.isPrefixOf (L s) || closB.isPrefixOf (L s) then ([], 40) else if L s = [] then ([], 0) else ([textTok (L s)], 0)) := HEF.out.trans (by rw [hrt]; rfl)
    clear HEF hrt
    generalize h1 : openB.isPrefixOf (L s) = p1 at *
    generalize h2 : closB.isPrefixOf (L s) = p2 at *
    have H1 : Hid ((L (⟨#[60, 101, 115, 105, 58]⟩ : ByteArray)).isPrefixOf (L s) = p1) := h1
    have H2 : Hid ((L (⟨#[60, 47, 101, 115, 105, 58]⟩ : ByteArray)).isPrefixOf (L s) = p2) := h2
    clear h1 h2
    cases p1 with
    | true =>
      have HEF3 : Hid (endF ⟨L s, b⟩ = ([], 40)) := HEF2.out
      clear HEF2 H2
      go_wp2_with fail
      refine (hasPrefix_calls s _ _ hs (by decide)).mono ?_
      rintro e w3 ⟨rfl, rfl⟩
      rw [H1.out]
      go_wp2_with fail
      go_ret2
      refine ⟨.slice none 0 0, by rw [HEF3.out]; rfl, ?_, hbl2⟩
      rw [HEF3.out]
      exact gr_nil
    | false =>
      go_wp2_with fail
      refine (hasPrefix_calls s _ _ hs (by decide)).mono ?_
      rintro e w3 ⟨rfl, rfl⟩
      rw [H1.out]
      go_wp2_with fail
      refine (hasPrefix_calls s _ _ hs (by decide)).mono ?_
      rintro e w3 ⟨rfl, rfl⟩
      rw [H2.out]
      clear H1 H2
      cases p2 with
      | true =>
        have HEF3 : Hid (endF ⟨L s, b⟩ = ([], 40)) := HEF2.out
        clear HEF2
        go_wp2_with fail
        go_ret2
        refine ⟨.slice none 0 0, by rw [HEF3.out]; rfl, ?_, hbl2⟩
        rw [HEF3.out]
        exact gr_nil
      | false =>
        have HEF3 : Hid (endF ⟨L s, b⟩ = if L s = [] then ([], 0) else ([textTok (L s)], 0)) := HEF2.out
        clear HEF2
        go_wp2_with fail
        · have h : s.toList.isEmpty = true := by assumption
          have h : L s = [] := by simpa [toList_L] using h
          go_ret2
          refine ⟨.slice none 0 0, by rw [HEF3.out, if_pos h]; rfl, ?_, hbl2⟩
          rw [HEF3.out, if_pos h]
          exact gr_nil
        · have h : s.toList.isEmpty = false := by assumption
          have h : ¬ L s = [] := by simpa [toList_L] using h
          go_ret2
          refine ⟨.slice (some ⟨w2.heap.size, 0, none⟩) 1 1, by rw [HEF3.out, if_neg h]; rfl, ?_, hbl2.alloc (by omega) _⟩
          rw [HEF3.out, if_neg h]
          refine gr_one_new (cs := [.int .i64 0, .string s, .slice none 0 0]) (Blk.new w2 30 #[.int .i64 0, .string s, .slice none 0 0]) (show w.heap.size ≤ w2.heap.size by omega) ?_ rfl
          have := cells_tok (w := w2.alloc (.cells #[.int .i64 0, .string s, .slice none 0 0] 30)) (F := fun g => w.heap.size ≤ g) (k := 0) (t := L s) (l := []) (va := .slice none 0 0) gr_nil
          rw [bs_L] at this
          exact this
end Go.Proofs.YtijpfcjlochahaaDoor
