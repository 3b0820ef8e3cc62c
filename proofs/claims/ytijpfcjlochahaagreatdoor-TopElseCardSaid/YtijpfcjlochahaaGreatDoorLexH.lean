/- The walks of lex.Right, HasPrefix, End. The walk of lex.Join. -/
import Derived.Test.YtijpfcjlochahaaGreatDoorLexD
import Derived.Test.YtijpfcjlochahaaGreatDoorLexE
set_option linter.unusedVariables false
set_option linter.unusedSimpArgs false
namespace Go.Proofs.YtijpfcjlochahaaGreatDoor
open Go Go.RowKit
set_option linter.unusedVariables false
set_option linter.unusedSimpArgs false

set_option maxRecDepth 20000 in
set_option maxHeartbeats 2000000 in
theorem hasPrefix0_calls (s p : ByteArray) (w : World) (_hs : s.size ≤ 10000000) (_hp : p.size ≤ 10000000) :
    Calls Tryz.prog 65 #[.string s, .string p] w fun e w' => e = .returned (.bool ((L p).isPrefixOf (L s))) ∧ w = w' := by
  by_cases h : p.size ≤ s.size
  · go_enter Tryz.func65, Tryz.ntmps65
    go_wp2_with fail
    go_ret
    refine ⟨ret_bool ?_, rfl⟩
    simp only [toList_L, L_extract, List.drop_zero]
    rw [Bool.eq_iff_iff, beq_iff_eq, List.isPrefixOf_iff_prefix, List.prefix_iff_eq_take, ← size_L]
    exact eq_comm
  · go_enter Tryz.func65, Tryz.ntmps65
    go_wp2_with fail
    go_ret
    refine ⟨ret_bool ?_, rfl⟩
    rw [eq_comm, ← Bool.not_eq_true, List.isPrefixOf_iff_prefix]
    intro hpre
    have := hpre.length_le
    rw [← size_L, ← size_L] at this
    omega
set_option maxRecDepth 20000 in
theorem hasPrefix_calls (s p : ByteArray) (w : World) (hs : s.size ≤ 10000000) (hp : p.size ≤ 10000000) :
    Calls Tryz.prog 41 #[.string s, .string p] w fun e w' => e = .returned (.bool ((L p).isPrefixOf (L s))) ∧ w = w' := by
  go_enter Tryz.func41, Tryz.ntmps41
  go_wp2_with (go_at_call 65; refine (hasPrefix0_calls s p _ hs hp).mono ?_; rintro e w' ⟨rfl, rfl⟩)
  go_ret
  exact ⟨rfl, rfl⟩

theorem markF_len (b : Bool) : ∀ l : List UInt8, (markF b l).1.length ≤ 7 ∧ (markF b l).2 ≤ l.length
  | [] => by simp [markF]
  | c :: l => by
    have ih := markF_len b l
    have key : ∀ m, (if c = 60 ∨ c = 45 then markAt b (c :: l) else none) = some m → m.length ≤ 7 := by
      intro m h
      split at h
      · unfold markAt at h
        split at h
        · injection h with h; subst h; decide
        · split at h
          · injection h with h; subst h; decide
          · split at h
            · injection h with h; subst h; unfold lastMark; split <;> decide
            · cases h
      · cases h
    rw [markF]
    split
    · rename_i m h
      exact ⟨key m h, by simp⟩
    · refine ⟨ih.1, ?_⟩
      simp; omega

set_option maxRecDepth 20000 in
set_option maxHeartbeats 2000000 in
theorem right_calls (s : ByteArray) (b : Bool) (w : World) (hs : s.size ≤ 10000000) :
    Calls Tryz.prog 38 #[.agg #[.string s, .bool b]] w fun e w' => e = .returned (.bool (rightF ⟨L s, b⟩)) ∧ Below w.heap.size w w' := by
  obtain ⟨hml, hmi⟩ := markF_len b (L s)
  rw [← size_L] at hmi
  have HRF : Hid (rightF ⟨L s, b⟩ = if L s = [] ∨ (markF b (L s)).2 ≠ 0 ∨ (L s).length < (markF b (L s)).1.length then decide ((markF b (L s)).2 = 0)
    else decide ((markF b (L s)).1 = openB ∨ (markF b (L s)).1 = closB) && decide ((cutF (L s) (markF b (L s)).1).2.1 = 0) && decide ((cutF (L s) (markF b (L s)).1).2.2 = 0)) := rfl
  go_enter Tryz.func38, Tryz.ntmps38
  go_wp2_with fail
  refine (mark_calls s b _ hs).mono ?_
  have hb0 := Blk.new w 48 #[.string s, .bool b]
  have hbl := (Below.refl w.heap.size w).alloc (Nat.le_refl _) (.cells #[.string s, .bool b] 48)
  have hsz := size_alloc w (.cells #[.string s, .bool b] 48)
  generalize w.alloc (.cells #[.string s, .bool b] 48) = w1 at *
  rintro e w2 ⟨rfl, hb2⟩
  have hb1 := hb0.below hb2 hb0.lt
  have hbl2 := hbl.trans (hb2.mono (by omega))
  have c0 := hb1.cell 0
  have hlt2 := hb1.lt
  clear hb0 hbl hb2 hsz
  generalize markF b (L s) = mi at *
  obtain ⟨m, i⟩ := mi
  have hml : m.length ≤ 7 := hml
  have hmi : i ≤ s.size := hmi
  have HRF2 := HRF
  clear HRF
  go_wp2_with fail
  · have h : s.toList = [] := by assumption
    go_ret
    refine ⟨ret_bool ?_, hbl2⟩
    rw [HRF2.out, if_pos (.inl (by rw [← toList_L]; exact h))]
    show ((i : Int) == 0) = decide (i = 0)
    rw [Bool.eq_iff_iff, beq_iff_eq, decide_eq_true_eq]
    omega
  · have h : ¬ s.toList = [] := by assumption
    have h2 : i = 0 := by assumption
    have h3 : s.toList.isEmpty = true ∨ s.size < (bs m).size := by assumption
    go_ret
    refine ⟨ret_bool ?_, hbl2⟩
    have h4 : s.size < (bs m).size := by
      rcases h3 with h3 | h3
      · exact absurd (by simpa using h3) h
      · exact h3
    rw [size_bs, size_L] at h4
    rw [HRF2.out, if_pos (.inr (.inr h4))]
    simp [h2]
  · have h : ¬ s.toList = [] := by assumption
    have h2 : i = 0 := by assumption
    have h3 : s.toList.isEmpty = false ∧ ¬ s.size < (bs m).size := by assumption
    have h4 := h3.2
    rw [size_bs, size_L] at h4
    have HRF3 : Hid (rightF ⟨L s, b⟩ = (decide (m = openB ∨ m = closB) && decide ((cutF (L s) m).2.1 = 0) && decide ((cutF (L s) m).2.2 = 0))) := by
      rw [Hid, HRF2.out, if_neg]
      rintro (e | e | e)
      · exact h (by rw [toList_L]; exact e)
      · exact e h2
      · exact h4 e
    clear h h2 h3 h4 HRF2
    refine (cut_calls s (bs m) _ hs (by rw [size_bs]; omega)).mono ?_
    rw [L_bs]
    generalize cutF (L s) m = r at *
    obtain ⟨t, n, bad⟩ := r
    rintro e w3 ⟨va, rfl, hgr, hb3⟩
    obtain ⟨A, ca, rfl, _⟩ := pairs_open hgr
    have HG := Lib.hid hgr
    have HB := Lib.hid (hbl2.trans (hb3.mono (by omega)))
    clear hgr hb3
    go_wp2_with fail
    all_goals
      go_ret
      refine ⟨ret_bool ?_, HB.out.alloc (by have := HB.out.size; omega) _⟩
      rw [HRF3.out]
      simp only [toList_bs] at *
      simp [openB, closB, *]
      try rfl
  · have h2 : ¬ i = 0 := by assumption
    go_ret
    refine ⟨ret_bool ?_, hbl2⟩
    rw [HRF2.out, if_pos (.inr (.inl h2))]
    simp [h2]

theorem tokTy : ElemTy Tryz.prog 49 80 3 48 := by
  obtain ⟨i0, hi, hz0, hz1, hz2⟩ := info_parts (show (Tryz.prog.info? 80).map (fun i => (i.zero, i.size, i.bytes)) = some (some (.agg #[.int .i64 0, .string (bs []), .slice none 0 0]), 3, 48) by kernel_rfl)
  exact ⟨i0, _, Tryz.underlying49, hi, hz0, hz1, hz2, rfl, by omega⟩

/-- What 'End' leaves: the tokens lie in new memory. -/
def EndPost (w : World) (r : List Token × Int) (e : Ending) (w' : World) : Prop :=
  ∃ v, e = .returned (.tuple #[v, .int .i64 r.2]) ∧ GR w' (fun g => w.heap.size ≤ g) (.row 3 (r.1.map Token.gv)) [v] ∧ Below w.heap.size w w'

set_option maxRecDepth 20000 in
set_option maxHeartbeats 2000000 in
theorem end_calls (s : ByteArray) (b : Bool) (w : World) (hs : s.size ≤ 10000000) :
    Calls Tryz.prog 19 #[.agg #[.string s, .bool b]] w (EndPost w (endF ⟨L s, b⟩)) := by
  have HEF : Hid (endF ⟨L s, b⟩ = if rightF ⟨L s, b⟩ then
    if openB.isPrefixOf (L s) || closB.isPrefixOf (L s) then ([], 40) else if L s = [] then ([], 0) else ([textTok (L s)], 0) else ([], 1)) := rfl
  have hb0 := Blk.new w 48 #[.string s, .bool b]
  have hbl := (Below.refl w.heap.size w).alloc (Nat.le_refl _) (.cells #[.string s, .bool b] 48)
  have hsz := size_alloc w (.cells #[.string s, .bool b] 48)
  have c0 := hb0.cell 0
  have c1 := hb0.cell 1
  go_enter Tryz.func19, Tryz.ntmps19
  go_wp2_with fail
  generalize w.alloc (.cells #[.string s, .bool b] 48) = w1 at *
  refine (right_calls s b _ hs).mono ?_
  rintro e w2 ⟨rfl, hb2⟩
  have hb1 := hb0.below hb2 hb0.lt
  have hbl2 := hbl.trans (hb2.mono (by omega))
  clear c0 c1
  have c0 := hb1.cell 0
  have hlt2 := hb1.lt
  clear hb0 hbl hb2 hsz
  cases hrt : rightF ⟨L s, b⟩ with
  | false =>
    have HEF2 : Hid (endF ⟨L s, b⟩ = ([], 1)) := HEF.out.trans (by rw [hrt]; rfl)
    clear HEF
    go_wp2_with fail
    go_ret2
    refine ⟨.slice none 0 0, by rw [HEF2.out]; rfl, ?_, hbl2⟩
    rw [HEF2.out]
    exact gr_nil
  | true =>
    have HEF2 : Hid (endF ⟨L s, b⟩ = if openB.isPrefixOf (L s) || closB.isPrefixOf (L s) then ([], 40) else if L s = [] then ([], 0) else ([textTok (L s)], 0)) := HEF.out.trans (by rw [hrt]; rfl)
    clear HEF hrt
    generalize h1 : openB.isPrefixOf (L s) = p1 at *
    generalize h2 : closB.isPrefixOf (L s) = p2 at *
    have H1 : Hid ((L (⟨#[60, 101, 115, 105, 58]⟩ : ByteArray)).isPrefixOf (L s) = p1) := h1
    have H2 : Hid ((L (⟨#[60, 47, 101, 115, 105, 58]⟩ : ByteArray)).isPrefixOf (L s) = p2) := h2
    clear h1 h2
    cases p1 with
    | true =>
      have HEF3 : Hid (endF ⟨L s, b⟩ = ([], 40)) := HEF2.out
      clear HEF2 H2
      go_wp2_with fail
      refine (hasPrefix_calls s _ _ hs (by decide)).mono ?_
      rintro e w3 ⟨rfl, rfl⟩
      rw [H1.out]
      go_wp2_with fail
      go_ret2
      refine ⟨.slice none 0 0, by rw [HEF3.out]; rfl, ?_, hbl2⟩
      rw [HEF3.out]
      exact gr_nil
    | false =>
      go_wp2_with fail
      refine (hasPrefix_calls s _ _ hs (by decide)).mono ?_
      rintro e w3 ⟨rfl, rfl⟩
      rw [H1.out]
      go_wp2_with fail
      refine (hasPrefix_calls s _ _ hs (by decide)).mono ?_
      rintro e w3 ⟨rfl, rfl⟩
      rw [H2.out]
      clear H1 H2
      cases p2 with
      | true =>
        have HEF3 : Hid (endF ⟨L s, b⟩ = ([], 40)) := HEF2.out
        clear HEF2
        go_wp2_with fail
        go_ret2
        refine ⟨.slice none 0 0, by rw [HEF3.out]; rfl, ?_, hbl2⟩
        rw [HEF3.out]
        exact gr_nil
      | false =>
        have HEF3 : Hid (endF ⟨L s, b⟩ = if L s = [] then ([], 0) else ([textTok (L s)], 0)) := HEF2.out
        clear HEF2
        go_wp2_with fail
        · have h : s.toList.isEmpty = true := by assumption
          have h : L s = [] := by simpa [toList_L] using h
          go_ret2
          refine ⟨.slice none 0 0, by rw [HEF3.out, if_pos h]; rfl, ?_, hbl2⟩
          rw [HEF3.out, if_pos h]
          exact gr_nil
        · have h : s.toList.isEmpty = false := by assumption
          have h : ¬ L s = [] := by simpa [toList_L] using h
          go_ret2
          refine ⟨.slice (some ⟨w2.heap.size, 0, none⟩) 1 1, by rw [HEF3.out, if_neg h]; rfl, ?_, hbl2.alloc (by omega) _⟩
          rw [HEF3.out, if_neg h]
          refine gr_one_new (cs := [.int .i64 0, .string s, .slice none 0 0]) (Blk.new w2 80 #[.int .i64 0, .string s, .slice none 0 0]) (show w.heap.size ≤ w2.heap.size by omega) ?_ rfl
          have := cells_tok (w := w2.alloc (.cells #[.int .i64 0, .string s, .slice none 0 0] 80)) (F := fun g => w.heap.size ≤ g) (k := 0) (t := L s) (l := []) (va := .slice none 0 0) gr_nil
          rw [bs_L] at this
          exact this
end Go.Proofs.YtijpfcjlochahaaGreatDoor
namespace Go.Proofs.YtijpfcjlochahaaGreatDoor
set_option linter.unusedVariables false
set_option linter.unusedSimpArgs false
open Go Go.RowKit

theorem OwnR.last {w : World} {base : Nat} {e : TypeId} {G : Nat → Prop} {v : Value} {init : List Token} {u : Token} (h : OwnR w base e 3 G v ((init ++ [u]).map Token.gv)) :
    ∃ g cap, v = .slice (some ⟨g, 0, none⟩) (init.length + 1) cap ∧ base ≤ g ∧ g < w.heap.size ∧ w.cell? ⟨g, init.length * 3, none⟩ = some (.int .i64 u.kind) ∧ w.cell? ⟨g, init.length * 3 + 1, none⟩ = some (.string (bs u.text)) ∧
      w.frozen? ⟨g, init.length * 3 + 1, none⟩ = false ∧
      ∀ x, OwnR (w.setCell ⟨g, init.length * 3 + 1, none⟩ (.string (bs x))) base e 3 G v ((init ++ [{ u with text := x }]).map Token.gv) ∧ w.grownBy (w.setCell ⟨g, init.length * 3 + 1, none⟩ (.string (bs x))) (some g) := by
  obtain ⟨xs, ho, hr⟩ := h
  have hlen : ((init ++ [u]).map Token.gv).length = init.length + 1 := by simp
  rw [hlen] at ho
  rw [List.map_append] at hr
  obtain ⟨a, b, rfl, h1, h2⟩ := GRl.split hr
  have hla := h1.length
  rw [List.length_map] at hla
  obtain ⟨c, d, rfl, _, h3, h4⟩ := GRl_cons.1 h2
  have h4 : d = [] := GRl_nil.1 h4
  subst h4
  obtain ⟨va, rfl, hva⟩ := tok_cells h3
  obtain ⟨hl, h0⟩ := id ho
  rcases h0 with ⟨_, h0⟩ | ⟨g, cap, cur, rfl, hg, hh, hn, hm, hc, ht⟩
  · omega
  have hx0 : (a ++ [Value.int .i64 u.kind, .string (bs u.text), va])[init.length * 3]? = some (.int .i64 u.kind) := by rw [List.getElem?_append_right (by omega), hla, Nat.sub_self]; rfl
  have hx1 : (a ++ [Value.int .i64 u.kind, .string (bs u.text), va])[init.length * 3 + 1]? = some (.string (bs u.text)) := by
    rw [List.getElem?_append_right (by omega), hla, show init.length * 3 + 1 - init.length * 3 = 1 by omega]; rfl
  simp only [List.append_nil] at ho
  refine ⟨g, cap, rfl, hg, (Array.getElem?_eq_some_iff.1 hh).1, ?_, ?_, ho.frozenAt _, fun x => ?_⟩
  · rw [ho.cellAt _ (by omega)]; exact hx0
  · rw [ho.cellAt _ (by omega)]; exact hx1
  · obtain ⟨h5, h6⟩ := ho.stored (init.length * 3 + 1) (.string (bs x))
    refine ⟨⟨a ++ [.int .i64 u.kind, .string (bs x), va], ?_, ?_⟩, h6⟩
    · have hlen2 : ((init ++ [{ u with text := x }]).map Token.gv).length = init.length + 1 := by simp
      rw [hlen2]
      have e : (a ++ [Value.int .i64 u.kind, .string (bs u.text), va]).set (init.length * 3 + 1) (.string (bs x)) = a ++ [.int .i64 u.kind, .string (bs x), va] := by
        rw [List.set_append, if_neg (by omega), hla, show init.length * 3 + 1 - init.length * 3 = 1 by omega]
        rfl
      exact e ▸ h5
    · have hmono : ∀ {l : List GV} {ys : List Value}, GRl w (fun k => G k ∧ some k ≠ (Value.slice (some ⟨g, 0, none⟩) (init.length + 1) cap).ownBlock) 3 l ys →
          GRl (w.setCell ⟨g, init.length * 3 + 1, none⟩ (.string (bs x))) (fun k => G k ∧ some k ≠ (Value.slice (some ⟨g, 0, none⟩) (init.length + 1) cap).ownBlock) 3 l ys :=
        fun hh => GRl.mono (fun _ h => h) (fun k hk hlt => h6.block k hlt hk.2) _ _ _ hh
      rw [List.map_append]
      refine GRl.append ?_ (hmono h1)
      refine GRl_one ?_ rfl
      have hva2 := GR.mono (w' := w.setCell ⟨g, init.length * 3 + 1, none⟩ (.string (bs x))) (fun _ h => h) (fun k hk hlt => h6.block k hlt hk.2) _ _ hva
      exact cells_tok hva2

theorem joinStep_len (o : List Token) (t : Token) : (joinStep o t).length ≤ o.length + 1 := by
  unfold joinStep
  split
  · simp
  · split
    · omega
    · split
      · split
        · rw [List.length_append, List.length_dropLast]; simp only [List.length_cons, List.length_nil]; omega
        · simp
      · simp
theorem foldl_joinStep_len : ∀ (l : List Token) (o : List Token), (l.foldl joinStep o).length ≤ o.length + l.length
  | [], o => by simp
  | t :: l, o => by
    have h1 := foldl_joinStep_len l (joinStep o t)
    have h2 := joinStep_len o t
    simp only [List.foldl_cons, List.length_cons]
    omega
theorem joinF_len (l : List Token) : (joinF l).length ≤ l.length := by
  have := foldl_joinStep_len l []
  simpa [joinF] using this
def textSum (l : List Token) : Nat := (l.map fun t => t.text.length).sum

theorem textSum_append (a b : List Token) : textSum (a ++ b) = textSum a + textSum b := by simp [textSum]
theorem joinStep_sum (o : List Token) (t : Token) : textSum (joinStep o t) ≤ textSum o + t.text.length := by
  unfold joinStep
  split
  · rw [textSum_append]; simp [textSum]
  · split
    · omega
    · split
      · rename_i u hu
        obtain ⟨init, rfl⟩ : ∃ init, o = init ++ [u] := by
          rcases List.eq_nil_or_concat o with rfl | ⟨i, x, rfl⟩
          · simp at hu
          · rw [List.concat_eq_append] at hu ⊢; simp at hu; subst hu; exact ⟨i, rfl⟩
        split
        · rw [List.dropLast_concat, textSum_append, textSum_append]; simp [textSum]; omega
        · rw [textSum_append]; simp [textSum]
      · rw [textSum_append]; simp [textSum]
theorem foldl_joinStep_sum : ∀ (l : List Token) (o : List Token), textSum (l.foldl joinStep o) ≤ textSum o + textSum l
  | [], o => by simp [textSum]
  | t :: l, o => by
    have h1 := foldl_joinStep_sum l (joinStep o t)
    have h2 := joinStep_sum o t
    have h3 : textSum (t :: l) = t.text.length + textSum l := by simp [textSum]
    rw [h3, List.foldl_cons]
    omega
theorem joinF_sum (l : List Token) : textSum (joinF l) ≤ textSum l := by
  have := foldl_joinStep_sum l []
  simpa [joinF, textSum] using this
theorem textSum_take (l : List Token) (k : Nat) (h : k < l.length) : textSum (l.take k) + l[k].text.length ≤ textSum l := by
  have h1 : l = l.take (k + 1) ++ l.drop (k + 1) := (List.take_append_drop _ _).symm
  have h2 := congrArg textSum h1
  rw [textSum_append, List.take_succ_eq_append_getElem h, textSum_append] at h2
  have h3 : textSum [l[k]] = l[k].text.length := by simp [textSum]
  omega

set_option maxRecDepth 20000 in
set_option maxHeartbeats 2000000 in
theorem join_calls (l : List Token) (v : Value) (F : Nat → Prop) (w : World) (hv : GR w F (.row 3 (l.map Token.gv)) [v]) (hl : l.length ≤ 10000000) (hs : textSum l ≤ 100000000) :
    Calls Tryz.prog 61 #[v] w fun e w' => ∃ v', e = .returned v' ∧ OwnR w' w.heap.size 80 3 (fun g => F g ∧ g < w.heap.size) v' ((joinF l).map Token.gv) ∧ Below w.heap.size w w' := by
  obtain ⟨A, c, rfl, hlc, hcm, hop⟩ := toks_open (GR.lt_heap _ _ hv)
  have HOP := Lib.hid hop
  clear hop hv hcm
  go_enter Tryz.func61, Tryz.ntmps61
  go_wp2_with fail
  go_loopw [3, 5, 6, 9] (fun v _ _ i wr => ∃ (k : Nat) (o : List Token), k ≤ l.length ∧ i = .int .i64 k ∧ Below w.heap.size w wr ∧ OwnR wr w.heap.size 80 3 (fun g => F g ∧ g < w.heap.size) v (o.map Token.gv) ∧
      Hid (o = joinF (l.take k)))
     (fun _ _ _ i wr => l.length - (intOf i).toNat)
  case atStart => exact ⟨0, [], Nat.zero_le _, rfl, Below.refl _ _, OwnR.nil _ _ _ _ _, rfl⟩
  case round =>
    obtain ⟨k, o, hk, rfl, hb, ho, HO⟩ := hrel
    by_cases hlt : k < l.length
    · obtain ⟨b, off, rfl, ⟨_, hbw⟩, hop⟩ := HOP.out (by rintro rfl; simp at hlt)
      obtain ⟨va, c0, c1, c2, hva⟩ := hop k hlt
      have e0 := (hb.cell (p := ⟨b, off + k * 3, none⟩) hbw).trans c0
      have e1 := (hb.cell (p := ⟨b, off + k * 3 + 1, none⟩) hbw).trans c1
      have e2 := (hb.cell (p := ⟨b, off + k * 3 + 2, none⟩) hbw).trans c2
      have HVA := Lib.hid hva
      clear c0 c1 c2 hop hva hbw
      obtain ⟨Av, cv, rfl, -, -, -⟩ := pairs_open HVA.out
      have HST : Hid (joinF (l.take (k + 1)) = joinStep (joinF (l.take k)) l[k]) := by
        rw [Hid, joinF, List.take_succ_eq_append_getElem hlt, List.foldl_append]; rfl
      have htl : (joinF (l.take k)).length ≤ k ∧ textSum (joinF (l.take k)) + l[k].text.length ≤ 100000000 := by
        refine ⟨Nat.le_trans (joinF_len _) (by simp; omega), ?_⟩
        have h1 := joinF_sum (l.take k)
        have h2 := textSum_take l k hlt
        omega
      rw [← HO.out] at htl
      obtain ⟨hol, hos⟩ := htl
      generalize htk : l[k] = t at *
      have HTK := Lib.hid htk
      clear htk
      obtain ⟨Ao, co, hvo⟩ := ho.form
      subst hvo
      rw [List.length_map] at ho ⊢
      obtain ⟨N, hN⟩ : ∃ N, N = o.length := ⟨_, rfl⟩
      rw [← hN] at ho hol ⊢
      have HOW : Hid (OwnR ((wr.alloc (.cells #[.int .i64 t.kind, .string (bs t.text), .slice Av t.attrs.length cv] 80)).alloc (.cells #[.int .i64 t.kind, .string (bs t.text), .slice Av t.attrs.length cv] 80)) w.heap.size 80 3 (fun g => F g ∧ g < w.heap.size) (.slice Ao N co) (o.map Token.gv)) :=
        ho.below (((Below.refl _ _).alloc (Nat.le_refl _) _).alloc (by simp) _)
      have hszr := hb.size
      have HC : Hid (Cells ((wr.alloc (.cells #[.int .i64 t.kind, .string (bs t.text), .slice Av t.attrs.length cv] 80)).alloc (.cells #[.int .i64 t.kind, .string (bs t.text), .slice Av t.attrs.length cv] 80)) (fun _ => True) (some ⟨wr.heap.size + 1, 0, none⟩) [.int .i64 t.kind, .string (bs t.text), .slice Av t.attrs.length cv]) := by
        have := cells_new (Blk.new (wr.alloc (.cells #[.int .i64 t.kind, .string (bs t.text), .slice Av t.attrs.length cv] 80)) 80 [.int .i64 t.kind, .string (bs t.text), .slice Av t.attrs.length cv].toArray)
        rw [size_alloc] at this
        exact this
      have HG : Hid (GRl ((wr.alloc (.cells #[.int .i64 t.kind, .string (bs t.text), .slice Av t.attrs.length cv] 80)).alloc (.cells #[.int .i64 t.kind, .string (bs t.text), .slice Av t.attrs.length cv] 80)) (fun k => (F k ∧ k < w.heap.size) ∧ some k ≠ (Value.slice Ao N co).ownBlock) 3 [t.gv] [.int .i64 t.kind, .string (bs t.text), .slice Av t.attrs.length cv]) := by
        refine GRl_one (cells_tok ?_) rfl
        have hbb : Below w.heap.size w ((wr.alloc (.cells #[.int .i64 t.kind, .string (bs t.text), .slice Av t.attrs.length cv] 80)).alloc (.cells #[.int .i64 t.kind, .string (bs t.text), .slice Av t.attrs.length cv] 80)) :=
          (hb.alloc hszr _).alloc (by rw [size_alloc]; omega) _
        refine GR.mono (fun x hx => ⟨hx, fun e => ?_⟩) (fun x hx hlt => hbb.block x hlt) _ _ HVA.out
        have := (ho.lt x e.symm).1
        have := hx.2
        omega
      have HL : Hid ((o.map Token.gv).length + [t.gv].length ≤ maxLen ∧ ((o.map Token.gv).length + [t.gv].length) * 48 ≤ 140737488355328 ∧
          w.heap.size ≤ ((wr.alloc (.cells #[.int .i64 t.kind, .string (bs t.text), .slice Av t.attrs.length cv] 80)).alloc (.cells #[.int .i64 t.kind, .string (bs t.text), .slice Av t.attrs.length cv] 80)).heap.size ∧ N + 1 = (o.map Token.gv ++ [t.gv]).length) := by
        refine ⟨?_, ?_, ?_, ?_⟩
        · simp [maxLen]; omega
        · simp; omega
        · rw [size_alloc, size_alloc]; omega
        · simp; omega
      have HEND : Hid (∀ A' c' w', OwnR w' w.heap.size 80 3 (fun g => F g ∧ g < w.heap.size) (.slice A' (N + 1) c') (o.map Token.gv ++ [t.gv]) →
          ((wr.alloc (.cells #[.int .i64 t.kind, .string (bs t.text), .slice Av t.attrs.length cv] 80)).alloc (.cells #[.int .i64 t.kind, .string (bs t.text), .slice Av t.attrs.length cv] 80)).grownBy w' (Value.slice Ao N co).ownBlock →
          OwnR w' w.heap.size 80 3 (fun g => F g ∧ g < w.heap.size) (.slice A' (N + 1) c') ((o ++ [t]).map Token.gv) ∧ Below w.heap.size w w') := by
        intro A' c' w' h1 h2
        refine ⟨by rw [List.map_append]; exact h1, ?_⟩
        exact ((hb.alloc hszr _).alloc (by rw [size_alloc]; omega) _).trans (below_of_grown h2 (by rw [size_alloc, size_alloc]; omega) (fun x hx => (ho.lt x hx).1))
      have HN := Lib.hid hN
      clear hN
      by_cases hk0 : t.kind = 0
      · have HK := Lib.hid hk0
        have hb1 : (t.kind != 0) = false := by rw [hk0]; rfl
        have hb1' : (t.kind == 0) = true := by rw [hk0]; rfl
        clear hk0
        by_cases ht0 : t.text = []
        · have HT := Lib.hid ht0
          have hb2 : (bs t.text).toList.isEmpty = true := by rw [ht0, toList_bs]; rfl
          have hb3 : (bs t.text).toList = [] := by rw [ht0, toList_bs]
          clear ht0
          go_wp2_with fail
          refine ⟨⟨k + 1, o, by omega, by go_num, hb.alloc hszr _, ho.below ((Below.refl _ _).alloc (Nat.le_refl _) _), ?_⟩, by simp [intOf]; omega⟩
          rw [Hid, HST.out, ← HO.out, joinStep, if_neg (by rw [HK.out]; simp), if_pos HT.out]
        · have HT := Lib.hid ht0
          have hb2 : (bs t.text).toList.isEmpty = false := by rw [toList_bs]; cases h : t.text with | nil => exact absurd h ht0 | cons _ _ => rfl
          have hb3 : ¬ (bs t.text).toList = [] := by rw [toList_bs]; exact ht0
          clear ht0
          rcases List.eq_nil_or_concat o with ho0 | ⟨init, u, ho0⟩
          · subst ho0
            obtain rfl : N = 0 := HN.out
            go_wp2_with (at_builtin; go_loud (refine wpList_append_S rfl _ _ _ rfl tokTy rfl HOW.out rfl rfl HC.out HG.out HL.out.1 HL.out.2.1 HL.out.2.2.1 HL.out.2.2.2 ?_); intro A13 c13 w13 hown hgr hor; have HW := Lib.hid hown; have HGR := Lib.hid hgr; clear hown hgr hor)
            obtain ⟨f1, f2⟩ := HEND.out _ _ _ HW.out HGR.out
            refine ⟨⟨k + 1, [t], by omega, by go_num, f2, f1, ?_⟩, by simp [intOf]; omega⟩
            rw [Hid, HST.out, ← HO.out, joinStep, if_neg (by rw [HK.out]; simp), if_neg HT.out]
            rfl
          · rw [List.concat_eq_append] at ho0
            subst ho0
            obtain rfl : N = init.length + 1 := by rw [HN.out]; simp
            obtain ⟨g, cap, hve, hg1, hg2, q0, q1, q2, hset⟩ := ho.last
            simp only [Value.slice.injEq] at hve
            obtain ⟨rfl, -, rfl⟩ := hve
            have HSET := Lib.hid hset
            clear hset
            by_cases huk : u.kind = 0
            · have HU := Lib.hid huk
              have hb4 : (u.kind == 0) = true := by rw [huk]; rfl
              clear huk
              have hadd : u.text.length + t.text.length ≤ 100000000 := by
                rw [textSum_append] at hos
                have : textSum [u] = u.text.length := by simp [textSum]
                omega
              have z1 : (bs u.text).size = u.text.length := size_bs _
              have z2 : (bs t.text).size = t.text.length := size_bs _
              go_wp2_with fail
              go_region
              go_wp2_with fail
              obtain ⟨f1, f2⟩ := HSET.out (u.text ++ t.text)
              rw [← bs_append] at f1 f2
              have f3 : Below w.heap.size w (wr.setCell ⟨g, init.length * 3 + 1, none⟩ (.string (bs u.text ++ bs t.text))) := hb.trans (below_of_grown f2 hszr (fun x hx => by injection hx with hx; omega))
              have f4 := f3.size
              refine ⟨⟨k + 1, init ++ [{ u with text := u.text ++ t.text }], by omega, by go_num, (f3.alloc f4 _).drew, f1.below (((Below.refl _ _).alloc (Nat.le_refl _) _).drew), ?_⟩, by simp [intOf]; omega⟩
              rw [Hid, HST.out, ← HO.out, joinStep, if_neg (by rw [HK.out]; simp), if_neg HT.out, List.getLast?_concat]
              simp only [if_pos HU.out, List.dropLast_concat]
            · have HU := Lib.hid huk
              have hb4 : (u.kind == 0) = false := by rw [beq_eq_false_iff_ne]; exact huk
              clear huk
              go_wp2_with (at_builtin; go_loud (refine wpList_append_S rfl _ _ _ rfl tokTy rfl HOW.out rfl rfl HC.out HG.out HL.out.1 HL.out.2.1 HL.out.2.2.1 HL.out.2.2.2 ?_); intro A13 c13 w13 hown hgr hor; have HW := Lib.hid hown; have HGR := Lib.hid hgr; clear hown hgr hor)
              obtain ⟨f1, f2⟩ := HEND.out _ _ _ HW.out HGR.out
              refine ⟨⟨k + 1, (init ++ [u]) ++ [t], by omega, by go_num, f2, f1, ?_⟩, by simp [intOf]; omega⟩
              rw [Hid, HST.out, ← HO.out, joinStep, if_neg (by rw [HK.out]; simp), if_neg HT.out, List.getLast?_concat]
              simp only [if_neg HU.out]
      · have HK := Lib.hid hk0
        have hb1 : (t.kind != 0) = true := by rw [bne_iff_ne]; exact hk0
        clear hk0
        go_wp2_with (at_builtin; go_loud (refine wpList_append_S rfl _ _ _ rfl tokTy rfl HOW.out rfl rfl HC.out HG.out HL.out.1 HL.out.2.1 HL.out.2.2.1 HL.out.2.2.2 ?_); intro A13 c13 w13 hown hgr hor; have HW := Lib.hid hown; have HGR := Lib.hid hgr; clear hown hgr hor)
        obtain ⟨f1, f2⟩ := HEND.out _ _ _ HW.out HGR.out
        refine ⟨⟨k + 1, o ++ [t], by omega, by go_num, f2, f1, ?_⟩, by simp [intOf]; omega⟩
        rw [Hid, HST.out, ← HO.out, joinStep, if_pos HK.out]
    · go_wp2_with fail
      go_ret
      refine ⟨_, rfl, ?_, hb⟩
      have e := HO.out
      rw [List.take_of_length_le (by omega)] at e
      rw [← e]
      exact ho
end Go.Proofs.YtijpfcjlochahaaGreatDoor
