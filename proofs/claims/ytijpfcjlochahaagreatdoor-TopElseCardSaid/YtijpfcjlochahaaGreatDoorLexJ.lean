/- The walk of lex.All. -/
import Derived.Test.YtijpfcjlochahaaGreatDoorLexI
set_option linter.unusedVariables false
set_option linter.unusedSimpArgs false
namespace Go.Proofs.YtijpfcjlochahaaGreatDoor
open Go Go.RowKit
set_option linter.unusedVariables false
set_option linter.unusedSimpArgs false

theorem row_parts {w : World} {F : Nat → Prop} {sz : Nat} {l : List GV} {v : Value} (h : GR w F (.row sz l) [v]) :
    ∃ A c xs, v = .slice A l.length c ∧ Cells w F A xs ∧ GRl w F sz l xs := by
  obtain ⟨A, c, xs, h1, h2, h3, h4, h5, h6⟩ := GR_row.1 h
  exact ⟨A, c, xs, by simpa using h1, h5, h6⟩
theorem feedLoop_len : ∀ (n : Nat) (b : Bool) (s : List UInt8) (o : List Token),
    (feedLoop n b s o).2.1.length + (feedLoop n b s o).1.rest.length ≤ o.length + s.length ∧
    textSum (feedLoop n b s o).2.1 + (feedLoop n b s o).1.rest.length ≤ textSum o + s.length
  | 0, b, s, o => by simp [feedLoop, textSum]
  | n + 1, b, s, o => by
    have key : ∀ (o' : List Token) (s' : List UInt8) (m : List UInt8), o'.length + s'.length ≤ o.length + s.length → textSum o' + s'.length ≤ textSum o + s.length →
        (fun z : LexSt × List Token × Int => z.2.1.length + z.1.rest.length ≤ o.length + s.length ∧ textSum z.2.1 + z.1.rest.length ≤ textSum o + s.length)
          (if s'.length < m.length ∨ m = [] then (⟨s', b⟩, o', 0)
           else if m = remB ∨ m = behB then feedLoop n (decide (m = remB)) (s'.drop m.length) o'
           else if (cutF s' m).2.2 ≠ 0 then (⟨[], false⟩, [], (cutF s' m).2.2)
           else if (cutF s' m).2.1 = 0 then (⟨s', b⟩, o', 0)
           else feedLoop n b (s'.drop (cutF s' m).2.1) (o' ++ [(cutF s' m).1])) := by
      intro o' s' m h1 h2
      split
      · exact ⟨h1, h2⟩
      · split
        · have ih := feedLoop_len n (decide (m = remB)) (s'.drop m.length) o'
          simp only [List.length_drop] at ih
          exact ⟨by have := ih.1; omega, by have := ih.2; omega⟩
        · split
          · exact ⟨by simp, by simp [textSum]⟩
          · split
            · exact ⟨h1, h2⟩
            · rename_i hne
              have ih := feedLoop_len n b (s'.drop (cutF s' m).2.1) (o' ++ [(cutF s' m).1])
              obtain ⟨t1, t2, -⟩ := cutF_total (s := s') (m := m)
              rw [textSum_append, List.length_append, List.length_drop] at ih
              have e : textSum [(cutF s' m).1] = (cutF s' m).1.text.length := by simp [textSum]
              simp only [List.length_cons, List.length_nil] at ih
              exact ⟨by have := ih.1; omega, by have := ih.2; omega⟩
    rw [feedLoop]
    refine key _ _ _ ?_ ?_
    · split
      · rw [List.length_append, List.length_drop]; simp only [List.length_cons, List.length_nil]
        have := (markF_len b s).2
        omega
      · rw [List.length_drop]; omega
    · split
      · rw [textSum_append, List.length_drop]
        have e : textSum [textTok (s.take (markF b s).2)] = min (markF b s).2 s.length := by simp [textSum, textTok]
        have := (markF_len b s).2
        omega
      · rw [List.length_drop]; omega
theorem feedF_len (x : LexSt) (s : List UInt8) : (feedF x s).2.1.length + (feedF x s).1.rest.length ≤ x.rest.length + s.length ∧
    textSum (feedF x s).2.1 + (feedF x s).1.rest.length ≤ x.rest.length + s.length := by
  unfold feedF
  split
  · have h := feedLoop_len ((x.rest ++ s).length + 1) x.inside (x.rest ++ s) []
    have e : textSum [] = 0 := rfl
    have e2 : (x.rest ++ s).length = x.rest.length + s.length := by simp
    rw [e, List.length_nil] at h
    generalize feedLoop ((x.rest ++ s).length + 1) x.inside (x.rest ++ s) [] = z at *
    exact ⟨by have := h.1; omega, by have := h.2; omega⟩
  · exact ⟨by simp, by simp [textSum]⟩
theorem endF_len (x : LexSt) : (endF x).1.length ≤ 1 ∧ textSum (endF x).1 ≤ x.rest.length := by
  unfold endF
  split
  · split
    · exact ⟨by simp, by simp [textSum]⟩
    · split
      · exact ⟨by simp, by simp [textSum]⟩
      · exact ⟨by simp, by simp [textSum, textTok]⟩
  · exact ⟨by simp, by simp [textSum]⟩

/-- What 'All' leaves. -/
def AllPost (w : World) (r : List Token × Int) (e : Ending) (w' : World) : Prop :=
  ∃ v, e = .returned (.tuple #[v, .int .i64 r.2]) ∧ GR w' (fun g => w.heap.size ≤ g) (.row 3 (r.1.map Token.gv)) [v] ∧ Below w.heap.size w w'

set_option maxRecDepth 20000 in
set_option maxHeartbeats 2000000 in
theorem all_calls (s : ByteArray) (w : World) (hs : s.size ≤ 1000000) :
    Calls Tryz.prog 37 #[.string s] w (AllPost w (allF (L s))) := by
  have HAF : Hid (allF (L s) = if (feedF ⟨[], false⟩ (L s)).2.2 ≠ 0 then ([], (feedF ⟨[], false⟩ (L s)).2.2)
    else if (endF (feedF ⟨[], false⟩ (L s)).1).2 ≠ 0 then ([], (endF (feedF ⟨[], false⟩ (L s)).1).2)
    else (joinF ((feedF ⟨[], false⟩ (L s)).2.1 ++ (endF (feedF ⟨[], false⟩ (L s)).1).1), 0)) := rfl
  have hfl := feedF_len ⟨[], false⟩ (L s)
  simp only [List.length_nil] at hfl
  go_enter Tryz.func37, Tryz.ntmps37
  go_wp2_with fail
  refine (feed_calls ⟨#[]⟩ s false w (by show 0 + s.size ≤ 1000000; omega)).mono ?_
  rw [show L (⟨#[]⟩ : ByteArray) = [] from rfl]
  generalize feedF ⟨[], false⟩ (L s) = f at *
  obtain ⟨x, toks, err⟩ := f
  simp only at HAF hfl
  have hel := endF_len x
  rintro e w1 ⟨v, rfl, hown, hb1⟩
  obtain ⟨xr, xi⟩ := x
  simp only at hown hfl hel
  obtain ⟨A, c, rfl⟩ := hown.form
  rw [List.length_map] at *
  have hblk := Blk.new w1 48 #[.string (bs xr), .bool xi]
  have c0 := hblk.cell 0
  have c1 := hblk.cell 1
  have hbel := hb1.alloc hb1.size (.cells #[.string (bs xr), .bool xi] 48)
  have HOWN := Lib.hid (hown.below ((Below.refl _ _).alloc (Nat.le_refl _) (.cells #[.string (bs xr), .bool xi] 48)))
  have hsz2 := size_alloc w1 (.cells #[.string (bs xr), .bool xi] 48)
  have hw12 := hb1.size
  clear hown hb1
  have hsl := size_L s
  have hlt := @HOWN.out.lt
  by_cases herr : err = 0
  · have HAF2 : Hid (allF (L s) = if (endF ⟨xr, xi⟩).2 ≠ 0 then ([], (endF ⟨xr, xi⟩).2) else (joinF (toks ++ (endF ⟨xr, xi⟩).1), 0)) := HAF.out.trans (if_neg (by simpa using herr))
    have hbb : (err != 0) = false := by rw [herr]; rfl
    clear HAF herr
    go_wp2_with fail
    generalize w1.alloc (.cells #[.string (bs xr), .bool xi] 48) = w2 at *
    refine (end_calls (bs xr) xi w2 (by rw [size_bs]; omega)).mono ?_
    rw [L_bs]
    generalize endF ⟨xr, xi⟩ = en at *
    obtain ⟨et, ee⟩ := en
    simp only at hel HAF2
    rintro e w3 ⟨v2, rfl, hgr, hb3⟩
    have hbel3 := hbel.trans (hb3.mono (by omega))
    by_cases hee : ee = 0
    · have HAF3 : Hid (allF (L s) = (joinF (toks ++ et), 0)) := HAF2.out.trans (if_neg (by simpa using hee))
      have hb2 : (ee != 0) = false := by rw [hee]; rfl
      clear HAF2 hee
      obtain ⟨A2, c2, xs, rfl, hcs, hgl⟩ := row_parts hgr
      rw [List.length_map] at *
      have HOW := Lib.hid (HOWN.out.below hb3)
      have HC := Lib.hid (hcs.mono (w' := w3) (F' := fun _ => True) (fun _ _ => trivial) (fun _ _ _ => rfl))
      have HG : Hid (GRl w3 (fun k => (w.heap.size ≤ k) ∧ some k ≠ (Value.slice A toks.length c).ownBlock) 3 (et.map Token.gv) xs) := by
        refine hgl.weaken fun k hk => ⟨by omega, fun e => ?_⟩
        have := (HOWN.out.lt k e.symm).2
        omega
      have HL : Hid ((toks.map Token.gv).length + (et.map Token.gv).length ≤ maxLen ∧ ((toks.map Token.gv).length + (et.map Token.gv).length) * 48 ≤ 140737488355328 ∧
          w.heap.size ≤ w3.heap.size ∧ toks.length + et.length = (toks.map Token.gv ++ et.map Token.gv).length) := by
        have := hb3.size
        refine ⟨?_, ?_, ?_, ?_⟩
        · simp [maxLen]; omega
        · simp; omega
        · omega
        · simp
      have hne : Hid (et.length = (et.map Token.gv).length) := by rw [Hid, List.length_map]
      clear HOWN hgr hcs hgl
      go_wp2_with (at_builtin; go_loud (refine wpList_append_S rfl _ _ _ rfl tokTy rfl HOW.out hne.out rfl HC.out HG.out HL.out.1 HL.out.2.1 HL.out.2.2.1 HL.out.2.2.2 ?_); intro A13 c13 w13 hown hgr hor; have HW := Lib.hid hown; have HGR := Lib.hid hgr; clear hown hgr hor)
      have hg3 : w3.grownBy w13 (Value.slice A toks.length c).ownBlock := HGR.out
      have hown13 := HW.out
      rw [← List.map_append] at hown13
      have hbel4 : Below w.heap.size w w13 := hbel3.trans (below_of_grown hg3 HL.out.2.2.1 (fun k hk => (HOW.out.lt k hk).1))
      have hrow : GR w13 (fun g => w.heap.size ≤ g) (.row 3 ((toks ++ et).map Token.gv)) [.slice A13 (toks.length + et.length) c13] :=
        hown13.gr (fun _ h => h) (fun k hk => (hown13.lt k hk).1)
      clear HW HGR HOW HC HG HL hg3 hown13
      refine (join_calls (toks ++ et) _ _ w13 hrow (by rw [List.length_append]; omega) (by rw [textSum_append]; omega)).mono ?_
      rintro e w14 ⟨v, rfl, hown, hb14⟩
      go_wp2_with fail
      go_ret2
      have hs13 := hbel4.size
      refine ⟨v, by rw [HAF3.out]; rfl, ?_, hbel4.trans (hb14.mono hs13)⟩
      rw [HAF3.out]
      exact hown.gr (fun k hk => hk.1) (fun k hk => by have := (hown.lt k hk).1; omega)
    · have HAF3 : Hid (allF (L s) = ([], ee)) := HAF2.out.trans (if_pos hee)
      have hb2 : (ee != 0) = true := by rw [bne_iff_ne]; exact hee
      clear HAF2 hee
      go_wp2_with fail
      go_ret2
      refine ⟨.slice none 0 0, by rw [HAF3.out]; rfl, ?_, hbel3⟩
      rw [HAF3.out]
      exact gr_nil
  · have HAF2 : Hid (allF (L s) = ([], err)) := HAF.out.trans (if_pos herr)
    have hbb : (err != 0) = true := by rw [bne_iff_ne]; exact herr
    clear HAF herr
    go_wp2_with fail
    go_ret2
    refine ⟨.slice none 0 0, by rw [HAF2.out]; rfl, ?_, hbel⟩
    rw [HAF2.out]
    exact gr_nil
end Go.Proofs.YtijpfcjlochahaaGreatDoor
