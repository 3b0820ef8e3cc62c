/- The walk of lex.Join. -/
import Derived.Test.YtijpfcjlochahaaDoorLexG
namespace Go.Proofs.YtijpfcjlochahaaDoor
open Go Go.RowKit

theorem OwnR.last {w : World} {base : Nat} {e : TypeId} {G : Nat → Prop} {v : Value} {init : List Token} {u : Token} (h : OwnR w base e 3 G v ((init ++ [u]).map Token.gv)) :
    ∃ g cap, v = .slice (some ⟨g, 0, none⟩) (init.length + 1) cap ∧ base ≤ g ∧ g < w.heap.size ∧ w.cell? ⟨g, init.length * 3, none⟩ = some (.int .i64 u.kind) ∧ w.cell? ⟨g, init.length * 3 + 1, none⟩ = some (.string (bs u.text)) ∧
      w.frozen? ⟨g, init.length * 3 + 1, none⟩ = false ∧
      ∀ x, OwnR (w.setCell ⟨g, init.length * 3 + 1, none⟩ (.string (bs x))) base e 3 G v ((init ++ [{ u with text := x }]).map Token.gv) ∧ w.grownBy (w.setCell ⟨g, init.length * 3 + 1, none⟩ (.string (bs x))) (some g) := by
  obtain ⟨xs, ho, hr⟩ := h
  have hlen : ((init ++ [u]).map Token.gv).length = init.length + 1 := by simp
  rw [hlen] at ho
  rw [List.map_append] at hr
  obtain ⟨a, b, rfl, h1, h2⟩ := GRl.split hr
  have hla := h1.length
  rw [List.length_map] at hla
  obtain ⟨c, d, rfl, _, h3, h4⟩ := GRl_cons.1 h2
  have h4 : d = [] := GRl_nil.1 h4
  subst h4
  obtain ⟨va, rfl, hva⟩ := tok_cells h3
  obtain ⟨hl, h0⟩ := id ho
  rcases h0 with ⟨_, h0⟩ | ⟨g, cap, cur, rfl, hg, hh, hn, hm, hc, ht⟩
  · omega
  have hx0 : (a ++ [Value.int .i64 u.kind, .string (bs u.text), va])[init.length * 3]? = some (.int .i64 u.kind) := by rw [List.getElem?_append_right (by omega), hla, Nat.sub_self]; rfl
  have hx1 : (a ++ [Value.int .i64 u.kind, .string (bs u.text), va])[init.length * 3 + 1]? = some (.string (bs u.text)) := by
    rw [List.getElem?_append_right (by omega), hla, show init.length * 3 + 1 - init.length * 3 = 1 by omega]; rfl
  simp only [List.append_nil] at ho
  refine ⟨g, cap, rfl, hg, (Array.getElem?_eq_some_iff.1 hh).1, ?_, ?_, ho.frozenAt _, fun x => ?_⟩
  · rw [ho.cellAt _ (by omega)]; exact hx0
  · rw [ho.cellAt _ (by omega)]; exact hx1
  · obtain ⟨h5, h6⟩ := ho.stored (init.length * 3 + 1) (.string (bs x))
    refine ⟨⟨a ++ [.int .i64 u.kind, .string (bs x), va], ?_, ?_⟩, h6⟩
    · have hlen2 : ((init ++ [{ u with text := x }]).map Token.gv).length = init.length + 1 := by simp
      rw [hlen2]
      have e : (a ++ [Value.int .i64 u.kind, .string (bs u.text), va]).set (init.length * 3 + 1) (.string (bs x)) = a ++ [.int .i64 u.kind, .string (bs x), va] := by
        rw [List.set_append, if_neg (by omega), hla, show init.length * 3 + 1 - init.length * 3 = 1 by omega]
        rfl
      exact e ▸ h5
    · have hmono : ∀ {l : List GV} {ys : List Value}, GRl w (fun k => G k ∧ some k ≠ (Value.slice (some ⟨g, 0, none⟩) (init.length + 1) cap).ownBlock) 3 l ys →
          GRl (w.setCell ⟨g, init.length * 3 + 1, none⟩ (.string (bs x))) (fun k => G k ∧ some k ≠ (Value.slice (some ⟨g, 0, none⟩) (init.length + 1) cap).ownBlock) 3 l ys :=
        fun hh => GRl.mono (fun _ h => h) (fun k hk hlt => h6.block k hlt hk.2) _ _ _ hh
      rw [List.map_append]
      refine GRl.append ?_ (hmono h1)
      refine GRl_one ?_ rfl
      have hva2 := GR.mono (w' := w.setCell ⟨g, init.length * 3 + 1, none⟩ (.string (bs x))) (fun _ h => h) (fun k hk hlt => h6.block k hlt hk.2) _ _ hva
      exact cells_tok hva2

theorem joinStep_len (o : List Token) (t : Token) : (joinStep o t).length ≤ o.length + 1 := by
  unfold joinStep
  split
  · simp
  · split
    · omega
    · split
      · split
        · rw [List.length_append, List.length_dropLast]; simp only [List.length_cons, List.length_nil]; omega
        · simp
      · simp
theorem foldl_joinStep_len : ∀ (l : List Token) (o : List Token), (l.foldl joinStep o).length ≤ o.length + l.length
  | [], o => by simp
  | t :: l, o => by
    have h1 := foldl_joinStep_len l (joinStep o t)
    have h2 := joinStep_len o t
    simp only [List.foldl_cons, List.length_cons]
    omega
theorem joinF_len (l : List Token) : (joinF l).length ≤ l.length := by
  have := foldl_joinStep_len l []
  simpa [joinF] using this
def textSum (l : List Token) : Nat := (l.map fun t => t.text.length).sum

theorem textSum_append (a b : List Token) : textSum (a ++ b) = textSum a + textSum b := by simp [textSum]
theorem joinStep_sum (o : List Token) (t : Token) : textSum (joinStep o t) ≤ textSum o + t.text.length := by
  unfold joinStep
  split
  · rw [textSum_append]; simp [textSum]
  · split
    · omega
    · split
      · rename_i u hu
        obtain ⟨init, rfl⟩ : ∃ init, o = init ++ [u] := by
          rcases List.eq_nil_or_concat o with rfl | ⟨i, x, rfl⟩
          · simp at hu
          · rw [List.concat_eq_append] at hu ⊢; simp at hu; subst hu; exact ⟨i, rfl⟩
        split
        · rw [List.dropLast_concat, textSum_append, textSum_append]; simp [textSum]; omega
        · rw [textSum_append]; simp [textSum]
      · rw [textSum_append]; simp [textSum]
theorem foldl_joinStep_sum : ∀ (l : List Token) (o : List Token), textSum (l.foldl joinStep o) ≤ textSum o + textSum l
  | [], o => by simp [textSum]
  | t :: l, o => by
    have h1 := foldl_joinStep_sum l (joinStep o t)
    have h2 := joinStep_sum o t
    have h3 : textSum (t :: l) = t.text.length + textSum l := by simp [textSum]
    rw [h3, List.foldl_cons]
    omega
theorem joinF_sum (l : List Token) : textSum (joinF l) ≤ textSum l := by
  have := foldl_joinStep_sum l []
  simpa [joinF, textSum] using this
theorem textSum_take (l : List Token) (k : Nat) (h : k < l.length) : textSum (l.take k) + l[k].text.length ≤ textSum l := by
  have h1 : l = l.take (k + 1) ++ l.drop (k + 1) := (List.take_append_drop _ _).symm
  have h2 := congrArg textSum h1
  rw [textSum_append, List.take_succ_eq_append_getElem h, textSum_append] at h2
  have h3 : textSum [l[k]] = l[k].text.length := by simp [textSum]
  omega

set_option maxRecDepth 20000 in
set_option maxHeartbeats 2000000 in
theorem join_calls (l : List Token) (v : Value) (F : Nat → Prop) (w : World) (hv : GR w F (.row 3 (l.map Token.gv)) [v]) (hl : l.length ≤ 10000000) (hs : textSum l ≤ 100000000) :
    Calls Tryd.prog 36 #[v] w fun e w' => ∃ v', e = .returned v' ∧ OwnR w' w.heap.size 30 3 (fun g => F g ∧ g < w.heap.size) v' ((joinF l).map Token.gv) ∧ Below w.heap.size w w' := by
  obtain ⟨A, c, rfl, hlc, hcm, hop⟩ := toks_open (GR.lt_heap _ _ hv)
  have HOP := Lib.hid hop
  clear hop hv hcm
  go_enter Tryd.func36, Tryd.ntmps36
  go_wp2_with fail
  go_loopw [3, 5, 6, 9] (fun v _ _ i wr => ∃ (k : Nat) (o : List Token), k ≤ l.length ∧ i = .int .i64 k ∧ Below w.heap.size w wr ∧ OwnR wr w.heap.size 30 3 (fun g => F g ∧ g < w.heap.size) v (o.map Token.gv) ∧
      Hid (o = joinF (l.take k)))
     (fun _ _ _ i wr => l.length - (intOf i).toNat)
  case atStart => exact ⟨0, [], Nat.zero_le _, rfl, Below.refl _ _, OwnR.nil _ _ _ _ _, rfl⟩
  case round =>
    obtain ⟨k, o, hk, rfl, hb, ho, HO⟩ := hrel
    by_cases hlt : k < l.length
    · obtain ⟨b, off, rfl, ⟨_, hbw⟩, hop⟩ := HOP.out (by rintro rfl; simp at hlt)
      obtain ⟨va, c0, c1, c2, hva⟩ := hop k hlt
      have e0 := (hb.cell (p := ⟨b, off + k * 3, none⟩) hbw).trans c0
      have e1 := (hb.cell (p := ⟨b, off + k * 3 + 1, none⟩) hbw).trans c1
      have e2 := (hb.cell (p := ⟨b, off + k * 3 + 2, none⟩) hbw).trans c2
      have HVA := Lib.hid hva
      clear c0 c1 c2 hop hva hbw
      obtain ⟨Av, cv, rfl, -, -, -⟩ := pairs_open HVA.out
      have HST : Hid (joinF (l.take (k + 1)) = joinStep (joinF (l.take k)) l[k]) := by
        rw [Hid, joinF, List.take_succ_eq_append_getElem hlt, List.foldl_append]; rfl
      have htl : (joinF (l.take k)).length ≤ k ∧ textSum (joinF (l.take k)) + l[k].text.length ≤ 100000000 := by
        refine ⟨Nat.le_trans (joinF_len _) (by simp; omega), ?_⟩
        have h1 := joinF_sum (l.take k)
        have h2 := textSum_take l k hlt
        omega
      rw [← HO.out] at htl
      obtain ⟨hol, hos⟩ := htl
      generalize htk : l[k] = t at *
      have HTK := Lib.hid htk
      clear htk
      obtain ⟨Ao, co, hvo⟩ := ho.form
      subst hvo
      rw [List.length_map] at ho ⊢
      obtain ⟨N, hN⟩ : ∃ N, N = o.length := ⟨_, rfl⟩
      rw [← hN] at ho hol ⊢
      have HOW : Hid (OwnR ((wr.alloc (.cells #[.int .i64 t.kind, .string (bs t.text), .slice Av t.attrs.length cv] 30)).alloc (.cells #[.int .i64 t.kind, .string (bs t.text), .slice Av t.attrs.length cv] 30)) w.heap.size 30 3 (fun g => F g ∧ g < w.heap.size) (.slice Ao N co) (o.map Token.gv)) :=
        ho.below (((Below.refl _ _).alloc (Nat.le_refl _) _).alloc (by simp) _)
      have hszr := hb.size
      have HC : Hid (Cells ((wr.alloc (.cells #[.int .i64 t.kind, .string (bs t.text), .slice Av t.attrs.length cv] 30)).alloc (.cells #[.int .i64 t.kind, .string (bs t.text), .slice Av t.attrs.length cv] 30)) (fun _ => True) (some ⟨wr.heap.size + 1, 0, none⟩) [.int .i64 t.kind, .string (bs t.text), .slice Av t.attrs.length cv]) := by
        have := cells_new (Blk.new (wr.alloc (.cells #[.int .i64 t.kind, .string (bs t.text), .slice Av t.attrs.length cv] 30)) 30 [.int .i64 t.kind, .string (bs t.text), .slice Av t.attrs.length cv].toArray)
        rw [size_alloc] at this
        exact this
      have HG : Hid (GRl ((wr.alloc (.cells #[.int .i64 t.kind, .string (bs t.text), .slice Av t.attrs.length cv] 30)).alloc (.cells #[.int .i64 t.kind, .string (bs t.text), .slice Av t.attrs.length cv] 30)) (fun k => (F k ∧ k < w.heap.size) ∧ some k ≠ (Value.slice Ao N co).ownBlock) 3 [t.gv] [.int .i64 t.kind, .string (bs t.text), .slice Av t.attrs.length cv]) := by
        refine GRl_one (cells_tok ?_) rfl
        have hbb : Below w.heap.size w ((wr.alloc (.cells #[.int .i64 t.kind, .string (bs t.text), .slice Av t.attrs.length cv] 30)).alloc (.cells #[.int .i64 t.kind, .string (bs t.text), .slice Av t.attrs.length cv] 30)) :=
          (hb.alloc hszr _).alloc (by rw [size_alloc]; omega) _
        refine GR.mono (fun x hx => ⟨hx, fun e => ?_⟩) (fun x hx hlt => hbb.block x hlt) _ _ HVA.out
        have := (ho.lt x e.symm).1
        have := hx.2
        omega
      have HL : Hid ((o.map Token.gv).length + [t.gv].length ≤ maxLen ∧ ((o.map Token.gv).length + [t.gv].length) * 48 ≤ 140737488355328 ∧
          w.heap.size ≤ ((wr.alloc (.cells #[.int .i64 t.kind, .string (bs t.text), .slice Av t.attrs.length cv] 30)).alloc (.cells #[.int .i64 t.kind, .string (bs t.text), .slice Av t.attrs.length cv] 30)).heap.size ∧ N + 1 = (o.map Token.gv ++ [t.gv]).length) := by
        refine ⟨?_, ?_, ?_, ?_⟩
        · simp [maxLen]; omega
        · simp; omega
        · rw [size_alloc, size_alloc]; omega
        · simp; omega
      have HEND : Hid (∀ A' c' w', OwnR w' w.heap.size 30 3 (fun g => F g ∧ g < w.heap.size) (.slice A' (N + 1) c') (o.map Token.gv ++ [t.gv]) →
          ((wr.alloc (.cells #[.int .i64 t.kind, .string (bs t.text), .slice Av t.attrs.length cv] 30)).alloc (.cells #[.int .i64 t.kind, .string (bs t.text), .slice Av t.attrs.length cv] 30)).grownBy w' (Value.slice Ao N co).ownBlock →
          OwnR w' w.heap.size 30 3 (fun g => F g ∧ g < w.heap.size) (.slice A' (N + 1) c') ((o ++ [t]).map Token.gv) ∧ Below w.heap.size w w') := by
        intro A' c' w' h1 h2
        refine ⟨by rw [List.map_append]; exact h1, ?_⟩
        exact ((hb.alloc hszr _).alloc (by rw [size_alloc]; omega) _).trans (below_of_grown h2 (by rw [size_alloc, size_alloc]; omega) (fun x hx => (ho.lt x hx).1))
      have HN := Lib.hid hN
      clear hN
      by_cases hk0 : t.kind = 0
      · have HK := Lib.hid hk0
        have hb1 : (t.kind != 0) = false := by rw [hk0]; rfl
        have hb1' : (t.kind == 0) = true := by rw [hk0]; rfl
        clear hk0
        by_cases ht0 : t.text = []
        · have HT := Lib.hid ht0
          have hb2 : (bs t.text).toList.isEmpty = true := by rw [ht0, toList_bs]; rfl
          have hb3 : (bs t.text).toList = [] := by rw [ht0, toList_bs]
          clear ht0
          go_wp2_with fail
          refine ⟨⟨k + 1, o, by omega, by go_num, hb.alloc hszr _, ho.below ((Below.refl _ _).alloc (Nat.le_refl _) _), ?_⟩, by simp [intOf]; omega⟩
          rw [Hid, HST.out, ← HO.out, joinStep, if_neg (by rw [HK.out]; simp), if_pos HT.out]
        · have HT := Lib.hid ht0
          have hb2 : (bs t.text).toList.isEmpty = false := by rw [toList_bs]; cases h : t.text with | nil => exact absurd h ht0 | cons _ _ => rfl
          have hb3 : ¬ (bs t.text).toList = [] := by rw [toList_bs]; exact ht0
          clear ht0
          rcases List.eq_nil_or_concat o with ho0 | ⟨init, u, ho0⟩
          · subst ho0
            obtain rfl : N = 0 := HN.out
            go_wp2_with (at_builtin; go_loud (refine wpList_append_S rfl _ _ _ rfl tokTy rfl HOW.out rfl rfl HC.out HG.out HL.out.1 HL.out.2.1 HL.out.2.2.1 HL.out.2.2.2 ?_); intro A13 c13 w13 hown hgr hor; have HW := Lib.hid hown; have HGR := Lib.hid hgr; clear hown hgr hor)
            obtain ⟨f1, f2⟩ := HEND.out _ _ _ HW.out HGR.out
            refine ⟨⟨k + 1, [t], by omega, by go_num, f2, f1, ?_⟩, by simp [intOf]; omega⟩
            rw [Hid, HST.out, ← HO.out, joinStep, if_neg (by rw [HK.out]; simp), if_neg HT.out]
            rfl
          · rw [List.concat_eq_append] at ho0
            subst ho0
            obtain rfl : N = init.length + 1 := by rw [HN.out]; simp
            obtain ⟨g, cap, hve, hg1, hg2, q0, q1, q2, hset⟩ := ho.last
            simp only [Value.slice.injEq] at hve
            obtain ⟨rfl, -, rfl⟩ := hve
            have HSET := Lib.hid hset
            clear hset
            by_cases huk : u.kind = 0
            · have HU := Lib.hid huk
              have hb4 : (u.kind == 0) = true := by rw [huk]; rfl
              clear huk
              have hadd : u.text.length + t.text.length ≤ 100000000 := by
                rw [textSum_append] at hos
                have : textSum [u] = u.text.length := by simp [textSum]
                omega
              have z1 : (bs u.text).size = u.text.length := size_bs _
              have z2 : (bs t.text).size = t.text.length := size_bs _
              go_wp2_with fail
              go_region
              go_wp2_with fail
              obtain ⟨f1, f2⟩ := HSET.out (u.text ++ t.text)
              rw [← bs_append] at f1 f2
              have f3 : Below w.heap.size w (wr.setCell ⟨g, init.length * 3 + 1, none⟩ (.string (bs u.text ++ bs t.text))) := hb.trans (below_of_grown f2 hszr (fun x hx => by injection hx with hx; omega))
              have f4 := f3.size
              refine ⟨⟨k + 1, init ++ [{ u with text := u.text ++ t.text }], by omega, by go_num, (f3.alloc f4 _).drew, f1.below (((Below.refl _ _).alloc (Nat.le_refl _) _).drew), ?_⟩, by simp [intOf]; omega⟩
              rw [Hid, HST.out, ← HO.out, joinStep, if_neg (by rw [HK.out]; simp), if_neg HT.out, List.getLast?_concat]
              simp only [if_pos HU.out, List.dropLast_concat]
            · have HU := Lib.hid huk
              have hb4 : (u.kind == 0) = false := by rw [beq_eq_false_iff_ne]; exact huk
              clear huk
              go_wp2_with (at_builtin; go_loud (refine wpList_append_S rfl _ _ _ rfl tokTy rfl HOW.out rfl rfl HC.out HG.out HL.out.1 HL.out.2.1 HL.out.2.2.1 HL.out.2.2.2 ?_); intro A13 c13 w13 hown hgr hor; have HW := Lib.hid hown; have HGR := Lib.hid hgr; clear hown hgr hor)
              obtain ⟨f1, f2⟩ := HEND.out _ _ _ HW.out HGR.out
              refine ⟨⟨k + 1, (init ++ [u]) ++ [t], by omega, by go_num, f2, f1, ?_⟩, by simp [intOf]; omega⟩
              rw [Hid, HST.out, ← HO.out, joinStep, if_neg (by rw [HK.out]; simp), if_neg HT.out, List.getLast?_concat]
              simp only [if_neg HU.out]
      · have HK := Lib.hid hk0
        have hb1 : (t.kind != 0) = true := by rw [bne_iff_ne]; exact hk0
        clear hk0
        go_wp2_with (at_builtin; go_loud (refine wpList_append_S rfl _ _ _ rfl tokTy rfl HOW.out rfl rfl HC.out HG.out HL.out.1 HL.out.2.1 HL.out.2.2.1 HL.out.2.2.2 ?_); intro A13 c13 w13 hown hgr hor; have HW := Lib.hid hown; have HGR := Lib.hid hgr; clear hown hgr hor)
        obtain ⟨f1, f2⟩ := HEND.out _ _ _ HW.out HGR.out
        refine ⟨⟨k + 1, o ++ [t], by omega, by go_num, f2, f1, ?_⟩, by simp [intOf]; omega⟩
        rw [Hid, HST.out, ← HO.out, joinStep, if_pos HK.out]
    · go_wp2_with fail
      go_ret
      refine ⟨_, rfl, ?_, hb⟩
      have e := HO.out
      rw [List.take_of_length_le (by omega)] at e
      rw [← e]
      exact ho
end Go.Proofs.YtijpfcjlochahaaDoor
