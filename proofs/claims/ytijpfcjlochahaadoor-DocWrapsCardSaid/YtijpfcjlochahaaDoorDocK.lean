/- The walks of slices.Clone at tokens, and of joined. -/
import Derived.Test.YtijpfcjlochahaaDoorDocJ
import Derived.Test.YtijpfcjlochahaaDoorLexJ
namespace Go.Proofs.YtijpfcjlochahaaDoor
open Go Go.RowKit

def rowSet3 (W : World) (g o : Nat) (c0 c1 c2 : Value) : World := ((W.setCell ⟨g, o, none⟩ c0).setCell ⟨g, o + 1, none⟩ c1).setCell ⟨g, o + 2, none⟩ c2
theorem GRl.split1 {w : World} {F : Nat → Prop} {sz : Nat} {l : List GV} {xs : List Value} (h : GRl w F sz l xs) {i : Nat} (hi : i < l.length) :
    ∃ a cs b, xs = a ++ (cs ++ b) ∧ a.length = i * sz ∧ cs.length = sz ∧ GRl w F sz (l.take i) a ∧ GRl w F sz (l.drop (i + 1)) b := by
  have e : l = l.take i ++ (l[i] :: l.drop (i + 1)) := by rw [← List.drop_eq_getElem_cons hi, List.take_append_drop]
  rw [e] at h
  obtain ⟨a, b', rfl, h1, h2⟩ := GRl.split h
  obtain ⟨cs, b, rfl, h3, h4, h5⟩ := GRl_cons.1 h2
  refine ⟨a, cs, b, rfl, ?_, h3, h1, h5⟩
  rw [h1.length, List.length_take, Nat.min_eq_left (by omega)]
/-- An element of a row of the call's own is another one. -/
theorem own_set3 {w : World} {base : Nat} {e : TypeId} {G : Nat → Prop} {g n c i : Nat} {l : List GV} (h : OwnR w base e 3 G (.slice (some ⟨g, 0, none⟩) n c) l) (hn : n = l.length) (hi : i < l.length) (x : GV) (c0 c1 c2 : Value)
    (hx : GR w (fun k => G k ∧ some k ≠ some g) x [c0, c1, c2]) :
    OwnR (rowSet3 w g (i * 3) c0 c1 c2) base e 3 G (.slice (some ⟨g, 0, none⟩) n c) (l.set i x) ∧ w.grownBy (rowSet3 w g (i * 3) c0 c1 c2) (some g) := by
  subst hn
  obtain ⟨xs, hr, hg⟩ := h
  obtain ⟨a, cs, b, rfl, ha, hc, h1, h2⟩ := hg.split1 hi
  obtain ⟨z0, z1, z2, rfl⟩ : ∃ z0 z1 z2, cs = [z0, z1, z2] := by
    match cs, hc with
    | [z0, z1, z2], _ => exact ⟨z0, z1, z2, rfl⟩
  obtain ⟨r0, g0⟩ := hr.stored (i * 3) c0
  obtain ⟨r1, g1⟩ := r0.stored (i * 3 + 1) c1
  obtain ⟨r2, g2⟩ := r1.stored (i * 3 + 2) c2
  have hgr : w.grownBy (rowSet3 w g (i * 3) c0 c1 c2) (some g) := grown_trans (grown_trans g0 g1) g2
  refine ⟨⟨a ++ ([c0, c1, c2] ++ b), ?_, ?_⟩, hgr⟩
  · have e1 : ((((a ++ ([z0, z1, z2] ++ b)).set (i * 3) c0).set (i * 3 + 1) c1).set (i * 3 + 2) c2) = a ++ ([c0, c1, c2] ++ b) := by
      rw [← ha]; simp
    rw [e1] at r2
    rw [List.length_set]
    exact r2
  · have e2 : l.set i x = l.take i ++ (x :: l.drop (i + 1)) := List.set_eq_take_append_cons_drop.trans (if_pos hi)
    rw [e2]
    have key : GRl w (fun k => G k ∧ some k ≠ some g) 3 (l.take i ++ (x :: l.drop (i + 1))) (a ++ ([c0, c1, c2] ++ b)) :=
      GRl.append (GRl_cons.2 ⟨_, _, rfl, rfl, hx, h2⟩) h1
    exact GRl.mono (fun _ h => h) (fun k hk hlt => hgr.block k hlt hk.2) 3 _ _ key
def OwnPost (F : Nat → Prop) (l : List Token) (w : World) (e : Ending) (w' : World) : Prop :=
  ∃ v', e = .returned v' ∧ OwnR w' w.heap.size 30 3 (fun g => F g ∧ g < w.heap.size) v' (l.map Token.gv) ∧ Below w.heap.size w w'
set_option maxRecDepth 20000 in
set_option maxHeartbeats 2000000 in
theorem clone_calls (l : List Token) (v : Value) (F : Nat → Prop) (w : World) (hv : GR w F (.row 3 (l.map Token.gv)) [v]) (hl : l.length ≤ 100000) :
    Calls Tryd.prog 63 #[v] w (OwnPost F l w) := by
  obtain ⟨A, c, rfl, hlc, hcm, hop⟩ := toks_open (GR.lt_heap _ _ hv)
  cases A with
  | none =>
    have hl0 : l = [] := Classical.byContradiction fun e => by
      obtain ⟨b, o, h, -⟩ := hop e
      cases h
    subst hl0
    have hq : ∀ W : World, (binOp BinOp.eql 23 (.slice none 0 c) (.slice none 0 0)).run Tryd.prog W = .ok (.bool true) W := fun W => by kernel_rfl
    clear hop hv hcm
    go_enter Tryd.func63, Tryd.ntmps63
    go_wp2_with fail
    go_ret
    exact ⟨_, rfl, OwnR.nil _ _ _ _ _, Below.refl _ _⟩
  | some ad =>
    have HV := Lib.hid hv
    clear hop hv hcm
    have hb1 : Below w.heap.size w (w.alloc (.cells #[] 30)) := (Below.refl _ _).alloc (Nat.le_refl _) _
    have hown : OwnR (w.alloc (.cells #[] 30)) w.heap.size 30 3 (fun g => F g ∧ g < w.heap.size) (.slice (some ⟨w.heap.size, 0, none⟩) 0 0) [] :=
      ⟨[], World.ownsRow_lit w #[] 0 (Nat.le_refl _) (by simp [maxLen]) (by simp), GRl_nil.2 rfl⟩
    obtain ⟨news, hA⟩ := App.of_row (bytes := 48) hown (GR.lt_heap _ _ HV.out) hb1 (fun k hk hlt => ⟨hk, fun e => by have e : k = w.heap.size := Option.some.inj e; omega⟩) (by simp; omega) (by omega) hb1.size
    simp only [List.length_nil, List.length_map, Nat.zero_add] at hA
    have HA := Lib.hid hA
    have HB1 := Lib.hid hb1
    have hq : ∀ W : World, (binOp BinOp.eql 23 (.slice (some ad) l.length c) (.slice none 0 0)).run Tryd.prog W = .ok (.bool false) W := fun W => by kernel_rfl
    clear hA hb1 hown
    go_enter Tryd.func63, Tryd.ntmps63
    go_wp2_with (at_builtin; go_loud (refine HA.out.plain rfl _ _ _ rfl tokTy rfl rfl ?_); intro A5 c5 w5 hown hgr hor; have HO := Lib.hid hown; have HG := Lib.hid hgr; clear hown hgr hor)
    go_ret
    exact ⟨_, rfl, by simpa using HO.out, HB1.out.trans (below_of_grown HG.out HB1.out.size (fun k hk => by have hk : w.heap.size = k := Option.some.inj hk; omega))⟩

/-- What 'joined' leaves. -/
def JoinedPost (F : Nat → Prop) (l : List Token) (w : World) (e : Ending) (w' : World) : Prop := ∃ v', e = .returned v' ∧ GR w' (fun g => F g ∨ w.heap.size ≤ g) (.row 3 ((joinedF l).map Token.gv)) [v'] ∧ Below w.heap.size w w'
theorem known_step (l : List Token) (k : Nat) (h : k < l.length) : (l.take (k + 1)).map knownF ++ l.drop (k + 1) = ((l.take k).map knownF ++ l.drop k).set k (knownF l[k]) := by
  have hl : ((l.take k).map knownF).length = k := by rw [List.length_map, List.length_take]; omega
  have e := List.drop_eq_getElem_cons h
  rw [List.set_append_right _ _ (by omega), hl, Nat.sub_self, e, List.set_cons_zero, List.take_succ_eq_append_getElem h, List.map_append, List.append_assoc]
  rfl
theorem known_at (l : List Token) (k : Nat) (h : k < l.length) : ((l.take k).map knownF ++ l.drop k)[k]? = some l[k] := by
  have hl : ((l.take k).map knownF).length = k := by rw [List.length_map, List.length_take]; omega
  rw [List.getElem?_append_right (by omega), hl, Nat.sub_self]
  simp [h]
theorem known_same (l : List Token) (k : Nat) (h : k < l.length) (hk : knownF l[k] = l[k]) : (l.take (k + 1)).map knownF ++ l.drop (k + 1) = (l.take k).map knownF ++ l.drop k := by
  rw [known_step l k h, hk]
  apply List.ext_getElem?
  intro i
  rw [List.getElem?_set]
  split
  · rename_i e
    subst e
    rw [known_at l k h]
    have hMl : ((l.take k).map knownF ++ l.drop k).length = l.length := by rw [List.length_append, List.length_map, List.length_take, List.length_drop]; omega
    rw [if_pos (by omega)]
  · rfl
/-- A token of a row of the call's own. -/
theorem own_tok_at {w : World} {base : Nat} {e : TypeId} {G : Nat → Prop} {A : Option Addr} {n c k : Nat} {l : List Token} {t : Token} (h : OwnR w base e 3 G (.slice A n c) (l.map Token.gv)) (hn : n = l.length) (hk : l[k]? = some t) :
    ∃ g va, A = some ⟨g, 0, none⟩ ∧ n ≤ c ∧ c ≤ maxLen ∧ base ≤ g ∧ g < w.heap.size ∧ w.cell? ⟨g, k * 3, none⟩ = some (.int .i64 t.kind) ∧ w.cell? ⟨g, k * 3 + 1, none⟩ = some (.string (bs t.text)) ∧ w.cell? ⟨g, k * 3 + 2, none⟩ = some va ∧
      GR w (fun j => G j ∧ some j ≠ some g) (.row 2 (t.attrs.map Pair.gv)) [va] ∧ ∀ j, w.frozen? ⟨g, j, none⟩ = false := by
  subst hn
  obtain ⟨xs, hr, hg⟩ := h
  rw [List.length_map] at hr
  have hk0 := (List.getElem?_eq_some_iff.1 hk).1
  have hr0 := hr
  rcases hr.2 with ⟨_, h0⟩ | ⟨g, cap, cur, hv, hb, hh, hn, hm, _⟩
  · omega
  · injection hv with e1 e2 e3
    subst e1 e3
    obtain ⟨cs, h1, h2, h3⟩ := hg.at_ k (by simpa using hk0)
    have e : (l.map Token.gv)[k]'(by simpa using hk0) = t.gv := by
      rw [List.getElem_map]
      rw [List.getElem?_eq_getElem hk0] at hk
      rw [Option.some.inj hk]
    rw [e] at h1
    obtain ⟨va, rfl, h4⟩ := tok_cells h1
    have hlt := (hr0.lt g rfl)
    refine ⟨g, va, rfl, hn, hm, hlt.1, hlt.2, ?_, ?_, ?_, h4, fun j => hr0.frozenAt j⟩
    · rw [hr0.cellAt _ (by omega)]; exact h3 0 (by omega)
    · rw [hr0.cellAt _ (by omega)]; exact h3 1 (by omega)
    · rw [hr0.cellAt _ (by omega)]; exact h3 2 (by omega)
theorem textSum_known (l : List Token) : textSum (l.map knownF) = textSum l := by
  unfold textSum
  rw [List.map_map]
  congr 1
  apply List.map_congr_left
  intro t _
  simp only [Function.comp]
  unfold knownF
  split <;> rfl
set_option maxRecDepth 20000 in
set_option maxHeartbeats 2000000 in
theorem joined_calls (l : List Token) (v : Value) (F : Nat → Prop) (w : World) (hv : GR w F (.row 3 (l.map Token.gv)) [v]) (hl : l.length ≤ 100000) (hs : textSum l ≤ 100000000) :
    Calls Tryd.prog 41 #[v] w (JoinedPost F l w) := by
  have hcl := clone_calls l v F w hv hl
  obtain ⟨A, c, rfl, hlc, hcm, hop⟩ := toks_open hv
  have HCL := Lib.hid hcl
  clear hop hcm hv hcl hlc
  go_enter Tryd.func41, Tryd.ntmps41
  go_wp2_with fail
  refine HCL.out.mono ?_
  rintro e w1 ⟨v1, rfl, h1, hb1⟩
  obtain ⟨A1, c1, rfl⟩ := h1.form
  rw [List.length_map] at *
  have HO1 := Lib.hid h1
  have HB1 := Lib.hid hb1
  clear h1 hb1 HCL
  go_wp2_with fail
  go_loopw [9] (fun i wr => ∃ k : Nat, k ≤ l.length ∧ i = .int .i64 k ∧ OwnR wr w.heap.size 30 3 (fun g => F g ∧ g < w.heap.size) (.slice A1 l.length c1) (((l.take k).map knownF ++ l.drop k).map Token.gv) ∧ Hid (Below w.heap.size w wr))
    (fun i wr => l.length - (intOf i).toNat)
  case atStart => exact ⟨0, Nat.zero_le _, rfl, by simpa using HO1.out, HB1⟩
  case round =>
    obtain ⟨k, hk, rfl, ho, HB⟩ := hrel
    by_cases hlt : k < l.length
    · have hMl : ((l.take k).map knownF ++ l.drop k).length = l.length := by rw [List.length_append, List.length_map, List.length_take, List.length_drop]; omega
      have hstep := known_step l k hlt
      have hsame := known_same l k hlt
      obtain ⟨g, va, rfl, hlc, hcm, hgb, hgl, t0, t1, t2, hva, hfz⟩ := own_tok_at ho hMl.symm (known_at l k hlt)
      generalize l[k] = t at *
      obtain ⟨AA, ac, rfl, -, -, -⟩ := pairs_open hva
      have z0 := hfz (k * 3)
      have z1 := hfz (k * 3 + 1)
      have z2 := hfz (k * 3 + 2)
      have HST := Lib.hid hstep
      have HSA := Lib.hid hsame
      have HO := Lib.hid ho
      have HML := Lib.hid hMl
      have hk1 : (0 : Int) ≤ (k : Int) := by omega
      have hk2 : (k : Int) < (l.length : Int) := by omega
      have HVA := Lib.hid hva
      clear hstep hsame ho hMl hva hfz HO1 HB1
      have HHB := HB
      by_cases h1 : t.kind = 1
      · have HKN : Hid (knownF t = t) := by unfold Hid knownF; rw [if_pos (.inl h1)]
        have b1 : (t.kind != 1) = false := by rw [h1]; rfl
        clear h1
        go_wp2_with fail
        exact ⟨⟨k + 1, hlt, by go_num, by rw [HSA.out HKN.out]; exact HO.out.below ((Below.refl _ _).alloc (Nat.le_refl _) _), HB.out.alloc HB.out.size _⟩, by simp [intOf]; omega⟩
      · have b1 : (t.kind != 1) = true := by rw [bne_iff_ne]; exact h1
        by_cases h2 : t.kind = 2
        · have HKN : Hid (knownF t = t) := by unfold Hid knownF; rw [if_pos (.inr (.inl h2))]
          have b2 : (t.kind != 2) = false := by rw [h2]; rfl
          clear h1 h2
          go_wp2_with fail
          exact ⟨⟨k + 1, hlt, by go_num, by rw [HSA.out HKN.out]; exact HO.out.below ((Below.refl _ _).alloc (Nat.le_refl _) _), HB.out.alloc HB.out.size _⟩, by simp [intOf]; omega⟩
        · have b2 : (t.kind != 2) = true := by rw [bne_iff_ne]; exact h2
          by_cases h3 : t.kind = 3
          · have HKN : Hid (knownF t = t) := by unfold Hid knownF; rw [if_pos (.inr (.inr h3))]
            have b3 : (t.kind != 3) = false := by rw [h3]; rfl
            clear h1 h2 h3
            go_wp2_with fail
            exact ⟨⟨k + 1, hlt, by go_num, by rw [HSA.out HKN.out]; exact HO.out.below ((Below.refl _ _).alloc (Nat.le_refl _) _), HB.out.alloc HB.out.size _⟩, by simp [intOf]; omega⟩
          · have HKN : Hid (knownF t = textTok t.text) := by unfold Hid knownF; rw [if_neg (by rintro (h | h | h); exact h1 h; exact h2 h; exact h3 h)]
            have b3 : (t.kind != 3) = true := by rw [bne_iff_ne]; exact h3
            clear h1 h2 h3
            go_wp2_with fail
            obtain ⟨ho2, hg2⟩ := own_set3 HO.out (by rw [List.length_map]; exact HML.out.symm) (i := k) (by rw [List.length_map, HML.out]; exact hlt) (textTok t.text).gv (.int .i64 0) (.string (bs t.text)) (.slice none 0 0) (cells_tok gr_nil)
            rw [← List.map_set] at ho2
            have hb2 : Below w.heap.size w (rowSet3 wr g (k * 3) (.int .i64 0) (.string (bs t.text)) (.slice none 0 0)) := HB.out.trans (below_of_grown hg2 HB.out.size (fun j hj => by have hj : g = j := Option.some.inj hj; omega))
            exact ⟨⟨k + 1, hlt, by go_num, by rw [HST.out, HKN.out]; exact ho2.below ((Below.refl _ _).alloc (Nat.le_refl _) _), hb2.alloc hb2.size _⟩, by simp [intOf]; omega⟩
    · have hkl : k = l.length := by omega
      subst hkl
      rw [List.take_length, List.drop_length, List.append_nil] at ho
      have hgr := ho.gr (F := fun j => (F j ∧ j < w.heap.size) ∨ w.heap.size ≤ j) (fun _ h => .inl h) (fun j hj => .inr (ho.lt j hj).1)
      have HGR := Lib.hid hgr
      clear ho hgr HO1 HB1
      go_wp2_with fail
      refine (join_calls (l.map knownF) _ _ wr HGR.out (by rw [List.length_map]; omega) (by rw [textSum_known]; exact hs)).mono ?_
      rintro e w9 ⟨v9, rfl, h9, hb9⟩
      have H9 := Lib.hid h9
      have HB9 := Lib.hid hb9
      clear h9 hb9
      go_wp2_with fail
      go_ret
      exact ⟨v9, rfl, H9.out.gr (fun g hg => hg.1.imp (fun h => h.1) id) (fun g hg => .inr (Nat.le_trans HB.out.size (H9.out.lt g hg).1)), HB.out.trans (HB9.out.mono HB.out.size)⟩
end Go.Proofs.YtijpfcjlochahaaDoor
