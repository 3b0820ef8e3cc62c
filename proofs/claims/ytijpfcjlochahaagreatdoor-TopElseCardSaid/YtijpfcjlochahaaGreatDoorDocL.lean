/- The walks of slices.Clone at tokens, and of joined. The walks of Build and Read. -/
import Derived.Test.YtijpfcjlochahaaGreatDoorDocJ
import Derived.Test.YtijpfcjlochahaaGreatDoorLexJ
set_option linter.unusedVariables false
set_option linter.unusedSimpArgs false
namespace Go.Proofs.YtijpfcjlochahaaGreatDoor
open Go Go.RowKit
set_option linter.unusedVariables false
set_option linter.unusedSimpArgs false

def rowSet3 (W : World) (g o : Nat) (c0 c1 c2 : Value) : World := ((W.setCell ⟨g, o, none⟩ c0).setCell ⟨g, o + 1, none⟩ c1).setCell ⟨g, o + 2, none⟩ c2
theorem GRl.split1 {w : World} {F : Nat → Prop} {sz : Nat} {l : List GV} {xs : List Value} (h : GRl w F sz l xs) {i : Nat} (hi : i < l.length) :
    ∃ a cs b, xs = a ++ (cs ++ b) ∧ a.length = i * sz ∧ cs.length = sz ∧ GRl w F sz (l.take i) a ∧ GRl w F sz (l.drop (i + 1)) b := by
  have e : l = l.take i ++ (l[i] :: l.drop (i + 1)) := by rw [← List.drop_eq_getElem_cons hi, List.take_append_drop]
  rw [e] at h
  obtain ⟨a, b', rfl, h1, h2⟩ := GRl.split h
  obtain ⟨cs, b, rfl, h3, h4, h5⟩ := GRl_cons.1 h2
  refine ⟨a, cs, b, rfl, ?_, h3, h1, h5⟩
  rw [h1.length, List.length_take, Nat.min_eq_left (by omega)]
/-- An element of a row of the call's own is another one. -/
theorem own_set3 {w : World} {base : Nat} {e : TypeId} {G : Nat → Prop} {g n c i : Nat} {l : List GV} (h : OwnR w base e 3 G (.slice (some ⟨g, 0, none⟩) n c) l) (hn : n = l.length) (hi : i < l.length) (x : GV) (c0 c1 c2 : Value)
    (hx : GR w (fun k => G k ∧ some k ≠ some g) x [c0, c1, c2]) :
    OwnR (rowSet3 w g (i * 3) c0 c1 c2) base e 3 G (.slice (some ⟨g, 0, none⟩) n c) (l.set i x) ∧ w.grownBy (rowSet3 w g (i * 3) c0 c1 c2) (some g) := by
  subst hn
  obtain ⟨xs, hr, hg⟩ := h
  obtain ⟨a, cs, b, rfl, ha, hc, h1, h2⟩ := hg.split1 hi
  obtain ⟨z0, z1, z2, rfl⟩ : ∃ z0 z1 z2, cs = [z0, z1, z2] := by
    match cs, hc with
    | [z0, z1, z2], _ => exact ⟨z0, z1, z2, rfl⟩
  obtain ⟨r0, g0⟩ := hr.stored (i * 3) c0
  obtain ⟨r1, g1⟩ := r0.stored (i * 3 + 1) c1
  obtain ⟨r2, g2⟩ := r1.stored (i * 3 + 2) c2
  have hgr : w.grownBy (rowSet3 w g (i * 3) c0 c1 c2) (some g) := grown_trans (grown_trans g0 g1) g2
  refine ⟨⟨a ++ ([c0, c1, c2] ++ b), ?_, ?_⟩, hgr⟩
  · have e1 : ((((a ++ ([z0, z1, z2] ++ b)).set (i * 3) c0).set (i * 3 + 1) c1).set (i * 3 + 2) c2) = a ++ ([c0, c1, c2] ++ b) := by
      rw [← ha]; simp
    rw [e1] at r2
    rw [List.length_set]
    exact r2
  · have e2 : l.set i x = l.take i ++ (x :: l.drop (i + 1)) := List.set_eq_take_append_cons_drop.trans (if_pos hi)
    rw [e2]
    have key : GRl w (fun k => G k ∧ some k ≠ some g) 3 (l.take i ++ (x :: l.drop (i + 1))) (a ++ ([c0, c1, c2] ++ b)) :=
      GRl.append (GRl_cons.2 ⟨_, _, rfl, rfl, hx, h2⟩) h1
    exact GRl.mono (fun _ h => h) (fun k hk hlt => hgr.block k hlt hk.2) 3 _ _ key
def OwnPost (F : Nat → Prop) (l : List Token) (w : World) (e : Ending) (w' : World) : Prop :=
  ∃ v', e = .returned v' ∧ OwnR w' w.heap.size 80 3 (fun g => F g ∧ g < w.heap.size) v' (l.map Token.gv) ∧ Below w.heap.size w w'
set_option maxRecDepth 20000 in
set_option maxHeartbeats 2000000 in
theorem clone_calls (l : List Token) (v : Value) (F : Nat → Prop) (w : World) (hv : GR w F (.row 3 (l.map Token.gv)) [v]) (hl : l.length ≤ 100000) :
    Calls Tryz.prog 66 #[v] w (OwnPost F l w) := by
  obtain ⟨A, c, rfl, hlc, hcm, hop⟩ := toks_open (GR.lt_heap _ _ hv)
  cases A with
  | none =>
    have hl0 : l = [] := Classical.byContradiction fun e => by
      obtain ⟨b, o, h, -⟩ := hop e
      cases h
    subst hl0
    have hq : ∀ W : World, (binOp BinOp.eql 49 (.slice none 0 c) (.slice none 0 0)).run Tryz.prog W = .ok (.bool true) W := fun W => by kernel_rfl
    clear hop hv hcm
    go_enter Tryz.func66, Tryz.ntmps66
    go_wp2_with fail
    go_ret
    exact ⟨_, rfl, OwnR.nil _ _ _ _ _, Below.refl _ _⟩
  | some ad =>
    have HV := Lib.hid hv
    clear hop hv hcm
    have hb1 : Below w.heap.size w (w.alloc (.cells #[] 80)) := (Below.refl _ _).alloc (Nat.le_refl _) _
    have hown : OwnR (w.alloc (.cells #[] 80)) w.heap.size 80 3 (fun g => F g ∧ g < w.heap.size) (.slice (some ⟨w.heap.size, 0, none⟩) 0 0) [] :=
      ⟨[], World.ownsRow_lit w #[] 0 (Nat.le_refl _) (by simp [maxLen]) (by simp), GRl_nil.2 rfl⟩
    obtain ⟨news, hA⟩ := App.of_row (bytes := 48) hown (GR.lt_heap _ _ HV.out) hb1 (fun k hk hlt => ⟨hk, fun e => by have e : k = w.heap.size := Option.some.inj e; omega⟩) (by simp; omega) (by omega) hb1.size
    simp only [List.length_nil, List.length_map, Nat.zero_add] at hA
    have HA := Lib.hid hA
    have HB1 := Lib.hid hb1
    have hq : ∀ W : World, (binOp BinOp.eql 49 (.slice (some ad) l.length c) (.slice none 0 0)).run Tryz.prog W = .ok (.bool false) W := fun W => by kernel_rfl
    clear hA hb1 hown
    go_enter Tryz.func66, Tryz.ntmps66
    go_wp2_with (at_builtin; go_loud (refine HA.out.plain rfl _ _ _ rfl tokTy rfl rfl ?_); intro A5 c5 w5 hown hgr hor; have HO := Lib.hid hown; have HG := Lib.hid hgr; clear hown hgr hor)
    go_ret
    exact ⟨_, rfl, by simpa using HO.out, HB1.out.trans (below_of_grown HG.out HB1.out.size (fun k hk => by have hk : w.heap.size = k := Option.some.inj hk; omega))⟩

/-- What 'joined' leaves. -/
def JoinedPost (F : Nat → Prop) (l : List Token) (w : World) (e : Ending) (w' : World) : Prop := ∃ v', e = .returned v' ∧ GR w' (fun g => F g ∨ w.heap.size ≤ g) (.row 3 ((joinedF l).map Token.gv)) [v'] ∧ Below w.heap.size w w'
theorem known_step (l : List Token) (k : Nat) (h : k < l.length) : (l.take (k + 1)).map knownF ++ l.drop (k + 1) = ((l.take k).map knownF ++ l.drop k).set k (knownF l[k]) := by
  have hl : ((l.take k).map knownF).length = k := by rw [List.length_map, List.length_take]; omega
  have e := List.drop_eq_getElem_cons h
  rw [List.set_append_right _ _ (by omega), hl, Nat.sub_self, e, List.set_cons_zero, List.take_succ_eq_append_getElem h, List.map_append, List.append_assoc]
  rfl
theorem known_at (l : List Token) (k : Nat) (h : k < l.length) : ((l.take k).map knownF ++ l.drop k)[k]? = some l[k] := by
  have hl : ((l.take k).map knownF).length = k := by rw [List.length_map, List.length_take]; omega
  rw [List.getElem?_append_right (by omega), hl, Nat.sub_self]
  simp [h]
theorem known_same (l : List Token) (k : Nat) (h : k < l.length) (hk : knownF l[k] = l[k]) : (l.take (k + 1)).map knownF ++ l.drop (k + 1) = (l.take k).map knownF ++ l.drop k := by
  rw [known_step l k h, hk]
  apply List.ext_getElem?
  intro i
  rw [List.getElem?_set]
  split
  · rename_i e
    subst e
    rw [known_at l k h]
    have hMl : ((l.take k).map knownF ++ l.drop k).length = l.length := by rw [List.length_append, List.length_map, List.length_take, List.length_drop]; omega
    rw [if_pos (by omega)]
  · rfl
/-- A token of a row of the call's own. -/
theorem own_tok_at {w : World} {base : Nat} {e : TypeId} {G : Nat → Prop} {A : Option Addr} {n c k : Nat} {l : List Token} {t : Token} (h : OwnR w base e 3 G (.slice A n c) (l.map Token.gv)) (hn : n = l.length) (hk : l[k]? = some t) :
    ∃ g va, A = some ⟨g, 0, none⟩ ∧ n ≤ c ∧ c ≤ maxLen ∧ base ≤ g ∧ g < w.heap.size ∧ w.cell? ⟨g, k * 3, none⟩ = some (.int .i64 t.kind) ∧ w.cell? ⟨g, k * 3 + 1, none⟩ = some (.string (bs t.text)) ∧ w.cell? ⟨g, k * 3 + 2, none⟩ = some va ∧
      GR w (fun j => G j ∧ some j ≠ some g) (.row 2 (t.attrs.map Pair.gv)) [va] ∧ ∀ j, w.frozen? ⟨g, j, none⟩ = false := by
  subst hn
  obtain ⟨xs, hr, hg⟩ := h
  rw [List.length_map] at hr
  have hk0 := (List.getElem?_eq_some_iff.1 hk).1
  have hr0 := hr
  rcases hr.2 with ⟨_, h0⟩ | ⟨g, cap, cur, hv, hb, hh, hn, hm, _⟩
  · omega
  · injection hv with e1 e2 e3
    subst e1 e3
    obtain ⟨cs, h1, h2, h3⟩ := hg.at_ k (by simpa using hk0)
    have e : (l.map Token.gv)[k]'(by simpa using hk0) = t.gv := by
      rw [List.getElem_map]
      rw [List.getElem?_eq_getElem hk0] at hk
      rw [Option.some.inj hk]
    rw [e] at h1
    obtain ⟨va, rfl, h4⟩ := tok_cells h1
    have hlt := (hr0.lt g rfl)
    refine ⟨g, va, rfl, hn, hm, hlt.1, hlt.2, ?_, ?_, ?_, h4, fun j => hr0.frozenAt j⟩
    · rw [hr0.cellAt _ (by omega)]; exact h3 0 (by omega)
    · rw [hr0.cellAt _ (by omega)]; exact h3 1 (by omega)
    · rw [hr0.cellAt _ (by omega)]; exact h3 2 (by omega)
theorem textSum_known (l : List Token) : textSum (l.map knownF) = textSum l := by
  unfold textSum
  rw [List.map_map]
  congr 1
  apply List.map_congr_left
  intro t _
  simp only [Function.comp]
  unfold knownF
  split <;> rfl
set_option maxRecDepth 20000 in
set_option maxHeartbeats 2000000 in
theorem joined_calls (l : List Token) (v : Value) (F : Nat → Prop) (w : World) (hv : GR w F (.row 3 (l.map Token.gv)) [v]) (hl : l.length ≤ 100000) (hs : textSum l ≤ 100000000) :
    Calls Tryz.prog 42 #[v] w (JoinedPost F l w) := by
  have hcl := clone_calls l v F w hv hl
  obtain ⟨A, c, rfl, hlc, hcm, hop⟩ := toks_open hv
  have HCL := Lib.hid hcl
  clear hop hcm hv hcl hlc
  go_enter Tryz.func42, Tryz.ntmps42
  go_wp2_with fail
  refine HCL.out.mono ?_
  rintro e w1 ⟨v1, rfl, h1, hb1⟩
  obtain ⟨A1, c1, rfl⟩ := h1.form
  rw [List.length_map] at *
  have HO1 := Lib.hid h1
  have HB1 := Lib.hid hb1
  clear h1 hb1 HCL
  go_wp2_with fail
  go_loopw [9] (fun i wr => ∃ k : Nat, k ≤ l.length ∧ i = .int .i64 k ∧ OwnR wr w.heap.size 80 3 (fun g => F g ∧ g < w.heap.size) (.slice A1 l.length c1) (((l.take k).map knownF ++ l.drop k).map Token.gv) ∧ Hid (Below w.heap.size w wr))
    (fun i wr => l.length - (intOf i).toNat)
  case atStart => exact ⟨0, Nat.zero_le _, rfl, by simpa using HO1.out, HB1⟩
  case round =>
    obtain ⟨k, hk, rfl, ho, HB⟩ := hrel
    by_cases hlt : k < l.length
    · have hMl : ((l.take k).map knownF ++ l.drop k).length = l.length := by rw [List.length_append, List.length_map, List.length_take, List.length_drop]; omega
      have hstep := known_step l k hlt
      have hsame := known_same l k hlt
      obtain ⟨g, va, rfl, hlc, hcm, hgb, hgl, t0, t1, t2, hva, hfz⟩ := own_tok_at ho hMl.symm (known_at l k hlt)
      generalize l[k] = t at *
      obtain ⟨AA, ac, rfl, -, -, -⟩ := pairs_open hva
      have z0 := hfz (k * 3)
      have z1 := hfz (k * 3 + 1)
      have z2 := hfz (k * 3 + 2)
      have HST := Lib.hid hstep
      have HSA := Lib.hid hsame
      have HO := Lib.hid ho
      have HML := Lib.hid hMl
      have hk1 : (0 : Int) ≤ (k : Int) := by omega
      have hk2 : (k : Int) < (l.length : Int) := by omega
      have HVA := Lib.hid hva
      clear hstep hsame ho hMl hva hfz HO1 HB1
      have HHB := HB
      by_cases h1 : t.kind = 1
      · have HKN : Hid (knownF t = t) := by unfold Hid knownF; rw [if_pos (.inl h1)]
        have b1 : (t.kind != 1) = false := by rw [h1]; rfl
        clear h1
        go_wp2_with fail
        exact ⟨⟨k + 1, hlt, by go_num, by rw [HSA.out HKN.out]; exact HO.out.below ((Below.refl _ _).alloc (Nat.le_refl _) _), HB.out.alloc HB.out.size _⟩, by simp [intOf]; omega⟩
      · have b1 : (t.kind != 1) = true := by rw [bne_iff_ne]; exact h1
        by_cases h2 : t.kind = 2
        · have HKN : Hid (knownF t = t) := by unfold Hid knownF; rw [if_pos (.inr (.inl h2))]
          have b2 : (t.kind != 2) = false := by rw [h2]; rfl
          clear h1 h2
          go_wp2_with fail
          exact ⟨⟨k + 1, hlt, by go_num, by rw [HSA.out HKN.out]; exact HO.out.below ((Below.refl _ _).alloc (Nat.le_refl _) _), HB.out.alloc HB.out.size _⟩, by simp [intOf]; omega⟩
        · have b2 : (t.kind != 2) = true := by rw [bne_iff_ne]; exact h2
          by_cases h3 : t.kind = 3
          · have HKN : Hid (knownF t = t) := by unfold Hid knownF; rw [if_pos (.inr (.inr h3))]
            have b3 : (t.kind != 3) = false := by rw [h3]; rfl
            clear h1 h2 h3
            go_wp2_with fail
            exact ⟨⟨k + 1, hlt, by go_num, by rw [HSA.out HKN.out]; exact HO.out.below ((Below.refl _ _).alloc (Nat.le_refl _) _), HB.out.alloc HB.out.size _⟩, by simp [intOf]; omega⟩
          · have HKN : Hid (knownF t = textTok t.text) := by unfold Hid knownF; rw [if_neg (by rintro (h | h | h); exact h1 h; exact h2 h; exact h3 h)]
            have b3 : (t.kind != 3) = true := by rw [bne_iff_ne]; exact h3
            clear h1 h2 h3
            go_wp2_with fail
            obtain ⟨ho2, hg2⟩ := own_set3 HO.out (by rw [List.length_map]; exact HML.out.symm) (i := k) (by rw [List.length_map, HML.out]; exact hlt) (textTok t.text).gv (.int .i64 0) (.string (bs t.text)) (.slice none 0 0) (cells_tok gr_nil)
            rw [← List.map_set] at ho2
            have hb2 : Below w.heap.size w (rowSet3 wr g (k * 3) (.int .i64 0) (.string (bs t.text)) (.slice none 0 0)) := HB.out.trans (below_of_grown hg2 HB.out.size (fun j hj => by have hj : g = j := Option.some.inj hj; omega))
            exact ⟨⟨k + 1, hlt, by go_num, by rw [HST.out, HKN.out]; exact ho2.below ((Below.refl _ _).alloc (Nat.le_refl _) _), hb2.alloc hb2.size _⟩, by simp [intOf]; omega⟩
    · have hkl : k = l.length := by omega
      subst hkl
      rw [List.take_length, List.drop_length, List.append_nil] at ho
      have hgr := ho.gr (F := fun j => (F j ∧ j < w.heap.size) ∨ w.heap.size ≤ j) (fun _ h => .inl h) (fun j hj => .inr (ho.lt j hj).1)
      have HGR := Lib.hid hgr
      clear ho hgr HO1 HB1
      go_wp2_with fail
      refine (join_calls (l.map knownF) _ _ wr HGR.out (by rw [List.length_map]; omega) (by rw [textSum_known]; exact hs)).mono ?_
      rintro e w9 ⟨v9, rfl, h9, hb9⟩
      have H9 := Lib.hid h9
      have HB9 := Lib.hid hb9
      clear h9 hb9
      go_wp2_with fail
      go_ret
      exact ⟨v9, rfl, H9.out.gr (fun g hg => hg.1.imp (fun h => h.1) id) (fun g hg => .inr (Nat.le_trans HB.out.size (H9.out.lt g hg).1)), HB.out.trans (HB9.out.mono HB.out.size)⟩
end Go.Proofs.YtijpfcjlochahaaGreatDoor
namespace Go.Proofs.YtijpfcjlochahaaGreatDoor
set_option linter.unusedVariables false
set_option linter.unusedSimpArgs false
open Go Go.RowKit

theorem foldl_attrs {N : Nat} : ∀ (l o : List Token), (∀ x ∈ o, x.attrs.length ≤ N) → (∀ x ∈ l, x.attrs.length ≤ N) → ∀ x ∈ l.foldl joinStep o, x.attrs.length ≤ N
  | [], _, h, _ => h
  | t :: l, o, h, hk => by
    refine foldl_attrs l _ ?_ (fun x hx => hk x (by simp [hx]))
    have ht := hk t (by simp)
    have hs : ∀ x ∈ o ++ [t], x.attrs.length ≤ N := by
      intro x hx
      rcases List.mem_append.1 hx with h1 | h1
      · exact h x h1
      · rw [List.mem_singleton] at h1; subst h1; exact ht
    unfold joinStep
    split
    · exact hs
    · split
      · exact h
      · rcases List.eq_nil_or_concat o with rfl | ⟨l', u, rfl⟩
        · exact hs
        · rw [List.concat_eq_append] at h hs ⊢
          simp only [List.getLast?_append, List.getLast?_singleton, Option.some_or]
          split
          · rw [List.dropLast_concat]
            intro x hx
            rcases List.mem_append.1 hx with h1 | h1
            · exact h x (by simp [h1])
            · rw [List.mem_singleton] at h1; subst h1
              exact h u (by simp)
          · exact hs
theorem known_attrs (t : Token) : (knownF t).attrs.length ≤ t.attrs.length := by
  unfold knownF
  split
  · exact Nat.le_refl _
  · exact Nat.zero_le _
theorem joinedF_attrs {N : Nat} {l : List Token} (h : ∀ x ∈ l, x.attrs.length ≤ N) : ∀ x ∈ joinedF l, x.attrs.length ≤ N := by
  refine foldl_attrs _ [] (by simp) fun x hx => ?_
  obtain ⟨y, hy, rfl⟩ := List.mem_map.1 hx
  exact Nat.le_trans (known_attrs y) (h y hy)
theorem joinedF_len (l : List Token) : (joinedF l).length ≤ l.length := by
  have := joinF_len (l.map knownF)
  rw [List.length_map] at this
  exact this
theorem joinedF_sum (l : List Token) : textSum (joinedF l) ≤ textSum l := by
  rw [← textSum_known l]
  exact joinF_sum _
/-- How much a stack holds at most. -/
def Bd (n : Nat) (st : List Level) : Prop := st.length ≤ 17 ∧ ∀ x ∈ st, x.e.kids.length ≤ n
theorem Bd.put {n : Nat} {st : List Level} {e : Elem} (h : Bd n st) : Bd (n + 1) (putF st e) := by
  cases st with
  | nil => exact ⟨by simp [putF], by simp [putF]⟩
  | cons t r =>
    refine ⟨?_, ?_⟩
    · have := h.1
      simp only [putF, List.length_cons] at this ⊢
      omega
    · intro x hx
      simp only [putF, List.mem_cons] at hx
      rcases hx with rfl | hx
      · have := h.2 t (by simp)
        show (putK t.e e).kids.length ≤ _
        unfold putK
        split
        · omega
        · rw [Elem.kids_setKids, List.length_append]
          simp; omega
      · have := h.2 x (by simp [hx])
        omega
theorem Bd.more {n : Nat} {st : List Level} (h : Bd n st) : Bd (n + 1) st := ⟨by have := h.1; omega, fun x hx => by have := h.2 x hx; omega⟩
theorem putF_ne {st : List Level} {e : Elem} (h : st ≠ []) : putF st e ≠ [] := by
  cases st with
  | nil => exact absurd rfl h
  | cons t r => simp [putF]
theorem takeTok_bd {n : Nat} {st : List Level} {t : Token} (h : Bd n st) (hne : st ≠ []) : Bd (n + 1) (takeTok st t).1 ∧ (takeTok st t).1 ≠ [] := by
  obtain ⟨u, r, rfl⟩ := List.exists_cons_of_ne_nil hne
  unfold takeTok
  split
  · unfold beginF
    cases hq : ruleF t.text with
    | none => exact ⟨h.more, hne⟩
    | some q =>
      simp only
      split
      · exact ⟨h.more, hne⟩
      · cases ha : attrsF q.kind (elem0 q.kind) [] t.attrs with
        | none => exact ⟨h.more, hne⟩
        | some e =>
          simp only
          split
          · exact ⟨h.more, hne⟩
          · split
            · exact ⟨h.more, hne⟩
            · split
              · exact ⟨h.put, putF_ne hne⟩
              · split
                · exact ⟨h.more, hne⟩
                · rename_i hd
                  refine ⟨⟨by simp only [List.length_cons] at hd ⊢; omega, fun x hx => ?_⟩, by simp⟩
                  rcases List.mem_cons.1 hx with rfl | hx
                  · show (hardF q.kind e).kids.length ≤ _
                    rw [hard_kids ha]; simp
                  · have := h.2 x hx; omega
  · split
    · unfold closeF
      cases hq : ruleF t.text with
      | none => exact ⟨h.more, hne⟩
      | some q =>
        simp only
        split
        · exact ⟨h.more, hne⟩
        · split
          · exact ⟨h.more, hne⟩
          · rename_i hc
            have hr : r ≠ [] := fun e => hc (.inl e)
            have h2 : Bd n r := ⟨by have := h.1; simp only [List.length_cons] at this; omega, fun x hx => h.2 x (by simp [hx])⟩
            exact ⟨h2.put, putF_ne hr⟩
    · unfold wordF
      simp only
      split
      · exact ⟨h.more, hne⟩
      · exact ⟨h.put, putF_ne hne⟩
/-- What 'Build' leaves. -/
def BuildPost (r : List Elem × Int) (w : World) (e : Ending) (w' : World) : Prop :=
  ∃ v, e = .returned (.tuple #[v, .int .i64 r.2]) ∧ GR w' (fun g => w.heap.size ≤ g) (.row 7 (r.1.map Elem.gv)) [v] ∧ Below w.heap.size w w'
theorem buildF_bad {l : List Token} (h : (buildLoop 0 [page0] (joinedF l)).2 ≠ 0) : buildF l = ([], (buildLoop 0 [page0] (joinedF l)).2) := by
  unfold buildF
  simp only
  rw [if_pos h]

theorem buildF_one {l : List Token} {p : Level} (h : buildLoop 0 [page0] (joinedF l) = ([p], 0)) : buildF l = (p.e.kids, 0) := by
  unfold buildF
  simp only [h]
  rw [if_neg (by simp)]
theorem buildF_many {l : List Token} {z : List Level} (h : buildLoop 0 [page0] (joinedF l) = (z, 0)) (hne : z.length ≠ 1) : buildF l = ([], 42) := by
  unfold buildF
  simp only [h]
  rw [if_neg (by simp)]
  match z, hne with
  | [], _ => rfl
  | [p], hne => exact absurd rfl hne
  | _ :: _ :: _, _ => rfl
theorem bld_new (w : World) : Bld ((w.alloc (.cells #[.int .i64 0, .string ⟨#[]⟩, .string ⟨#[]⟩, .string ⟨#[]⟩, .bool false, .string ⟨#[]⟩, .slice none 0 0, .string ⟨#[]⟩] 90)).alloc (.cells #[.slice (some ⟨w.heap.size, 0, none⟩) 1 1, .int .i64 0] 86)) w.heap.size (w.heap.size + 1) (.slice (some ⟨w.heap.size, 0, none⟩) 1 1) [page0] [.slice none 0 0] (fun _ => none) := by
  have h1 := Blk.new (w.alloc (.cells #[.int .i64 0, .string ⟨#[]⟩, .string ⟨#[]⟩, .string ⟨#[]⟩, .bool false, .string ⟨#[]⟩, .slice none 0 0, .string ⟨#[]⟩] 90)) 86 #[.slice (some ⟨w.heap.size, 0, none⟩) 1 1, .int .i64 0]
  rw [size_alloc] at h1
  have h2 : (w.alloc (.cells #[.int .i64 0, .string ⟨#[]⟩, .string ⟨#[]⟩, .string ⟨#[]⟩, .bool false, .string ⟨#[]⟩, .slice none 0 0, .string ⟨#[]⟩] 90)).ownsRow w.heap.size 90 8 (.slice (some ⟨w.heap.size, 0, none⟩) 1 1) 1 (stkCells [page0] [.slice none 0 0]) := World.ownsRow_lit w _ 1 (Nat.le_refl _) (by simp [maxLen]) rfl
  refine ⟨h1, ⟨rfl, h2.alloc _, fun i x kv e1 e2 => ?_, fun _ _ => rfl, fun _ _ h => by cases h⟩, rfl, fun e => ?_⟩
  · cases i with
    | zero =>
      have e1 : page0 = x := Option.some.inj e1
      have e2 : Value.slice none 0 0 = kv := Option.some.inj e2
      subst e1 e2
      exact ⟨OwnR.nil _ _ _ _ _, fun k h => by cases h⟩
    | succ i => cases e1
  · have e : w.heap.size = w.heap.size + 1 := Option.some.inj e
    omega
set_option maxRecDepth 20000 in
set_option maxHeartbeats 4000000 in
theorem build_calls (l : List Token) (v : Value) (F : Nat → Prop) (w : World) (hv : GR w F (.row 3 (l.map Token.gv)) [v]) (hl : l.length ≤ 100000) (hs : textSum l ≤ 100000000) (hat : ∀ t ∈ l, t.attrs.length ≤ 100000) :
    Calls Tryz.prog 20 #[v] w (BuildPost (buildF l) w) := by
  obtain ⟨A, c, rfl, -, -, -⟩ := toks_open hv
  have HV := Lib.hid (GR.lt_heap _ _ hv)
  clear hv
  have hmk : ∀ W : World, (Instr.makeSlice 84 (.int .i64 1) (.int .i64 1)).run Tryz.prog W = .ok (.slice (some ⟨W.heap.size, 0, none⟩) 1 1) (W.alloc (.cells #[.int .i64 0, .string ⟨#[]⟩, .string ⟨#[]⟩, .string ⟨#[]⟩, .bool false, .string ⟨#[]⟩, .slice none 0 0, .string ⟨#[]⟩] 90)) := fun _ => by kernel_rfl
  go_enter Tryz.func20, Tryz.ntmps20
  go_upto_region 2 with (fail)
  have hbn := bld_new w
  obtain ⟨w1, hw1⟩ : ∃ w1, w1 = (w.alloc (.cells #[.int .i64 0, .string ⟨#[]⟩, .string ⟨#[]⟩, .string ⟨#[]⟩, .bool false, .string ⟨#[]⟩, .slice none 0 0, .string ⟨#[]⟩] 90)).alloc (.cells #[.slice (some ⟨w.heap.size, 0, none⟩) 1 1, .int .i64 0] 86) := ⟨_, rfl⟩
  rw [← hw1] at hbn ⊢
  have hb1 : Below w.heap.size w w1 := by rw [hw1]; exact ((Below.refl _ _).alloc (Nat.le_refl _) _).alloc (by rw [size_alloc]; omega) _
  have hs1 : w1.heap.size = w.heap.size + 2 := by rw [hw1, size_alloc, size_alloc]
  have HBN := Lib.hid hbn
  have HB1 := Lib.hid hb1
  have HS1 := Lib.hid hs1
  have HV1 := Lib.hid (HV.out.below hb1)
  clear hmk hw1 hbn hb1 hs1 HV
  go_wp2_with fail
  refine (joined_calls l _ _ w1 HV1.out hl hs).mono ?_
  rintro e w2 ⟨vj, rfl, hgj, hb2⟩
  have hgj2 := hgj.weaken (F' := fun g => g < w.heap.size ∨ w.heap.size + 2 ≤ g) (fun k hk => hk.imp (fun h => h.2) (fun h => by rw [HS1.out] at h; exact h))
  have HJL := Lib.hid (joinedF_len l)
  have HJS := Lib.hid (joinedF_sum l)
  have HJA := Lib.hid (joinedF_attrs hat)
  have HBF : Hid (∀ z, buildLoop 0 [page0] (joinedF l) = z → z.2 ≠ 0 → buildF l = ([], z.2)) := fun z hz hne => by rw [← hz]; exact buildF_bad (by rw [hz]; exact hne)
  have HBO : Hid (∀ p, buildLoop 0 [page0] (joinedF l) = ([p], 0) → buildF l = (p.e.kids, 0)) := fun p hz => buildF_one hz
  have HBM : Hid (∀ z, buildLoop 0 [page0] (joinedF l) = (z, 0) → z.length ≠ 1 → buildF l = ([], 42)) := fun z hz hne => buildF_many hz hne
  have HBN2 := Lib.hid (HBN.out.below (hb2.mono (by have := hb2.size; omega)))
  have HB2 : Hid (Below w.heap.size w w2) := HB1.out.trans (hb2.mono (by rw [HS1.out]; omega))
  have HS2 : Hid (w.heap.size + 2 ≤ w2.heap.size) := by have := hb2.size; rw [HS1.out] at this; exact this
  generalize joinedF l = J at *
  obtain ⟨AJ, cJ, rfl, -, -, -⟩ := toks_open hgj
  have HGJ := Lib.hid hgj2
  clear hgj hgj2 hb2 HBN HB1 HV1
  generalize buildF l = R at *
  go_wp2_with fail
  go_loopw [15] (fun i wr => ∃ (k : Nat) (st : List Level) (v : Value) (kvs : List Value) (own : Nat → Option Nat), k ≤ J.length ∧ i = .int .i64 k ∧ st ≠ [] ∧ k ≤ 400 ∧ Hid (Bd k st) ∧ Hid (Bld wr w.heap.size (w.heap.size + 1) v st.reverse kvs own) ∧
      Hid (buildLoop 0 [page0] J = buildLoop k st (J.drop k)) ∧ Hid (Fr w2 wr (w.heap.size + 1) (.slice (some ⟨w.heap.size, 0, none⟩) 1 1) (fun _ => none) v own (fun _ => False)) ∧ Hid (Below w.heap.size w wr) ∧ Hid (w2.heap.size ≤ wr.heap.size))
    (fun i wr => J.length - (intOf i).toNat)
  case atStart => exact ⟨0, [page0], _, _, _, Nat.zero_le _, rfl, by simp, by omega, ⟨by simp, by simp [page0, elem0, Elem.kids]⟩, HBN2.out, rfl, fr_below (Below.refl _ _), HB2, Nat.le_refl _⟩
  case round =>
    obtain ⟨k, st, v, kvs, own, hk, rfl, hne, hk4, HBD, HBL, HLP, HFR, HB, HSZ⟩ := hrel
    by_cases hlt : k < J.length
    · have hgr : GR wr (fun g => g < w.heap.size ∨ w.heap.size + 2 ≤ g) (.row 3 (J.map Token.gv)) [.slice AJ J.length cJ] := by
        refine GR.mono (fun _ h => h) (fun j hj hlt2 => (HFR.out j hlt2 ?_ id).1) _ _ HGJ.out
        rintro (e | e | e)
        · exact e rfl
        · have e : w.heap.size = j := Option.some.inj e
          omega
        · omega
      obtain ⟨A', c', hv', hcap, -, hop⟩ := toks_open hgr
      injection hv' with e1 e2 e3
      subst e1 e3
      obtain ⟨b, o, rfl, -, hop⟩ := hop (by rintro e; rw [e] at hlt; simp at hlt)
      obtain ⟨va, t0, t1, t2, hva⟩ := hop k hlt
      have hdr : J.drop k = J[k] :: J.drop (k + 1) := List.drop_eq_getElem_cons hlt
      have htl : J[k].text.length ≤ 100000000 := by
        have h1 := textSum_take J k hlt
        have h2 := HJS.out
        omega
      have hta := HJA.out J[k] (List.getElem_mem hlt)
      rw [hdr] at HLP
      generalize J[k] = t at *
      have HLP2 : Hid (buildLoop 0 [page0] J = if 400 ≤ k then (st, 4) else if (takeTok st t).2 ≠ 0 then takeTok st t else buildLoop (k + 1) (takeTok st t).1 (J.drop (k + 1))) := HLP.out
      have HBD2 := Lib.hid (takeTok_bd (t := t) HBD.out hne)
      obtain ⟨Aa, ca, rfl, -, -, -⟩ := pairs_open hva
      have HVA := Lib.hid hva
      have hk1 : (0 : Int) ≤ (k : Int) := by omega
      have hk2 : (k : Int) < (J.length : Int) := by omega
      clear hop hgr hva hdr HLP
      go_upto_region 5 with (fail)
      have hal : Below wr.heap.size wr (wr.alloc (.cells #[.int .i64 t.kind, .string (bs t.text), .slice Aa t.attrs.length ca] 80)) := (Below.refl _ _).alloc (Nat.le_refl _) _
      have hX5 := Blk.new wr 80 #[.int .i64 t.kind, .string (bs t.text), .slice Aa t.attrs.length ca]
      generalize wr.alloc (.cells #[.int .i64 t.kind, .string (bs t.text), .slice Aa t.attrs.length ca] 80) = w5 at *
      have HB5 := Lib.hid (HB.out.trans (hal.mono HB.out.size))
      obtain ⟨u, r, rfl⟩ := List.exists_cons_of_ne_nil hne
      have hbl5 := HBL.out.below hal
      rw [List.reverse_cons] at hbl5
      have HBL5 := Lib.hid hbl5
      have HVA5 := Lib.hid (HVA.out.below hal)
      have HFR5 := Lib.hid (HFR.out.trans (fr_below (T := fun _ => False) hal) HSZ.out (fun _ _ h => h))
      have HSZ5 : Hid (w2.heap.size ≤ w5.heap.size ∧ w.heap.size ≤ w5.heap.size) := ⟨Nat.le_trans HSZ.out hal.size, Nat.le_trans HB.out.size hal.size⟩
      have x0 := hX5.cell 0
      have x1 := hX5.cell 1
      have x2 := hX5.cell 2
      have hrl : r.length ≤ 100 := by have := HBD.out.1; rw [List.length_cons] at this; omega
      have hku := HBD.out.2 u (by simp)
      have HKA : Hid (∀ x, x ∈ u :: r → x.e.kids.length ≤ 10000) := fun x hx => by have := HBD.out.2 x hx; omega
      clear t0 t1 t2 hal hX5 hbl5 HBL HVA HB hne HBD HFR
      generalize wr.heap.size = X at *
      have hcb : w.heap.size ≤ w.heap.size + 1 := Nat.le_succ _
      have hkk : u.e.kids.length ≤ 10000 := by omega
      by_cases h1 : t.kind = 1
      · have h2 : True := trivial
        have h3 : True := trivial
        have b1 : (t.kind == 1) = true := by rw [h1]; rfl
        have HT : Hid (takeTok (u :: r) t = beginF (u :: r) t) := by unfold takeTok; rw [if_pos (.inl h1)]; rfl
        clear h1 h2 h3
        by_cases h400 : 400 ≤ k
        · have HR := Lib.hid (HBF.out _ (HLP2.out.trans (if_pos h400)) (show (4 : Int) ≠ 0 by decide))
          go_wp2_with fail
          go_ret2
          exact ⟨_, by rw [HR.out]; rfl, by rw [HR.out]; exact gr_nil, HB5.out⟩
        · have HLP3 := Lib.hid (HLP2.out.trans (if_neg h400))
          have hk5 : k + 1 ≤ 400 := by omega
          go_wp2_with fail
          refine (begin_calls t (.slice Aa t.attrs.length ca) w5 HBL5.out hrl hkk hcb htl HVA5.out hta).mono ?_
          rw [← HT.out]
          rintro e w6 ⟨rfl, ⟨v6, kvs6, own6, h6, hf6⟩, hb6⟩
          have HFR6 := Lib.hid (HFR5.out.trans hf6 HSZ5.out.1 (fun _ _ h => h))
          have HB6 := Lib.hid (HB5.out.trans hb6)
          have HS6 : Hid (w5.heap.size ≤ w6.heap.size) := hb6.size
          have HBL6 := Lib.hid h6
          clear h6 hf6 hb6 x0 x1 x2
          obtain ⟨er, her⟩ : ∃ er, er = (takeTok (u :: r) t).2 := ⟨_, rfl⟩
          rw [← her]
          have HER := Lib.hid her.symm
          clear her
          by_cases he : er = 0
          · have hbe : (er != 0) = false := by rw [he]; rfl
            have HLP4 := Lib.hid (HLP3.out.trans (if_neg (by rw [HER.out, he]; simp)))
            clear he
            go_wp2_with fail
            exact ⟨⟨k + 1, (takeTok (u :: r) t).1, v6, kvs6, own6, hlt, by go_num, HBD2.out.2, hk5, HBD2.out.1, HBL6.out, HLP4.out, HFR6.out, HB6.out, Nat.le_trans HSZ5.out.1 HS6.out⟩, by simp [intOf]; omega⟩
          · have hbe : (er != 0) = true := by rw [bne_iff_ne]; exact he
            have HR := Lib.hid (HBF.out _ (HLP3.out.trans (if_pos (by rw [HER.out]; exact he))) (by rw [HER.out]; exact he))
            rw [HER.out] at HR
            clear he
            go_wp2_with fail
            go_ret2
            exact ⟨_, by rw [HR.out]; rfl, by rw [HR.out]; exact gr_nil, HB6.out⟩
      · have b1 : (t.kind == 1) = false := by rw [beq_eq_false_iff_ne]; exact h1
        by_cases h3 : t.kind = 3
        · have h2 : True := trivial
          have b3 : (t.kind == 3) = true := by rw [h3]; rfl
          have HT : Hid (takeTok (u :: r) t = beginF (u :: r) t) := by unfold takeTok; rw [if_pos (.inr h3)]; rfl
          clear h1 h2 h3
          by_cases h400 : 400 ≤ k
          · have HR := Lib.hid (HBF.out _ (HLP2.out.trans (if_pos h400)) (show (4 : Int) ≠ 0 by decide))
            go_wp2_with fail
            go_ret2
            exact ⟨_, by rw [HR.out]; rfl, by rw [HR.out]; exact gr_nil, HB5.out⟩
          · have HLP3 := Lib.hid (HLP2.out.trans (if_neg h400))
            have hk5 : k + 1 ≤ 400 := by omega
            go_wp2_with fail
            refine (begin_calls t (.slice Aa t.attrs.length ca) w5 HBL5.out hrl hkk hcb htl HVA5.out hta).mono ?_
            rw [← HT.out]
            rintro e w6 ⟨rfl, ⟨v6, kvs6, own6, h6, hf6⟩, hb6⟩
            have HFR6 := Lib.hid (HFR5.out.trans hf6 HSZ5.out.1 (fun _ _ h => h))
            have HB6 := Lib.hid (HB5.out.trans hb6)
            have HS6 : Hid (w5.heap.size ≤ w6.heap.size) := hb6.size
            have HBL6 := Lib.hid h6
            clear h6 hf6 hb6 x0 x1 x2
            obtain ⟨er, her⟩ : ∃ er, er = (takeTok (u :: r) t).2 := ⟨_, rfl⟩
            rw [← her]
            have HER := Lib.hid her.symm
            clear her
            by_cases he : er = 0
            · have hbe : (er != 0) = false := by rw [he]; rfl
              have HLP4 := Lib.hid (HLP3.out.trans (if_neg (by rw [HER.out, he]; simp)))
              clear he
              go_wp2_with fail
              exact ⟨⟨k + 1, (takeTok (u :: r) t).1, v6, kvs6, own6, hlt, by go_num, HBD2.out.2, hk5, HBD2.out.1, HBL6.out, HLP4.out, HFR6.out, HB6.out, Nat.le_trans HSZ5.out.1 HS6.out⟩, by simp [intOf]; omega⟩
            · have hbe : (er != 0) = true := by rw [bne_iff_ne]; exact he
              have HR := Lib.hid (HBF.out _ (HLP3.out.trans (if_pos (by rw [HER.out]; exact he))) (by rw [HER.out]; exact he))
              rw [HER.out] at HR
              clear he
              go_wp2_with fail
              go_ret2
              exact ⟨_, by rw [HR.out]; rfl, by rw [HR.out]; exact gr_nil, HB6.out⟩
        · have b3 : (t.kind == 3) = false := by rw [beq_eq_false_iff_ne]; exact h3
          by_cases h2 : t.kind = 2
          · have b2 : (t.kind == 2) = true := by rw [h2]; rfl
            have HT : Hid (takeTok (u :: r) t = closeF (u :: r) t) := by unfold takeTok; rw [if_neg (by rintro (h | h); exact h1 h; exact h3 h), if_pos h2]; rfl
            clear h1 h2 h3
            by_cases h400 : 400 ≤ k
            · have HR := Lib.hid (HBF.out _ (HLP2.out.trans (if_pos h400)) (show (4 : Int) ≠ 0 by decide))
              go_wp2_with fail
              go_ret2
              exact ⟨_, by rw [HR.out]; rfl, by rw [HR.out]; exact gr_nil, HB5.out⟩
            · have HLP3 := Lib.hid (HLP2.out.trans (if_neg h400))
              have hk5 : k + 1 ≤ 400 := by omega
              go_wp2_with fail
              refine (close_calls t (.slice Aa t.attrs.length ca) w5 HBL5.out hrl HKA.out hcb htl).mono ?_
              rw [← HT.out]
              rintro e w6 ⟨rfl, ⟨v6, kvs6, own6, h6, hf6⟩, hb6⟩
              have HFR6 := Lib.hid (HFR5.out.trans hf6 HSZ5.out.1 (fun _ _ h => h))
              have HB6 := Lib.hid (HB5.out.trans hb6)
              have HS6 : Hid (w5.heap.size ≤ w6.heap.size) := hb6.size
              have HBL6 := Lib.hid h6
              clear h6 hf6 hb6 x0 x1 x2
              obtain ⟨er, her⟩ : ∃ er, er = (takeTok (u :: r) t).2 := ⟨_, rfl⟩
              rw [← her]
              have HER := Lib.hid her.symm
              clear her
              by_cases he : er = 0
              · have hbe : (er != 0) = false := by rw [he]; rfl
                have HLP4 := Lib.hid (HLP3.out.trans (if_neg (by rw [HER.out, he]; simp)))
                clear he
                go_wp2_with fail
                exact ⟨⟨k + 1, (takeTok (u :: r) t).1, v6, kvs6, own6, hlt, by go_num, HBD2.out.2, hk5, HBD2.out.1, HBL6.out, HLP4.out, HFR6.out, HB6.out, Nat.le_trans HSZ5.out.1 HS6.out⟩, by simp [intOf]; omega⟩
              · have hbe : (er != 0) = true := by rw [bne_iff_ne]; exact he
                have HR := Lib.hid (HBF.out _ (HLP3.out.trans (if_pos (by rw [HER.out]; exact he))) (by rw [HER.out]; exact he))
                rw [HER.out] at HR
                clear he
                go_wp2_with fail
                go_ret2
                exact ⟨_, by rw [HR.out]; rfl, by rw [HR.out]; exact gr_nil, HB6.out⟩
          · have b2 : (t.kind == 2) = false := by rw [beq_eq_false_iff_ne]; exact h2
            have HT : Hid (takeTok (u :: r) t = wordF (u :: r) t) := by unfold takeTok; rw [if_neg (by rintro (h | h); exact h1 h; exact h3 h), if_neg h2]; rfl
            clear h1 h2 h3
            by_cases h400 : 400 ≤ k
            · have HR := Lib.hid (HBF.out _ (HLP2.out.trans (if_pos h400)) (show (4 : Int) ≠ 0 by decide))
              go_wp2_with fail
              go_ret2
              exact ⟨_, by rw [HR.out]; rfl, by rw [HR.out]; exact gr_nil, HB5.out⟩
            · have HLP3 := Lib.hid (HLP2.out.trans (if_neg h400))
              have hk5 : k + 1 ≤ 400 := by omega
              go_wp2_with fail
              refine (word_calls t (.slice Aa t.attrs.length ca) w5 HBL5.out hrl hkk hcb htl).mono ?_
              rw [← HT.out]
              rintro e w6 ⟨rfl, ⟨v6, kvs6, own6, h6, hf6⟩, hb6⟩
              have HFR6 := Lib.hid (HFR5.out.trans hf6 HSZ5.out.1 (fun _ _ h => h))
              have HB6 := Lib.hid (HB5.out.trans hb6)
              have HS6 : Hid (w5.heap.size ≤ w6.heap.size) := hb6.size
              have HBL6 := Lib.hid h6
              clear h6 hf6 hb6 x0 x1 x2
              obtain ⟨er, her⟩ : ∃ er, er = (takeTok (u :: r) t).2 := ⟨_, rfl⟩
              rw [← her]
              have HER := Lib.hid her.symm
              clear her
              by_cases he : er = 0
              · have hbe : (er != 0) = false := by rw [he]; rfl
                have HLP4 := Lib.hid (HLP3.out.trans (if_neg (by rw [HER.out, he]; simp)))
                clear he
                go_wp2_with fail
                exact ⟨⟨k + 1, (takeTok (u :: r) t).1, v6, kvs6, own6, hlt, by go_num, HBD2.out.2, hk5, HBD2.out.1, HBL6.out, HLP4.out, HFR6.out, HB6.out, Nat.le_trans HSZ5.out.1 HS6.out⟩, by simp [intOf]; omega⟩
              · have hbe : (er != 0) = true := by rw [bne_iff_ne]; exact he
                have HR := Lib.hid (HBF.out _ (HLP3.out.trans (if_pos (by rw [HER.out]; exact he))) (by rw [HER.out]; exact he))
                rw [HER.out] at HR
                clear he
                go_wp2_with fail
                go_ret2
                exact ⟨_, by rw [HR.out]; rfl, by rw [HR.out]; exact gr_nil, HB6.out⟩
    · have hkl : k = J.length := by omega
      subst hkl
      have hlp : buildLoop 0 [page0] J = (st, 0) := by rw [HLP.out, List.drop_length]; rfl
      have HLP2 := Lib.hid hlp
      clear hlp HLP
      obtain ⟨u, r, rfl⟩ := List.exists_cons_of_ne_nil hne
      have hbl := HBL.out
      rw [List.reverse_cons] at hbl
      obtain ⟨sb, cap, rfl, hcap, hcm, hsb, hbs⟩ := hbl.form
      rw [List.length_reverse] at *
      have b0 := hbl.blk.cell 0
      have hrl : r.length ≤ 100 := by have := HBD.out.1; rw [List.length_cons] at this; omega
      by_cases hr0 : r = []
      · subst hr0
        obtain ⟨kvr, kv, rfl, hkr⟩ := hbl.kid
        have hkr0 : kvr = [] := List.eq_nil_of_length_eq_zero hkr
        subst hkr0
        obtain ⟨hkid, hkown⟩ := hbl.stk.kid 0 u kv rfl rfl
        obtain ⟨Ak, ck, rfl⟩ := hkid.form
        rw [List.length_map] at *
        have hrow := hbl.stk.row
        have k6 : wr.cell? ⟨sb, 6, none⟩ = some (.slice Ak u.e.kids.length ck) := by
          rw [hrow.cellAt 6 (by simp)]; rfl
        have hres := hkid.gr (F := fun g => w.heap.size ≤ g) (fun g hg => (hbl.stk.lt g 0 hg).1) (fun g hg => (hbl.stk.lt g 0 (hkown g hg)).1)
        have HR := Lib.hid (HBO.out u HLP2.out)
        have HRES := Lib.hid hres
        have HSB := Lib.hid hcap
        clear hrow hkid hkown hbl hres hcap
        go_wp2_with fail
        refine (top_calls (n := 0) wr b0 HSB.out (by omega)).mono ?_
        rintro e w9 ⟨rfl, m, hw9⟩
        have hb9 : Below wr.heap.size wr w9 := by rw [hw9]; exact below_drewN (Below.refl _ _) m
        have k69 : w9.cell? ⟨sb, 6, none⟩ = some (.slice Ak u.e.kids.length ck) := by rw [hw9]; exact k6
        have HB9 := Lib.hid hb9
        clear hb9 hw9 k6 b0
        go_wp2_with fail
        go_ret2
        exact ⟨_, by rw [HR.out]; rfl, by rw [HR.out]; exact HRES.out.below HB9.out, HB.out.trans (HB9.out.mono HB.out.size)⟩
      · have HR := Lib.hid (HBM.out _ HLP2.out (by have := List.length_pos_iff.2 hr0; rw [List.length_cons]; omega))
        have hd : decide ((1 : Int) < (r.length : Int) + 1) = true := by have := List.length_pos_iff.2 hr0; rw [decide_eq_true_iff]; omega
        clear hbl
        go_wp2_with fail
        go_ret2
        exact ⟨_, by rw [HR.out]; rfl, by rw [HR.out]; exact gr_nil, HB.out⟩

/-- A tag has eight attributes at most. -/
theorem tagRest_attrs : ∀ {n : Nat} {nm : List UInt8} {at_ : List Pair} {r : List UInt8} {k : Nat} {t : Token} {r' : List UInt8} {k' : Nat}, at_.length ≤ 8 → tagRest n nm at_ r k = .ok t r' k' → t.attrs.length ≤ 8
  | 0, _, _, _, _, _, _, _, _, h => by simp [tagRest] at h
  | n + 1, nm, at_, r, k, t, r', k', ha, h => by
    rw [tagRest] at h
    obtain ⟨gap, r1, k1, h1, h2⟩ := Out.bind_ok h
    obtain ⟨c, r2, k2, h3, h4⟩ := Out.bind_ok h2
    unfold tagTail at h4
    split at h4
    · injection h4 with b1; subst b1; exact ha
    · split at h4
      · obtain ⟨_, r5, k5, h5, h6⟩ := Out.bind_ok h4
        injection h6 with b1; subst b1; exact ha
      · split at h4
        · cases h4
        · obtain ⟨a, r5, k5, h5, h6⟩ := Out.bind_ok h4
          obtain ⟨_, r6, k6, h7, h8⟩ := Out.bind_ok h6
          unfold tagEq at h8
          split at h8
          · cases h8
          · rename_i hc
            unfold tagVal at h8
            obtain ⟨_, r9, k9, h9, h10⟩ := Out.bind_ok h8
            obtain ⟨v, r11, k11, h11, h12⟩ := Out.bind_ok h10
            obtain ⟨_, r13, k13, h13, h14⟩ := Out.bind_ok h12
            refine tagRest_attrs ?_ h14
            simp only [Bool.or_eq_true, decide_eq_true_eq, not_or] at hc
            rw [List.length_append]; simp; omega
theorem tagF_attrs {m s : List UInt8} {k0 : Nat} {t : Token} {r : List UInt8} {k : Nat} (h : tagF m s k0 = .ok t r k) : t.attrs.length ≤ 8 := by
  rw [tagF] at h
  obtain ⟨_, r1, k1, h1, h2⟩ := Out.bind_ok h
  obtain ⟨nm, r3, k3, h3, h4⟩ := Out.bind_ok h2
  split at h4
  · obtain ⟨_, r5, k5, h5, h6⟩ := Out.bind_ok h4
    obtain ⟨_, r7, k7, h7, h8⟩ := Out.bind_ok h6
    injection h8 with e1
    subst e1
    exact Nat.zero_le _
  · exact tagRest_attrs (by simp) h4
theorem cutF_attrs (s m : List UInt8) : (cutF s m).1.attrs.length ≤ 8 := by
  unfold cutF
  split
  · rename_i t r k ht; exact tagF_attrs ht
  · exact Nat.zero_le _
  · exact Nat.zero_le _
theorem feedLoop_attrs : ∀ (n : Nat) (b : Bool) (s : List UInt8) (o : List Token), (∀ t ∈ o, t.attrs.length ≤ 8) → ∀ t ∈ (feedLoop n b s o).2.1, t.attrs.length ≤ 8
  | 0, _, _, _, _ => by intro t ht; simp [feedLoop] at ht
  | n + 1, b, s, o, ho => by
    rw [feedLoop]
    have h1 : ∀ t ∈ (if 0 < (markF b s).2 then o ++ [textTok (s.take (markF b s).2)] else o), t.attrs.length ≤ 8 := by
      split
      · intro t ht
        rcases List.mem_append.1 ht with h | h
        · exact ho t h
        · rw [List.mem_singleton] at h; subst h; exact Nat.zero_le _
      · exact ho
    simp only
    split
    · exact h1
    · split
      · exact feedLoop_attrs n _ _ _ h1
      · split
        · intro t ht; cases ht
        · split
          · exact h1
          · refine feedLoop_attrs n _ _ _ ?_
            intro t ht
            rcases List.mem_append.1 ht with h | h
            · exact h1 t h
            · rw [List.mem_singleton] at h; subst h; exact cutF_attrs _ _
theorem allF_attrs (s : List UInt8) : ∀ t ∈ (allF s).1, t.attrs.length ≤ 8 := by
  have he : ∀ x : LexSt, ∀ t ∈ (endF x).1, t.attrs.length ≤ 8 := fun x => by
    unfold endF
    split
    · split
      · intro t ht; cases ht
      · split
        · intro t ht; cases ht
        · intro t ht
          rw [List.mem_singleton] at ht; subst ht; exact Nat.zero_le _
    · intro t ht; cases ht
  have hf : ∀ (x : LexSt) (s : List UInt8), ∀ t ∈ (feedF x s).2.1, t.attrs.length ≤ 8 := fun x s => by
    unfold feedF
    split
    · exact feedLoop_attrs _ _ _ _ (by simp)
    · intro t ht; cases ht
  unfold allF
  simp only
  split
  · intro t ht; cases ht
  · split
    · intro t ht; cases ht
    · refine foldl_attrs _ [] (by simp) fun x hx => ?_
      rcases List.mem_append.1 hx with h | h
      · exact hf _ _ x h
      · exact he _ x h
theorem readF_eq (s : List UInt8) : readF s = if (allF s).2 ≠ 0 then ([], (allF s).2) else buildF (allF s).1 := rfl
theorem textSum_all (s : List UInt8) : (allF s).1.length ≤ s.length + 1 ∧ textSum (allF s).1 ≤ 2 * s.length := by
  have h1 := feedF_len ⟨[], false⟩ s
  have h2 := endF_len (feedF ⟨[], false⟩ s).1
  unfold allF
  simp only
  split
  · exact ⟨by simp, by simp [textSum]⟩
  · split
    · exact ⟨by simp, by simp [textSum]⟩
    · simp only [List.length_nil] at h1
      refine ⟨Nat.le_trans (joinF_len _) ?_, Nat.le_trans (joinF_sum _) ?_⟩
      · rw [List.length_append]; omega
      · rw [textSum_append]; omega
set_option maxRecDepth 20000 in
set_option maxHeartbeats 2000000 in
theorem read_calls (s : ByteArray) (w : World) (hs : s.size ≤ 90000) :
    Calls Tryz.prog 17 #[.string s] w (BuildPost (readF (L s)) w) := by
  have HRE := Lib.hid (readF_eq (L s))
  have hsl := size_L s
  have HTA := Lib.hid (textSum_all (L s))
  have HAT := Lib.hid (allF_attrs (L s))
  go_enter Tryz.func17, Tryz.ntmps17
  go_wp2_with fail
  refine (all_calls s w (by omega)).mono ?_
  generalize readF (L s) = R at *
  generalize allF (L s) = P at *
  obtain ⟨J, er⟩ := P
  rintro e w1 ⟨v, rfl, hgr, hb1⟩
  have HGR := Lib.hid hgr
  have HB1 := Lib.hid hb1
  clear hgr hb1
  by_cases he : er = 0
  · have hbe : (er != 0) = false := by rw [he]; rfl
    have HRE2 : Hid (R = buildF J) := HRE.out.trans (if_neg (by simpa using he))
    clear he HRE
    go_wp2_with fail
    refine (build_calls J v _ w1 HGR.out (by have := HTA.out.1; omega) (by have := HTA.out.2; omega) (fun t ht => Nat.le_trans (HAT.out t ht) (by omega))).mono ?_
    rintro e w2 ⟨v2, rfl, h2, hb2⟩
    have H2 := Lib.hid h2
    have HB2 := Lib.hid hb2
    clear h2 hb2
    go_wp2_with fail
    go_ret2
    exact ⟨_, by rw [HRE2.out]; rfl, by rw [HRE2.out]; exact H2.out.weaken (fun k hk => Nat.le_trans HB1.out.size hk), HB1.out.trans (HB2.out.mono HB1.out.size)⟩
  · have hbe : (er != 0) = true := by rw [bne_iff_ne]; exact he
    have HRE2 : Hid (R = ([], er)) := HRE.out.trans (if_pos he)
    clear he HRE
    go_wp2_with fail
    go_ret2
    exact ⟨_, by rw [HRE2.out]; rfl, by rw [HRE2.out]; exact gr_nil, HB1.out⟩
end Go.Proofs.YtijpfcjlochahaaGreatDoor
