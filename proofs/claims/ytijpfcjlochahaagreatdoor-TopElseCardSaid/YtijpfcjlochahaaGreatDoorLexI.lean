/- The walk of lex.Feed. -/
import Derived.Test.YtijpfcjlochahaaGreatDoorLexH
import Derived.Test.YtijpfcjlochahaaGreatDoorLexP
import Derived.Deep.Cut
set_option linter.unusedVariables false
set_option linter.unusedSimpArgs false
namespace Go.Proofs.YtijpfcjlochahaaGreatDoor
open Go Go.RowKit
set_option linter.unusedVariables false
set_option linter.unusedSimpArgs false

/-- A slot's string: how long it is. -/
def strLen : Value → Nat
  | .string s => s.size
  | _ => 0
/-- What is left of a string behind a place. -/
theorem L_cut (s : ByteArray) (a b : Nat) (h : s.size ≤ b) : L (s.extract a b) = (L s).drop a := by
  rw [L_extract, List.take_of_length_le (by rw [← size_L]; exact h)]
/-- What 'Feed' leaves. -/
def FeedPost (w : World) (r : LexSt × List Token × Int) (e : Ending) (w' : World) : Prop :=
  ∃ v, e = .returned (.tuple #[.agg #[.string (bs r.1.rest), .bool r.1.inside], v, .int .i64 r.2.2]) ∧ OwnR w' w.heap.size 80 3 (fun g => w.heap.size ≤ g) v (r.2.1.map Token.gv) ∧ Below w.heap.size w w'

/-- Memory within 'Feed', ahead of each mark: X: what the lexer is; Rr: the first result. -/
structure FeedSt (w wr : World) (X : Nat) (rest : ByteArray) (b : Bool) (v : Value) (o : List Token) : Prop where
  hX : Blk wr X 48 #[.string rest, .bool b]
  hR : Blk wr (X + 1) 48 #[.string (bs []), .bool false]
  own : OwnR wr (X + 2) 80 3 (fun g => X + 2 ≤ g) v (o.map Token.gv)
  below : Below w.heap.size w wr
  eqX : X = w.heap.size
theorem FeedSt.step {w wr w' : World} {X : Nat} {rest : ByteArray} {b : Bool} {v : Value} {o : List Token} (h : FeedSt w wr X rest b v o) (hb : Below wr.heap.size wr w') : FeedSt w w' X rest b v o :=
  ⟨h.hX.below hb h.hX.lt, h.hR.below hb h.hR.lt, h.own.below hb, h.below.trans (hb.mono h.below.size), h.eqX⟩
theorem FeedSt.put {w wr : World} {X : Nat} {rest : ByteArray} {b : Bool} {v : Value} {o : List Token} (h : FeedSt w wr X rest b v o) (b' : Bool) : FeedSt w (wr.setCell ⟨X, 1, none⟩ (.bool b')) X rest b' v o := by
  have hg : wr.grownBy (wr.setCell ⟨X, 1, none⟩ (.bool b')) (some X) := grown_setCell (grown_refl _ _) (.inl rfl) _
  have ho : v.ownBlock ≠ some X := h.own.ne (by omega)
  refine ⟨h.hX.set_ 1 (.bool b'), h.hR.grown hg (by simp), h.own.kept hg (.inr ho) (fun k hk => by have hk : X + 2 ≤ k := hk; simp; omega), ?_, h.eqX⟩
  exact h.below.trans (below_of_grown hg h.below.size (fun k hk => by injection hk with hk; have := h.eqX; omega))
/-- The first result is stored. -/
def set2 (W : World) (R : Nat) (x0 x1 : Value) : World := (W.setCell ⟨R, 0, none⟩ x0).setCell ⟨R, 1, none⟩ x1
theorem set2_grown {a W : World} {R : Nat} {row : Option Nat} (h : a.grownBy W row) (hR : some R = row ∨ a.heap.size ≤ R) (x0 x1 : Value) : a.grownBy (set2 W R x0 x1) row :=
  grown_setCell (grown_setCell h hR _) hR _
theorem FeedSt.ret {w wr : World} {X : Nat} {rest : ByteArray} {b : Bool} {v : Value} {o : List Token} (h : FeedSt w wr X rest b v o) (x0 x1 : Value) :
    Blk (set2 wr (X + 1) x0 x1) (X + 1) 48 #[x0, x1] ∧ OwnR (set2 wr (X + 1) x0 x1) w.heap.size 80 3 (fun g => w.heap.size ≤ g) v (o.map Token.gv) ∧ Below w.heap.size w (set2 wr (X + 1) x0 x1) := by
  have hg : wr.grownBy (set2 wr (X + 1) x0 x1) (some (X + 1)) := set2_grown (grown_refl _ _) (.inl rfl) _ _
  have hb : Blk (set2 wr (X + 1) x0 x1) (X + 1) 48 #[x0, x1] := (h.hR.set_ 0 x0).set_ 1 x1
  generalize set2 wr (X + 1) x0 x1 = W at *
  have ho : v.ownBlock ≠ some (X + 1) := h.own.ne (by omega)
  have he := h.eqX
  refine ⟨hb, (h.own.kept hg (.inr ho) (fun k hk => by have hk : X + 2 ≤ k := hk; simp; omega)).weaken (by omega) (fun k hk => by have hk : X + 2 ≤ k := hk; show w.heap.size ≤ k; omega), ?_⟩
  exact h.below.trans (below_of_grown hg h.below.size (fun k hk => by injection hk with hk; omega))
theorem feed_results {w : World} {X : Nat} {tmps : Array Value} {x0 x1 v n : Value} (h4 : tmps[4]?.getD undef = .pointer (some ⟨X + 1, 0, none⟩)) (h5 : tmps[5]?.getD undef = v) (h6 : tmps[6]?.getD undef = n)
    (B0 : Blk w (X + 1) 48 #[x0, x1]) :
    (results Tryz.f18 tmps).run Tryz.prog w = .ok (.tuple #[.agg #[x0, x1], v, n]) w := by
  have a0 := B0.cell 0
  have a1 := B0.cell 1
  simp [results, Tryz.results18, go_sem, h4, h5, h6, a0, a1]
theorem FeedSt.push {w wr w' : World} {X : Nat} {rest : ByteArray} {b : Bool} {v v' : Value} {o o' : List Token} (h : FeedSt w wr X rest b v o)
    (hg : wr.grownBy w' v.ownBlock) (ho : OwnR w' (X + 2) 80 3 (fun g => X + 2 ≤ g) v' (o'.map Token.gv)) : FeedSt w w' X rest b v' o' := by
  have hne : ∀ x, x < X + 2 → some x ≠ v.ownBlock := fun x hx e => by have := (h.own.lt x e.symm).1; omega
  refine ⟨h.hX.grown hg (hne X (by omega)), h.hR.grown hg (hne (X + 1) (by omega)), ho, ?_, h.eqX⟩
  exact h.below.trans (below_of_grown hg h.below.size (fun k hk => by have := (h.own.lt k hk).1; have := h.eqX; omega))

set_option maxRecDepth 20000 in
set_option maxHeartbeats 4000000 in
theorem feed_calls (rest s : ByteArray) (b : Bool) (w : World) (hsz : rest.size + s.size ≤ 1000000) :
    Calls Tryz.prog 18 #[.agg #[.string rest, .bool b], .string s] w (FeedPost w (feedF ⟨L rest, b⟩ (L s))) := by
  obtain ⟨X, hX⟩ : ∃ X, X = w.heap.size := ⟨_, rfl⟩
  have hx0 := Blk.new w 48 #[.string rest, .bool b]
  rw [← hX] at hx0
  have hsz1 := size_alloc w (.cells #[.string rest, .bool b] 48)
  have hr0 := Blk.new (w.alloc (.cells #[.string rest, .bool b] 48)) 48 #[.string (bs []), .bool false]
  rw [hsz1, ← hX] at hr0
  have st : FeedSt w ((w.alloc (.cells #[.string rest, .bool b] 48)).alloc (.cells #[.string ⟨#[]⟩, .bool false] 48)) X rest b (.slice none 0 0) [] :=
    ⟨hx0.alloc _, hr0, OwnR.nil _ _ _ _ _, ((Below.refl _ _).alloc (Nat.le_refl _) _).alloc (by rw [hsz1]; omega) _, hX⟩
  have HX := Lib.hid hX
  clear hsz1 hx0 hr0
  have c0 := st.hX.cell 0
  have c1 := st.hX.cell 1
  have hXs : w.heap.size = X := hX.symm
  clear hX
  go_enter Tryz.func18, Tryz.ntmps18
  go_wp2_with fail
  generalize (w.alloc (.cells #[.string rest, .bool b] 48)).alloc (.cells #[.string ⟨#[]⟩, .bool false] 48) = w1 at *
  clear c0 c1
  refine (right_calls rest b _ (by omega)).mono ?_
  rintro e w2 ⟨rfl, hb2⟩
  have st2 := st.step hb2
  clear st hb2
  cases hrt : rightF ⟨L rest, b⟩ with
  | false =>
    have HF : Hid (feedF ⟨L rest, b⟩ (L s) = (⟨[], false⟩, [], 1)) := by rw [Hid, feedF, if_neg (by rw [hrt]; simp)]
    clear hrt
    have q0 := st2.hR.cell 0
    have q1 := st2.hR.cell 1
    have z0 := st2.hR.frozen 0
    have z1 := st2.hR.frozen 1
    go_wp2_with fail
    obtain ⟨r0, r1, r2⟩ := st2.ret (.string (bs [])) (.bool false)
    refine bodyPost_ret (feed_results rfl rfl rfl r0) rfl ⟨.slice none 0 0, by rw [HF.out]; rfl, ?_, r2⟩
    rw [HF.out]
    exact r1
  | true =>
    have HF : Hid (feedF ⟨L rest, b⟩ (L s) = feedLoop ((L rest ++ L s).length + 1) b (L rest ++ L s) []) := by rw [Hid, feedF, if_pos hrt]
    clear hrt
    have q0 := st2.hX.cell 0
    have q1 := st2.hX.cell 1
    go_wp2_with fail
    have HF1 : Hid (feedF ⟨L rest, b⟩ (L s) = feedLoop ((rest ++ s).size + 1) b (L (rest ++ s)) []) := HF.out.trans (by rw [L_append, size_L, L_append])
    have hsz2 : (rest ++ s).size ≤ 1000000 := by rw [ByteArray.size_append]; omega
    generalize rest ++ s = s0 at *
    generalize feedF ⟨L rest, b⟩ (L s) = F at *
    clear HF q0 q1
    go_loopw [1, 7] (fun s1 v1 wr => ∃ (n : Nat) (b' : Bool) (sb : ByteArray) (o : List Token), s1 = .string sb ∧ FeedSt w wr X rest b' v1 o ∧ sb.size < n ∧ o.length + sb.size ≤ 1000000 ∧ Hid (F = feedLoop n b' (L sb) o))
       (fun s1 _ _ => strLen s1)
    case atStart => exact ⟨s0.size + 1, b, s0, [], rfl, st2, by omega, by simpa using hsz2, HF1⟩
    case round =>
      obtain ⟨n, b', sb, o, rfl, st, hn, hob, HG⟩ := hrel
      clear st2 HF1 hsz2
      obtain ⟨n, rfl⟩ : ∃ n', n = n' + 1 := ⟨n - 1, by omega⟩
      have q1 := st.hX.cell 1
      obtain ⟨hml, hmi⟩ := markF_len b' (L sb)
      rw [← size_L] at hmi
      have HG1 : Hid (F = (
        let m := (markF b' (L sb)).1
        let i := (markF b' (L sb)).2
        let out := if 0 < i then o ++ [textTok ((L sb).take i)] else o
        let s := (L sb).drop i
        if s.length < m.length ∨ m = [] then (⟨s, b'⟩, out, 0)
        else if m = remB ∨ m = behB then feedLoop n (decide (m = remB)) (s.drop m.length) out
        else
          let c := cutF s m
          if c.2.2 ≠ 0 then (⟨[], false⟩, [], c.2.2)
          else if c.2.1 = 0 then (⟨s, b'⟩, out, 0)
          else feedLoop n b' (s.drop c.2.1) (out ++ [c.1]))) := HG.out
      clear HG
      go_wp2_with fail
      refine (mark_calls sb b' _ (by omega)).mono ?_
      rintro e w3 ⟨rfl, hb3⟩
      have st3 := st.step hb3
      clear st hb3 q1
      generalize markF b' (L sb) = mi at *
      obtain ⟨m, i⟩ := mi
      have hml : m.length ≤ 7 := hml
      have hmi : i ≤ sb.size := hmi
      obtain ⟨Av, cv, hve⟩ := st3.own.form
      subst hve
      rw [List.length_map] at st3 ⊢
      obtain ⟨N, hN⟩ : ∃ N, N = o.length := ⟨_, rfl⟩
      rw [← hN] at st3 hob ⊢
      have HN := Lib.hid hN
      clear hN
      have hsm : (bs m).size = m.length := size_bs m
      have htl : (bs m).toList = m := toList_bs m
      have hLi : Hid ((L (sb.extract i sb.size)) = (L sb).drop i) := by
        rw [Hid, L_extract, List.take_of_length_le (by rw [size_L]; exact Nat.le_refl _)]
      have hli : Hid (((L sb).drop i).length = sb.size - i) := by rw [Hid, List.length_drop, ← size_L]
      have h8 : N ≤ 1000000 := by omega
      rcases Nat.eq_zero_or_pos i with hi0 | hi0
      · subst hi0
        have HG2 : Hid (F = (if (L (sb)).length < m.length ∨ m = [] then (⟨L (sb), b'⟩, o, 0)
            else if m = remB ∨ m = behB then feedLoop n (decide (m = remB)) ((L (sb)).drop m.length) (o)
            else if (cutF (L (sb)) m).2.2 ≠ 0 then (⟨[], false⟩, [], (cutF (L (sb)) m).2.2)
            else if (cutF (L (sb)) m).2.1 = 0 then (⟨L (sb), b'⟩, o, 0)
            else feedLoop n b' ((L (sb)).drop (cutF (L (sb)) m).2.1) (o ++ [(cutF (L (sb)) m).1]))) := HG1.out
        clear HG1 hLi hli
        have q0 := st3.hX.cell 0
        have q1 := st3.hX.cell 1
        have q2 := st3.hX.frozen 1
        have z0 := st3.hR.cell 0
        have z1 := st3.hR.cell 1
        have z2 := st3.hR.frozen 0
        have z3 := st3.hR.frozen 1
        by_cases hA : sb.size < m.length ∨ m = []
        · have hc : (L (sb)).length < m.length ∨ m = [] := by
            rw [← size_L]
            exact hA
          have HC := Lib.hid hc
          have hA2 : sb.size < m.length ∨ m.isEmpty = true := by
            rcases hA with h | h
            · exact .inl h
            · exact .inr (by rw [h]; rfl)
          have HA := Lib.hid hA2
          clear hc hA hA2
          rcases Nat.lt_or_ge (sb.size) m.length with hlm | hlm
          · go_wp2_with fail
            obtain ⟨r0, r1, r2⟩ := st3.ret (.string (sb)) (.bool b')
            refine bodyPost_ret (feed_results rfl rfl rfl r0) rfl ⟨.slice Av N cv, ?_, ?_, r2⟩
            · rw [HG2.out, if_pos HC.out, bs_L]
              rfl
            · rw [HG2.out, if_pos HC.out]; exact r1
          · have hem : m.isEmpty = true := HA.out.resolve_left (by omega)
            go_wp2_with fail
            obtain ⟨r0, r1, r2⟩ := st3.ret (.string (sb)) (.bool b')
            refine bodyPost_ret (feed_results rfl rfl rfl r0) rfl ⟨.slice Av N cv, ?_, ?_, r2⟩
            · rw [HG2.out, if_pos HC.out, bs_L]
              rfl
            · rw [HG2.out, if_pos HC.out]; exact r1
        · have hlm : ¬ sb.size < m.length := fun h => hA (.inl h)
          have hm0 : ¬ m = [] := fun h => hA (.inr h)
          have hpos : 0 < m.length := List.length_pos_iff.2 hm0
          have hem : m.isEmpty = false := by simpa using hm0
          have hem2 : ¬ m = [] := hm0
          have hcn : ¬ ((L (sb)).length < m.length ∨ m = []) := by
            rw [← size_L]
            exact hA
          have HG3 := Lib.hid (HG2.out.trans (if_neg hcn))
          clear HG2 hA hcn hm0
          by_cases hB : m = remB
          · have HG4 : Hid (F = feedLoop n true ((L (sb)).drop m.length) (o)) := HG3.out.trans (by rw [if_pos (.inl hB), decide_eq_true hB])
            have hb1 : (m == [60, 33, 45, 45, 101, 115, 105]) = true := by rw [hB]; rfl
            have HB := Lib.hid hB
            clear HG3 hB
            go_wp2_with fail
            refine ⟨⟨n, true, (sb).extract m.length (sb.size), o, rfl, st3.put true, ?_, ?_, ?_⟩, ?_⟩
            · rw [ByteArray.size_extract]; omega
            · have hNN := HN.out
              rw [ByteArray.size_extract]; omega
            · rw [Hid, HG4.out, L_cut (sb) m.length (sb.size) (Nat.le_refl _)]
            · show ((sb).extract m.length (sb.size)).size < sb.size
              rw [ByteArray.size_extract]; omega
          · by_cases hB2 : m = behB
            · have HG4 : Hid (F = feedLoop n false ((L (sb)).drop m.length) (o)) := HG3.out.trans (by rw [if_pos (.inr hB2), decide_eq_false hB])
              have hb1 : (m == [60, 33, 45, 45, 101, 115, 105]) = false := by rw [hB2]; rfl
              have hb2 : (m == [45, 45, 62]) = true := by rw [hB2]; rfl
              clear HG3 hB hB2
              go_wp2_with fail
              refine ⟨⟨n, false, (sb).extract m.length (sb.size), o, rfl, st3.put false, ?_, ?_, ?_⟩, ?_⟩
              · rw [ByteArray.size_extract]; omega
              · have hNN := HN.out
                rw [ByteArray.size_extract]; omega
              · rw [Hid, HG4.out, L_cut (sb) m.length (sb.size) (Nat.le_refl _)]
              · show ((sb).extract m.length (sb.size)).size < sb.size
                rw [ByteArray.size_extract]; omega
            · have hcn2 : ¬ (m = remB ∨ m = behB) := by
                rintro (h | h)
                · exact hB h
                · exact hB2 h
              have HG4 := Lib.hid (HG3.out.trans (if_neg hcn2))
              have hb1 : (m == [60, 33, 45, 45, 101, 115, 105]) = false := beq_eq_false_iff_ne.2 hB
              have hb2 : (m == [45, 45, 62]) = false := beq_eq_false_iff_ne.2 hB2
              clear HG3 hB hB2 hcn2
              go_wp2_with fail
              refine (cut_calls (sb) (bs m) _ (by omega) (by rw [size_bs]; omega)).mono ?_
              rw [L_bs]
              have hct := cutF_total (s := L (sb)) (m := m)
              rw [← size_L] at hct
              generalize cutF (L (sb)) m = r at *
              obtain ⟨tk, nn, bad⟩ := r
              obtain ⟨hc1, hc2, hc3⟩ := hct
              simp only at hc1 hc2 hc3
              rintro e w5 ⟨va, rfl, hgr, hb5⟩
              obtain ⟨At, ct, rfl, -, -, -⟩ := pairs_open hgr
              have HGR := Lib.hid hgr
              have HHS : Hid (w3.heap.size ≤ w5.heap.size ∧ X + 2 ≤ w3.heap.size) := ⟨hb5.size, by have := st3.hR.lt; omega⟩
              have HOL : Hid (∀ k, (Value.slice Av N cv).ownBlock = some k → X + 2 ≤ k ∧ k < w3.heap.size) := st3.own.lt
              have st5 := st3.step hb5
              clear st3 hgr hb5 q0 q1 q2 z0 z1 z2 z3
              have q0 := st5.hX.cell 0
              have q1 := st5.hX.cell 1
              have q2 := st5.hX.frozen 1
              have z0 := st5.hR.cell 0
              have z1 := st5.hR.cell 1
              have z2 := st5.hR.frozen 0
              have z3 := st5.hR.frozen 1
              have hxl := st5.hX.lt
              have hrl := st5.hR.lt
              have st6 := st5.step ((Below.refl _ _).alloc (Nat.le_refl _) (.cells #[.int .i64 tk.kind, .string (bs tk.text), .slice At tk.attrs.length ct] 80))
              have hsz6 := size_alloc w5 (.cells #[.int .i64 tk.kind, .string (bs tk.text), .slice At tk.attrs.length ct] 80)
              by_cases hbad : bad = 0
              · have hbb : (bad != 0) = false := by rw [hbad]; rfl
                have HG5 : Hid (F = if nn = 0 then (⟨L (sb), b'⟩, o, 0) else feedLoop n b' ((L (sb)).drop nn) (o ++ [tk])) := HG4.out.trans (if_neg (by simpa using hbad))
                clear HG4 hbad
                by_cases hnn : nn = 0
                · have hn2 : ((nn : Int) == 0) = true := by rw [hnn]; rfl
                  have HG6 : Hid (F = (⟨L (sb), b'⟩, o, 0)) := HG5.out.trans (if_pos hnn)
                  clear HG5 hnn
                  go_wp2_with fail
                  obtain ⟨r0, r1, r2⟩ := st5.ret (.string (sb)) (.bool b')
                  refine bodyPost_ret (feed_results rfl rfl rfl (r0.alloc (.cells #[.int .i64 tk.kind, .string (bs tk.text), .slice At tk.attrs.length ct] 80))) rfl ⟨.slice Av N cv, ?_, ?_, r2.alloc r2.size _⟩
                  · rw [HG6.out, bs_L]
                    rfl
                  · rw [HG6.out]; exact r1.below ((Below.refl _ _).alloc (Nat.le_refl _) _)
                · have hn2 : ((nn : Int) == 0) = false := by rw [beq_eq_false_iff_ne]; omega
                  have HG6 : Hid (F = feedLoop n b' ((L (sb)).drop nn) (o ++ [tk])) := HG5.out.trans (if_neg hnn)
                  have hn3 : 0 < nn := by omega
                  clear HG5 hnn
                  have t0 := (Blk.new w5 80 #[.int .i64 tk.kind, .string (bs tk.text), .slice At tk.attrs.length ct]).cell 0
                  have t1 := (Blk.new w5 80 #[.int .i64 tk.kind, .string (bs tk.text), .slice At tk.attrs.length ct]).cell 1
                  have t2 := (Blk.new w5 80 #[.int .i64 tk.kind, .string (bs tk.text), .slice At tk.attrs.length ct]).cell 2
                  have hn4 : (0 : Int) ≤ (nn : Int) := by omega
                  have hn5 : (nn : Int) ≤ (sb.size : Int) := by omega
                  go_wp2_with fail
                  refine wp_region_any (by kernel_rfl) ?_
                  change wpAny _ _ _ _ _ _ _ (World.drew _)
                  refine wpAny_take (i := 0) (v := ?_) rfl (by kernel_rfl) (by kernel_rfl) (by kernel_rfl) (fun _ _ _ h => h) (Or.inl ⟨by rfl, ?_⟩) ?_
                  rotate_left
                  · (intro w_; go_simp; try with_reducible rfl)
                  refine wpAny_take (i := 4) (v := ?_) rfl (by kernel_rfl) (by kernel_rfl) (by kernel_rfl) (fun _ _ _ h => h) (Or.inl ⟨by rfl, ?_⟩) ?_
                  rotate_left
                  · (intro w_; go_simp; try with_reducible rfl)
                  refine wpAny_take (i := 5) (v := ?_) rfl (by kernel_rfl) (by kernel_rfl) (by kernel_rfl) (fun _ _ _ h => h) (Or.inl ⟨by rfl, ?_⟩) ?_
                  rotate_left
                  · (intro w_; go_simp; try with_reducible rfl)
                  refine wpAny_take (i := 6) (v := ?_) rfl (by kernel_rfl) (by kernel_rfl) (by kernel_rfl) (fun _ _ _ h => h) (Or.inl ⟨by rfl, ?_⟩) ?_
                  rotate_left
                  · (intro w_; go_simp; try with_reducible rfl)
                  refine wpAny_ready (rs := [1]) (by kernel_rfl) (by simp) ?_
                  refine AllReady.cons rfl (fun K_ hK_ => ?_) AllReady.nil
                  go_simp
                  refine hK_ _ _ ?_
                  clear hK_ K_
                  refine wpAny_ready (rs := [2]) (by kernel_rfl) (by simp) ?_
                  refine AllReady.cons rfl (fun K_ hK_ => ?_) AllReady.nil
                  go_simp
                  refine hK_ _ _ ?_
                  clear hK_ K_
                  refine wpAny_ready (rs := [3]) (by kernel_rfl) (by simp) ?_
                  refine AllReady.cons rfl (fun K_ hK_ => ?_) AllReady.nil
                  have HOW : Hid (OwnR (((w5.alloc (.cells #[.int .i64 tk.kind, .string (bs tk.text), .slice At tk.attrs.length ct] 80)).alloc (.cells #[.int .i64 tk.kind, .string (bs tk.text), .slice At tk.attrs.length ct] 80)).drew) (X + 2) 80 3 (fun g => X + 2 ≤ g) (.slice Av N cv) ((o).map Token.gv)) := st5.own.below ((((Below.refl _ _).alloc (Nat.le_refl _) _).alloc (by rw [size_alloc]; omega) _).drew)
                  have HC : Hid (Cells (((w5.alloc (.cells #[.int .i64 tk.kind, .string (bs tk.text), .slice At tk.attrs.length ct] 80)).alloc (.cells #[.int .i64 tk.kind, .string (bs tk.text), .slice At tk.attrs.length ct] 80)).drew) (fun _ => True) (some ⟨w5.heap.size + 1, 0, none⟩) [.int .i64 tk.kind, .string (bs tk.text), .slice At tk.attrs.length ct]) := by
                    have := cells_new (Blk.new (w5.alloc (.cells #[.int .i64 tk.kind, .string (bs tk.text), .slice At tk.attrs.length ct] 80)) 80 [.int .i64 tk.kind, .string (bs tk.text), .slice At tk.attrs.length ct].toArray)
                    rw [size_alloc] at this
                    exact this
                  have HG : Hid (GRl (((w5.alloc (.cells #[.int .i64 tk.kind, .string (bs tk.text), .slice At tk.attrs.length ct] 80)).alloc (.cells #[.int .i64 tk.kind, .string (bs tk.text), .slice At tk.attrs.length ct] 80)).drew) (fun k => (X + 2 ≤ k) ∧ some k ≠ (Value.slice Av N cv).ownBlock) 3 [tk.gv] [.int .i64 tk.kind, .string (bs tk.text), .slice At tk.attrs.length ct]) := by
                    refine GRl_one (cells_tok ?_) rfl
                    have hbb : Below w5.heap.size w5 (((w5.alloc (.cells #[.int .i64 tk.kind, .string (bs tk.text), .slice At tk.attrs.length ct] 80)).alloc (.cells #[.int .i64 tk.kind, .string (bs tk.text), .slice At tk.attrs.length ct] 80)).drew) := (((Below.refl _ _).alloc (Nat.le_refl _) _).alloc (by rw [size_alloc]; omega) _).drew
                    have hs1 := HHS.out.2
                    refine GR.mono (fun x hx => ?_) (fun x _ hlt => hbb.block x hlt) _ _ HGR.out
                    have hx : w3.heap.size ≤ x := hx
                    refine ⟨show X + 2 ≤ x by omega, fun e => ?_⟩
                    have := (HOL.out x e.symm).2
                    omega
                  have HL : Hid (((o).map Token.gv).length + [tk.gv].length ≤ maxLen ∧ (((o).map Token.gv).length + [tk.gv].length) * 48 ≤ 140737488355328 ∧
                      X + 2 ≤ (((w5.alloc (.cells #[.int .i64 tk.kind, .string (bs tk.text), .slice At tk.attrs.length ct] 80)).alloc (.cells #[.int .i64 tk.kind, .string (bs tk.text), .slice At tk.attrs.length ct] 80)).drew).heap.size ∧ N + 1 = ((o).map Token.gv ++ [tk.gv]).length) := by
                    have hNN := HN.out
                    have hs2 : (((w5.alloc (.cells #[.int .i64 tk.kind, .string (bs tk.text), .slice At tk.attrs.length ct] 80)).alloc (.cells #[.int .i64 tk.kind, .string (bs tk.text), .slice At tk.attrs.length ct] 80)).drew).heap.size = w5.heap.size + 1 + 1 := by
                      show ((w5.alloc (.cells #[.int .i64 tk.kind, .string (bs tk.text), .slice At tk.attrs.length ct] 80)).alloc (.cells #[.int .i64 tk.kind, .string (bs tk.text), .slice At tk.attrs.length ct] 80)).heap.size = _
                      rw [size_alloc, size_alloc]
                    refine ⟨?_, ?_, ?_, ?_⟩
                    · simp [maxLen] at hNN ⊢; omega
                    · simp at hNN ⊢; omega
                    · rw [hs2]; omega
                    · simp at hNN ⊢; omega
                  refine step_append_S (by rfl) _ _ _ (by rfl) tokTy rfl HOW.out (by rfl) (by rfl) HC.out HG.out HL.out.1 HL.out.2.1 HL.out.2.2.1 HL.out.2.2.2 ?_
                  intro A7 c7 w7 hown hgr hor
                  have st7 : FeedSt w w7 X rest b' (.slice A7 (N + 1) c7) (o ++ [tk]) := (st5.step ((((Below.refl _ _).alloc (Nat.le_refl _) (.cells #[.int .i64 tk.kind, .string (bs tk.text), .slice At tk.attrs.length ct] 80)).alloc (by rw [size_alloc]; omega) (.cells #[.int .i64 tk.kind, .string (bs tk.text), .slice At tk.attrs.length ct] 80)).drew)).push hgr (by rw [List.map_append]; exact hown)
                  refine hK_ _ _ ?_
                  clear hK_ K_
                  clear q0 q1 q2 z0 z1 z2 z3 t0 t1 t2 hown hgr hor st5 st6
                  refine wpAny_ready (rs := [7]) (by kernel_rfl) (by simp) ?_
                  refine AllReady.cons rfl (fun K_ hK_ => ?_) AllReady.nil
                  go_simp
                  refine hK_ _ _ ?_
                  clear hK_ K_
                  refine wpAny_ready (rs := [8]) (by kernel_rfl) (by simp) ?_
                  refine AllReady.cons rfl (fun K_ hK_ => ?_) AllReady.nil
                  go_simp
                  refine hK_ _ _ ?_
                  clear hK_ K_
                  refine wpAny_done (by kernel_rfl) ?_ _
                  go_wp2_with fail
                  have hNN := HN.out
                  have hgo : ((sb).extract nn (sb.size)).size < sb.size := by
                    rw [ByteArray.size_extract]; omega
                  refine ⟨⟨n, b', (sb).extract nn (sb.size), o ++ [tk], rfl, st7, by omega, ?_, ?_⟩, hgo⟩
                  · rw [ByteArray.size_extract, List.length_append]; simp only [List.length_cons, List.length_nil]; omega
                  · rw [Hid, HG6.out, L_cut (sb) nn (sb.size) (Nat.le_refl _)]
              · have hbb : (bad != 0) = true := by rw [bne_iff_ne]; exact hbad
                have HG5 : Hid (F = (⟨[], false⟩, [], bad)) := HG4.out.trans (if_pos hbad)
                clear HG4 hbad
                go_wp2_with fail
                obtain ⟨r0, r1, r2⟩ := st5.ret (.string (bs [])) (.bool false)
                refine bodyPost_ret (feed_results rfl rfl rfl (r0.alloc (.cells #[.int .i64 tk.kind, .string (bs tk.text), .slice At tk.attrs.length ct] 80))) rfl ⟨.slice none 0 0, by rw [HG5.out]; rfl, ?_, r2.alloc r2.size _⟩
                rw [HG5.out]
                exact OwnR.nil _ _ _ _ _
      · have HG2 : Hid (F = (if (L (sb.extract i sb.size)).length < m.length ∨ m = [] then (⟨L (sb.extract i sb.size), b'⟩, o ++ [textTok ((L sb).take i)], 0)
            else if m = remB ∨ m = behB then feedLoop n (decide (m = remB)) ((L (sb.extract i sb.size)).drop m.length) (o ++ [textTok ((L sb).take i)])
            else if (cutF (L (sb.extract i sb.size)) m).2.2 ≠ 0 then (⟨[], false⟩, [], (cutF (L (sb.extract i sb.size)) m).2.2)
            else if (cutF (L (sb.extract i sb.size)) m).2.1 = 0 then (⟨L (sb.extract i sb.size), b'⟩, o ++ [textTok ((L sb).take i)], 0)
            else feedLoop n b' ((L (sb.extract i sb.size)).drop (cutF (L (sb.extract i sb.size)) m).2.1) (o ++ [textTok ((L sb).take i)] ++ [(cutF (L (sb.extract i sb.size)) m).1]))) := HG1.out.trans (by simp only [if_pos hi0, hLi.out])
        clear HG1
        have HZ : Hid ((sb.extract i sb.size).size = sb.size - i) := by rw [Hid, ByteArray.size_extract]; omega
        have HOW : Hid (OwnR (w3.alloc (.cells #[.int .i64 0, .string (sb.extract 0 i), .slice none 0 0] 80)) (X + 2) 80 3 (fun g => X + 2 ≤ g) (.slice Av N cv) (o.map Token.gv)) := st3.own.below ((Below.refl _ _).alloc (Nat.le_refl _) _)
        have HC : Hid (Cells (w3.alloc (.cells #[.int .i64 0, .string (sb.extract 0 i), .slice none 0 0] 80)) (fun _ => True) (some ⟨w3.heap.size, 0, none⟩) [.int .i64 0, .string (sb.extract 0 i), .slice none 0 0]) :=
          cells_new (Blk.new w3 80 [.int .i64 0, .string (sb.extract 0 i), .slice none 0 0].toArray)
        have HG : Hid (GRl (w3.alloc (.cells #[.int .i64 0, .string (sb.extract 0 i), .slice none 0 0] 80)) (fun k => (X + 2 ≤ k) ∧ some k ≠ (Value.slice Av N cv).ownBlock) 3 [(textTok ((L sb).take i)).gv] [.int .i64 0, .string (sb.extract 0 i), .slice none 0 0]) := by
          refine GRl_one ?_ rfl
          have e : sb.extract 0 i = bs ((L sb).take i) := L_ext (by rw [L_extract, L_bs, List.drop_zero])
          rw [e]
          exact cells_tok gr_nil
        have HL : Hid ((o.map Token.gv).length + [(textTok ((L sb).take i)).gv].length ≤ maxLen ∧ ((o.map Token.gv).length + [(textTok ((L sb).take i)).gv].length) * 48 ≤ 140737488355328 ∧
            X + 2 ≤ (w3.alloc (.cells #[.int .i64 0, .string (sb.extract 0 i), .slice none 0 0] 80)).heap.size ∧ N + 1 = (o.map Token.gv ++ [(textTok ((L sb).take i)).gv]).length) := by
          have hNN := HN.out
          have hs := st3.hR.lt
          refine ⟨?_, ?_, ?_, ?_⟩
          · simp [maxLen]; omega
          · simp; omega
          · rw [size_alloc]; omega
          · simp; omega
        go_upto_region 8 with (at_builtin; go_loud (refine wpList_append_S rfl _ _ _ rfl tokTy rfl HOW.out rfl rfl HC.out HG.out HL.out.1 HL.out.2.1 HL.out.2.2.1 HL.out.2.2.2 ?_); intro A4 c4 w4 hown hgr hor; have HW4 := Lib.hid hown; have HGR4 := Lib.hid hgr; clear hown hgr hor)
        have st4 : FeedSt w w4 X rest b' (.slice A4 (N + 1) c4) (o ++ [textTok ((L sb).take i)]) := (st3.step ((Below.refl _ _).alloc (Nat.le_refl _) (.cells #[.int .i64 0, .string (sb.extract 0 i), .slice none 0 0] 80))).push HGR4.out (by rw [List.map_append]; exact HW4.out)
        have hob2 : N + 1 + (sb.size - i) ≤ 1000000 := by omega
        have HN1 : Hid (N + 1 = (o ++ [textTok ((L sb).take i)]).length) := by rw [Hid, HN.out]; simp
        clear HOW HC HG HL HW4 HGR4 hLi hli st3 hob HN
        have q0 := st4.hX.cell 0
        have q1 := st4.hX.cell 1
        have q2 := st4.hX.frozen 1
        have z0 := st4.hR.cell 0
        have z1 := st4.hR.cell 1
        have z2 := st4.hR.frozen 0
        have z3 := st4.hR.frozen 1
        by_cases hA : sb.size - i < m.length ∨ m = []
        · have hc : (L (sb.extract i sb.size)).length < m.length ∨ m = [] := by
            rw [← size_L, HZ.out]
            exact hA
          have HC := Lib.hid hc
          have hA2 : sb.size - i < m.length ∨ m.isEmpty = true := by
            rcases hA with h | h
            · exact .inl h
            · exact .inr (by rw [h]; rfl)
          have HA := Lib.hid hA2
          clear hc hA hA2
          rcases Nat.lt_or_ge (sb.size - i) m.length with hlm | hlm
          · go_wp2_with fail
            obtain ⟨r0, r1, r2⟩ := st4.ret (.string (sb.extract i sb.size)) (.bool b')
            refine bodyPost_ret (feed_results rfl rfl rfl r0) rfl ⟨.slice A4 (N + 1) c4, ?_, ?_, r2⟩
            · rw [HG2.out, if_pos HC.out, bs_L]
              rfl
            · rw [HG2.out, if_pos HC.out]; exact r1
          · have hem : m.isEmpty = true := HA.out.resolve_left (by omega)
            go_wp2_with fail
            obtain ⟨r0, r1, r2⟩ := st4.ret (.string (sb.extract i sb.size)) (.bool b')
            refine bodyPost_ret (feed_results rfl rfl rfl r0) rfl ⟨.slice A4 (N + 1) c4, ?_, ?_, r2⟩
            · rw [HG2.out, if_pos HC.out, bs_L]
              rfl
            · rw [HG2.out, if_pos HC.out]; exact r1
        · have hlm : ¬ sb.size - i < m.length := fun h => hA (.inl h)
          have hm0 : ¬ m = [] := fun h => hA (.inr h)
          have hpos : 0 < m.length := List.length_pos_iff.2 hm0
          have hem : m.isEmpty = false := by simpa using hm0
          have hem2 : ¬ m = [] := hm0
          have hcn : ¬ ((L (sb.extract i sb.size)).length < m.length ∨ m = []) := by
            rw [← size_L, HZ.out]
            exact hA
          have HG3 := Lib.hid (HG2.out.trans (if_neg hcn))
          clear HG2 hA hcn hm0
          by_cases hB : m = remB
          · have HG4 : Hid (F = feedLoop n true ((L (sb.extract i sb.size)).drop m.length) (o ++ [textTok ((L sb).take i)])) := HG3.out.trans (by rw [if_pos (.inl hB), decide_eq_true hB])
            have hb1 : (m == [60, 33, 45, 45, 101, 115, 105]) = true := by rw [hB]; rfl
            have HB := Lib.hid hB
            clear HG3 hB
            go_wp2_with fail
            refine ⟨⟨n, true, (sb.extract i sb.size).extract m.length (sb.size - i), o ++ [textTok ((L sb).take i)], rfl, st4.put true, ?_, ?_, ?_⟩, ?_⟩
            · rw [ByteArray.size_extract]; omega
            · have hNN := HN1.out
              rw [ByteArray.size_extract]; omega
            · rw [Hid, HG4.out, L_cut (sb.extract i sb.size) m.length (sb.size - i) (by rw [HZ.out]; exact Nat.le_refl _)]
            · show ((sb.extract i sb.size).extract m.length (sb.size - i)).size < sb.size
              rw [ByteArray.size_extract]; omega
          · by_cases hB2 : m = behB
            · have HG4 : Hid (F = feedLoop n false ((L (sb.extract i sb.size)).drop m.length) (o ++ [textTok ((L sb).take i)])) := HG3.out.trans (by rw [if_pos (.inr hB2), decide_eq_false hB])
              have hb1 : (m == [60, 33, 45, 45, 101, 115, 105]) = false := by rw [hB2]; rfl
              have hb2 : (m == [45, 45, 62]) = true := by rw [hB2]; rfl
              clear HG3 hB hB2
              go_wp2_with fail
              refine ⟨⟨n, false, (sb.extract i sb.size).extract m.length (sb.size - i), o ++ [textTok ((L sb).take i)], rfl, st4.put false, ?_, ?_, ?_⟩, ?_⟩
              · rw [ByteArray.size_extract]; omega
              · have hNN := HN1.out
                rw [ByteArray.size_extract]; omega
              · rw [Hid, HG4.out, L_cut (sb.extract i sb.size) m.length (sb.size - i) (by rw [HZ.out]; exact Nat.le_refl _)]
              · show ((sb.extract i sb.size).extract m.length (sb.size - i)).size < sb.size
                rw [ByteArray.size_extract]; omega
            · have hcn2 : ¬ (m = remB ∨ m = behB) := by
                rintro (h | h)
                · exact hB h
                · exact hB2 h
              have HG4 := Lib.hid (HG3.out.trans (if_neg hcn2))
              have hb1 : (m == [60, 33, 45, 45, 101, 115, 105]) = false := beq_eq_false_iff_ne.2 hB
              have hb2 : (m == [45, 45, 62]) = false := beq_eq_false_iff_ne.2 hB2
              clear HG3 hB hB2 hcn2
              go_wp2_with fail
              refine (cut_calls (sb.extract i sb.size) (bs m) _ (by rw [HZ.out]; omega) (by rw [size_bs]; omega)).mono ?_
              rw [L_bs]
              have hct := cutF_total (s := L (sb.extract i sb.size)) (m := m)
              rw [← size_L, HZ.out] at hct
              generalize cutF (L (sb.extract i sb.size)) m = r at *
              obtain ⟨tk, nn, bad⟩ := r
              obtain ⟨hc1, hc2, hc3⟩ := hct
              simp only at hc1 hc2 hc3
              rintro e w5 ⟨va, rfl, hgr, hb5⟩
              obtain ⟨At, ct, rfl, -, -, -⟩ := pairs_open hgr
              have HGR := Lib.hid hgr
              have HHS : Hid (w4.heap.size ≤ w5.heap.size ∧ X + 2 ≤ w4.heap.size) := ⟨hb5.size, by have := st4.hR.lt; omega⟩
              have HOL : Hid (∀ k, (Value.slice A4 (N + 1) c4).ownBlock = some k → X + 2 ≤ k ∧ k < w4.heap.size) := st4.own.lt
              have st5 := st4.step hb5
              clear st4 hgr hb5 q0 q1 q2 z0 z1 z2 z3
              have q0 := st5.hX.cell 0
              have q1 := st5.hX.cell 1
              have q2 := st5.hX.frozen 1
              have z0 := st5.hR.cell 0
              have z1 := st5.hR.cell 1
              have z2 := st5.hR.frozen 0
              have z3 := st5.hR.frozen 1
              have hxl := st5.hX.lt
              have hrl := st5.hR.lt
              have st6 := st5.step ((Below.refl _ _).alloc (Nat.le_refl _) (.cells #[.int .i64 tk.kind, .string (bs tk.text), .slice At tk.attrs.length ct] 80))
              have hsz6 := size_alloc w5 (.cells #[.int .i64 tk.kind, .string (bs tk.text), .slice At tk.attrs.length ct] 80)
              by_cases hbad : bad = 0
              · have hbb : (bad != 0) = false := by rw [hbad]; rfl
                have HG5 : Hid (F = if nn = 0 then (⟨L (sb.extract i sb.size), b'⟩, o ++ [textTok ((L sb).take i)], 0) else feedLoop n b' ((L (sb.extract i sb.size)).drop nn) (o ++ [textTok ((L sb).take i)] ++ [tk])) := HG4.out.trans (if_neg (by simpa using hbad))
                clear HG4 hbad
                by_cases hnn : nn = 0
                · have hn2 : ((nn : Int) == 0) = true := by rw [hnn]; rfl
                  have HG6 : Hid (F = (⟨L (sb.extract i sb.size), b'⟩, o ++ [textTok ((L sb).take i)], 0)) := HG5.out.trans (if_pos hnn)
                  clear HG5 hnn
                  go_wp2_with fail
                  obtain ⟨r0, r1, r2⟩ := st5.ret (.string (sb.extract i sb.size)) (.bool b')
                  refine bodyPost_ret (feed_results rfl rfl rfl (r0.alloc (.cells #[.int .i64 tk.kind, .string (bs tk.text), .slice At tk.attrs.length ct] 80))) rfl ⟨.slice A4 (N + 1) c4, ?_, ?_, r2.alloc r2.size _⟩
                  · rw [HG6.out, bs_L]
                    rfl
                  · rw [HG6.out]; exact r1.below ((Below.refl _ _).alloc (Nat.le_refl _) _)
                · have hn2 : ((nn : Int) == 0) = false := by rw [beq_eq_false_iff_ne]; omega
                  have HG6 : Hid (F = feedLoop n b' ((L (sb.extract i sb.size)).drop nn) (o ++ [textTok ((L sb).take i)] ++ [tk])) := HG5.out.trans (if_neg hnn)
                  have hn3 : 0 < nn := by omega
                  clear HG5 hnn
                  have t0 := (Blk.new w5 80 #[.int .i64 tk.kind, .string (bs tk.text), .slice At tk.attrs.length ct]).cell 0
                  have t1 := (Blk.new w5 80 #[.int .i64 tk.kind, .string (bs tk.text), .slice At tk.attrs.length ct]).cell 1
                  have t2 := (Blk.new w5 80 #[.int .i64 tk.kind, .string (bs tk.text), .slice At tk.attrs.length ct]).cell 2
                  have hn4 : (0 : Int) ≤ (nn : Int) := by omega
                  have hn5 : (nn : Int) ≤ (sb.size : Int) := by omega
                  go_wp2_with fail
                  refine wp_region_any (by kernel_rfl) ?_
                  change wpAny _ _ _ _ _ _ _ (World.drew _)
                  refine wpAny_take (i := 0) (v := ?_) rfl (by kernel_rfl) (by kernel_rfl) (by kernel_rfl) (fun _ _ _ h => h) (Or.inl ⟨by rfl, ?_⟩) ?_
                  rotate_left
                  · (intro w_; go_simp; try with_reducible rfl)
                  refine wpAny_take (i := 4) (v := ?_) rfl (by kernel_rfl) (by kernel_rfl) (by kernel_rfl) (fun _ _ _ h => h) (Or.inl ⟨by rfl, ?_⟩) ?_
                  rotate_left
                  · (intro w_; go_simp; try with_reducible rfl)
                  refine wpAny_take (i := 5) (v := ?_) rfl (by kernel_rfl) (by kernel_rfl) (by kernel_rfl) (fun _ _ _ h => h) (Or.inl ⟨by rfl, ?_⟩) ?_
                  rotate_left
                  · (intro w_; go_simp; try with_reducible rfl)
                  refine wpAny_take (i := 6) (v := ?_) rfl (by kernel_rfl) (by kernel_rfl) (by kernel_rfl) (fun _ _ _ h => h) (Or.inl ⟨by rfl, ?_⟩) ?_
                  rotate_left
                  · (intro w_; go_simp; try with_reducible rfl)
                  refine wpAny_ready (rs := [1]) (by kernel_rfl) (by simp) ?_
                  refine AllReady.cons rfl (fun K_ hK_ => ?_) AllReady.nil
                  go_simp
                  refine hK_ _ _ ?_
                  clear hK_ K_
                  refine wpAny_ready (rs := [2]) (by kernel_rfl) (by simp) ?_
                  refine AllReady.cons rfl (fun K_ hK_ => ?_) AllReady.nil
                  go_simp
                  refine hK_ _ _ ?_
                  clear hK_ K_
                  refine wpAny_ready (rs := [3]) (by kernel_rfl) (by simp) ?_
                  refine AllReady.cons rfl (fun K_ hK_ => ?_) AllReady.nil
                  have HOW : Hid (OwnR (((w5.alloc (.cells #[.int .i64 tk.kind, .string (bs tk.text), .slice At tk.attrs.length ct] 80)).alloc (.cells #[.int .i64 tk.kind, .string (bs tk.text), .slice At tk.attrs.length ct] 80)).drew) (X + 2) 80 3 (fun g => X + 2 ≤ g) (.slice A4 (N + 1) c4) ((o ++ [textTok ((L sb).take i)]).map Token.gv)) := st5.own.below ((((Below.refl _ _).alloc (Nat.le_refl _) _).alloc (by rw [size_alloc]; omega) _).drew)
                  have HC : Hid (Cells (((w5.alloc (.cells #[.int .i64 tk.kind, .string (bs tk.text), .slice At tk.attrs.length ct] 80)).alloc (.cells #[.int .i64 tk.kind, .string (bs tk.text), .slice At tk.attrs.length ct] 80)).drew) (fun _ => True) (some ⟨w5.heap.size + 1, 0, none⟩) [.int .i64 tk.kind, .string (bs tk.text), .slice At tk.attrs.length ct]) := by
                    have := cells_new (Blk.new (w5.alloc (.cells #[.int .i64 tk.kind, .string (bs tk.text), .slice At tk.attrs.length ct] 80)) 80 [.int .i64 tk.kind, .string (bs tk.text), .slice At tk.attrs.length ct].toArray)
                    rw [size_alloc] at this
                    exact this
                  have HG : Hid (GRl (((w5.alloc (.cells #[.int .i64 tk.kind, .string (bs tk.text), .slice At tk.attrs.length ct] 80)).alloc (.cells #[.int .i64 tk.kind, .string (bs tk.text), .slice At tk.attrs.length ct] 80)).drew) (fun k => (X + 2 ≤ k) ∧ some k ≠ (Value.slice A4 (N + 1) c4).ownBlock) 3 [tk.gv] [.int .i64 tk.kind, .string (bs tk.text), .slice At tk.attrs.length ct]) := by
                    refine GRl_one (cells_tok ?_) rfl
                    have hbb : Below w5.heap.size w5 (((w5.alloc (.cells #[.int .i64 tk.kind, .string (bs tk.text), .slice At tk.attrs.length ct] 80)).alloc (.cells #[.int .i64 tk.kind, .string (bs tk.text), .slice At tk.attrs.length ct] 80)).drew) := (((Below.refl _ _).alloc (Nat.le_refl _) _).alloc (by rw [size_alloc]; omega) _).drew
                    have hs1 := HHS.out.2
                    refine GR.mono (fun x hx => ?_) (fun x _ hlt => hbb.block x hlt) _ _ HGR.out
                    have hx : w4.heap.size ≤ x := hx
                    refine ⟨show X + 2 ≤ x by omega, fun e => ?_⟩
                    have := (HOL.out x e.symm).2
                    omega
                  have HL : Hid (((o ++ [textTok ((L sb).take i)]).map Token.gv).length + [tk.gv].length ≤ maxLen ∧ (((o ++ [textTok ((L sb).take i)]).map Token.gv).length + [tk.gv].length) * 48 ≤ 140737488355328 ∧
                      X + 2 ≤ (((w5.alloc (.cells #[.int .i64 tk.kind, .string (bs tk.text), .slice At tk.attrs.length ct] 80)).alloc (.cells #[.int .i64 tk.kind, .string (bs tk.text), .slice At tk.attrs.length ct] 80)).drew).heap.size ∧ (N + 1) + 1 = ((o ++ [textTok ((L sb).take i)]).map Token.gv ++ [tk.gv]).length) := by
                    have hNN := HN1.out
                    have hs2 : (((w5.alloc (.cells #[.int .i64 tk.kind, .string (bs tk.text), .slice At tk.attrs.length ct] 80)).alloc (.cells #[.int .i64 tk.kind, .string (bs tk.text), .slice At tk.attrs.length ct] 80)).drew).heap.size = w5.heap.size + 1 + 1 := by
                      show ((w5.alloc (.cells #[.int .i64 tk.kind, .string (bs tk.text), .slice At tk.attrs.length ct] 80)).alloc (.cells #[.int .i64 tk.kind, .string (bs tk.text), .slice At tk.attrs.length ct] 80)).heap.size = _
                      rw [size_alloc, size_alloc]
                    refine ⟨?_, ?_, ?_, ?_⟩
                    · simp [maxLen] at hNN ⊢; omega
                    · simp at hNN ⊢; omega
                    · rw [hs2]; omega
                    · simp at hNN ⊢; omega
                  refine step_append_S (by rfl) _ _ _ (by rfl) tokTy rfl HOW.out (by rfl) (by rfl) HC.out HG.out HL.out.1 HL.out.2.1 HL.out.2.2.1 HL.out.2.2.2 ?_
                  intro A7 c7 w7 hown hgr hor
                  have st7 : FeedSt w w7 X rest b' (.slice A7 ((N + 1) + 1) c7) (o ++ [textTok ((L sb).take i)] ++ [tk]) := (st5.step ((((Below.refl _ _).alloc (Nat.le_refl _) (.cells #[.int .i64 tk.kind, .string (bs tk.text), .slice At tk.attrs.length ct] 80)).alloc (by rw [size_alloc]; omega) (.cells #[.int .i64 tk.kind, .string (bs tk.text), .slice At tk.attrs.length ct] 80)).drew)).push hgr (by rw [List.map_append]; exact hown)
                  refine hK_ _ _ ?_
                  clear hK_ K_
                  clear q0 q1 q2 z0 z1 z2 z3 t0 t1 t2 hown hgr hor st5 st6
                  refine wpAny_ready (rs := [7]) (by kernel_rfl) (by simp) ?_
                  refine AllReady.cons rfl (fun K_ hK_ => ?_) AllReady.nil
                  go_simp
                  refine hK_ _ _ ?_
                  clear hK_ K_
                  refine wpAny_ready (rs := [8]) (by kernel_rfl) (by simp) ?_
                  refine AllReady.cons rfl (fun K_ hK_ => ?_) AllReady.nil
                  go_simp
                  refine hK_ _ _ ?_
                  clear hK_ K_
                  refine wpAny_done (by kernel_rfl) ?_ _
                  go_wp2_with fail
                  have hNN := HN1.out
                  have hgo : ((sb.extract i sb.size).extract nn (sb.size - i)).size < sb.size := by
                    rw [ByteArray.size_extract]; omega
                  refine ⟨⟨n, b', (sb.extract i sb.size).extract nn (sb.size - i), o ++ [textTok ((L sb).take i)] ++ [tk], rfl, st7, by omega, ?_, ?_⟩, hgo⟩
                  · rw [ByteArray.size_extract, List.length_append]; simp only [List.length_cons, List.length_nil]; omega
                  · rw [Hid, HG6.out, L_cut (sb.extract i sb.size) nn (sb.size - i) (by rw [HZ.out]; exact Nat.le_refl _)]
              · have hbb : (bad != 0) = true := by rw [bne_iff_ne]; exact hbad
                have HG5 : Hid (F = (⟨[], false⟩, [], bad)) := HG4.out.trans (if_pos hbad)
                clear HG4 hbad
                go_wp2_with fail
                obtain ⟨r0, r1, r2⟩ := st5.ret (.string (bs [])) (.bool false)
                refine bodyPost_ret (feed_results rfl rfl rfl (r0.alloc (.cells #[.int .i64 tk.kind, .string (bs tk.text), .slice At tk.attrs.length ct] 80))) rfl ⟨.slice none 0 0, by rw [HG5.out]; rfl, ?_, r2.alloc r2.size _⟩
                rw [HG5.out]
                exact OwnR.nil _ _ _ _ _
end Go.Proofs.YtijpfcjlochahaaGreatDoor
