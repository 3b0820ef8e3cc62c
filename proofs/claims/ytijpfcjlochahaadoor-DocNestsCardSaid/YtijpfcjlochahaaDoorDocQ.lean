/- The walk of intarsialaw15.few. -/
import Derived.Test.YtijpfcjlochahaaDoorDocL
namespace Go.Proofs.YtijpfcjlochahaaDoor
open Go Go.RowKit

theorem part_step {α : Type} (f : α → α) (l : List α) (k : Nat) (h : k < l.length) : (l.take (k + 1)).map f ++ l.drop (k + 1) = ((l.take k).map f ++ l.drop k).set k (f l[k]) := by
  have hl : ((l.take k).map f).length = k := by rw [List.length_map, List.length_take]; omega
  have e := List.drop_eq_getElem_cons h
  rw [List.set_append_right _ _ (by omega), hl, Nat.sub_self, e, List.set_cons_zero, List.take_succ_eq_append_getElem h, List.map_append, List.append_assoc]
  rfl
theorem part_at {α : Type} (f : α → α) (l : List α) (k : Nat) (h : k < l.length) : ((l.take k).map f ++ l.drop k)[k]? = some l[k] := by
  have hl : ((l.take k).map f).length = k := by rw [List.length_map, List.length_take]; omega
  rw [List.getElem?_append_right (by omega), hl, Nat.sub_self]
  simp [h]
/-- A token cut. -/
def cutT (t : Token) : Token := ⟨t.kind, t.text.take 40, t.attrs.take 12⟩
def fewF (l : List Token) : List Token := (l.take 420).map cutT
def FewPost (F : Nat → Prop) (l : List Token) (w : World) (e : Ending) (w' : World) : Prop := ∃ v', e = .returned v' ∧ GR w' (fun g => F g ∨ w.heap.size ≤ g) (.row 3 ((fewF l).map Token.gv)) [v'] ∧ Below w.heap.size w w'
set_option maxRecDepth 20000 in
set_option maxHeartbeats 4000000 in
theorem few_calls (l : List Token) (v : Value) (F : Nat → Prop) (w : World) (hv : GR w F (.row 3 (l.map Token.gv)) [v]) :
    Calls Tryd.prog 18 #[v] w (FewPost F l w) := by
  obtain ⟨A, c, rfl, hlc, hcm, hop⟩ := toks_open hv
  have hl : l.length ≤ maxLen := Nat.le_trans hlc hcm
  unfold maxLen at hl hcm
  have hgt := row_take (GR.lt_heap _ _ hv) (min l.length 420) (by rw [List.length_map]; omega)
  rw [← List.map_take] at hgt
  have hm : l.take (min l.length 420) = l.take 420 := by
    rcases Nat.le_total l.length 420 with h | h
    · rw [Nat.min_eq_left h, List.take_length, List.take_of_length_le h]
    · rw [Nat.min_eq_right h]
  rw [hm] at hgt
  have HFW : Hid (fewF l = (l.take 420).map cutT) := rfl
  have hml : (l.take 420).length = min l.length 420 := by rw [List.length_take, Nat.min_comm]
  obtain ⟨M, hM⟩ : ∃ M, M = l.take 420 := ⟨_, rfl⟩
  rw [← hM] at hgt HFW hml
  have HML := Lib.hid hml
  have HGT := Lib.hid hgt
  clear hop hv hM hm hgt hml
  go_enter Tryd.func18, Tryd.ntmps18
  go_upto_region 1 with (fail)
  go_cut [0] from 5 to 12 (fun v wx => ∃ A1 c1, v = .slice A1 M.length c1 ∧ Hid (OwnR wx w.heap.size 30 3 (fun g => F g ∧ g < w.heap.size) v (M.map Token.gv)) ∧ Hid (Below w.heap.size w wx))
  case first =>
    have hb1 : Below w.heap.size w (w.alloc (.cells #[] 30)) := (Below.refl _ _).alloc (Nat.le_refl _) _
    have hown : OwnR (w.alloc (.cells #[] 30)) w.heap.size 30 3 (fun g => F g ∧ g < w.heap.size) (.slice (some ⟨w.heap.size, 0, none⟩) 0 0) [] :=
      ⟨[], World.ownsRow_lit w #[] 0 (Nat.le_refl _) (by simp [maxLen]) (by simp), GRl_nil.2 rfl⟩
    obtain ⟨news, hA⟩ := App.of_row (bytes := 48) hown HGT.out hb1 (fun k hk hlt => ⟨hk, fun e => by have e : k = w.heap.size := Option.some.inj e; omega⟩) (by rw [List.length_map, HML.out]; simp; omega) (by omega) hb1.size
    simp only [List.length_nil, List.length_map, Nat.zero_add] at hA
    have HB1 := Lib.hid hb1
    rw [← HML.out] at hA
    have hmi : min (l.length : Int) 420 = (M.length : Int) := by have := HML.out; omega
    have hm0 : (0 : Int) ≤ (M.length : Int) := by omega
    have hm1 : (M.length : Int) ≤ (c : Int) := by have := HML.out; omega
    have HA := Lib.hid hA
    clear hA hb1 hown
    go_wp2_with (at_builtin; go_loud (refine HA.out.plain rfl _ _ _ rfl tokTy rfl rfl ?_); intro A5 c5 w5 hown hgr hor; have HO := Lib.hid hown; have HG := Lib.hid hgr; clear hown hgr hor)
    go_meet
    case rel => exact ⟨A5, c5, rfl, by have h := HO.out; rw [List.nil_append] at h; exact h, HB1.out.trans (below_of_grown HG.out HB1.out.size (fun k hk => by have hk : w.heap.size = k := Option.some.inj hk; omega))⟩
  case rest =>
    obtain ⟨A1, c1, rfl, HO1, HB1⟩ := hcut
    have hMl : M.length ≤ 420 := by rw [HML.out]; omega
    clear HGT
    go_wp2_with fail
    go_loopw [14] (fun i wr => ∃ k : Nat, k ≤ M.length ∧ i = .int .i64 k ∧ OwnR wr w.heap.size 30 3 (fun g => F g ∧ g < w.heap.size) (.slice A1 M.length c1) (((M.take k).map cutT ++ M.drop k).map Token.gv) ∧ Hid (Below w.heap.size w wr))
      (fun i wr => M.length - (intOf i).toNat)
    case atStart => exact ⟨0, Nat.zero_le _, rfl, by simpa using HO1.out, HB1⟩
    case round =>
      obtain ⟨k, hk, rfl, ho, HB⟩ := hrel
      by_cases hlt : k < M.length
      · have hPl : ((M.take k).map cutT ++ M.drop k).length = M.length := by rw [List.length_append, List.length_map, List.length_take, List.length_drop]; omega
        have hstep := part_step cutT M k hlt
        obtain ⟨g, va, rfl, hlc2, hcm2, hgb, hgl, t0, t1, t2, hva, hfz⟩ := own_tok_at ho hPl.symm (part_at cutT M k hlt)
        generalize M[k] = t at *
        obtain ⟨AA, ac, rfl, hac, ham, -⟩ := pairs_open hva
        unfold maxLen at ham hcm2
        have z0 := hfz (k * 3)
        have z1 := hfz (k * 3 + 1)
        have z2 := hfz (k * 3 + 2)
        have HST := Lib.hid hstep
        have HO := Lib.hid ho
        have HPL := Lib.hid hPl
        have hk1 : (0 : Int) ≤ (k : Int) := by omega
        have hk2 : (k : Int) < (M.length : Int) := by omega
        have HVA := Lib.hid hva
        clear hstep ho hPl hva hfz HO1 HB1
        go_wp2_with fail
        have hal : Below wr.heap.size wr (wr.alloc (.cells #[.int .i64 t.kind, .string (bs t.text), .slice AA t.attrs.length ac] 30)) := (Below.refl _ _).alloc (Nat.le_refl _) _
        have hX5 := Blk.new wr 30 #[.int .i64 t.kind, .string (bs t.text), .slice AA t.attrs.length ac]
        obtain ⟨w5, hw5⟩ : ∃ w5, w5 = wr.alloc (.cells #[.int .i64 t.kind, .string (bs t.text), .slice AA t.attrs.length ac] 30) := ⟨_, rfl⟩
        rw [← hw5] at hal hX5 ⊢
        have x0 := hX5.cell 0
        have x1 := hX5.cell 1
        have x2 := hX5.cell 2
        have HO5 := Lib.hid (HO.out.below hal)
        have HVA5 := Lib.hid (HVA.out.below hal)
        have HB5 := Lib.hid (HB.out.trans (hal.mono HB.out.size))
        have z0 : w5.frozen? ⟨g, k * 3, none⟩ = false := (hal.frozen (p := ⟨g, k * 3, none⟩) hgl).trans z0
        have z1 : w5.frozen? ⟨g, k * 3 + 1, none⟩ = false := (hal.frozen (p := ⟨g, k * 3 + 1, none⟩) hgl).trans z1
        have z2 : w5.frozen? ⟨g, k * 3 + 2, none⟩ = false := (hal.frozen (p := ⟨g, k * 3 + 2, none⟩) hgl).trans z2
        have t0 : w5.cell? ⟨g, k * 3, none⟩ = some (.int .i64 t.kind) := (hal.cell (p := ⟨g, k * 3, none⟩) hgl).trans t0
        have t1 : w5.cell? ⟨g, k * 3 + 1, none⟩ = some (.string (bs t.text)) := (hal.cell (p := ⟨g, k * 3 + 1, none⟩) hgl).trans t1
        have t2 : w5.cell? ⟨g, k * 3 + 2, none⟩ = some (.slice AA t.attrs.length ac) := (hal.cell (p := ⟨g, k * 3 + 2, none⟩) hgl).trans t2
        obtain ⟨tn, htn⟩ : ∃ tn, tn = min t.text.length 40 := ⟨_, rfl⟩
        obtain ⟨an, han⟩ : ∃ an, an = min t.attrs.length 12 := ⟨_, rfl⟩
        have hsz : ((bs t.text).size : Int) = (t.text.length : Int) := by rw [size_bs]
        have hmt : min (t.text.length : Int) 40 = (tn : Int) := by omega
        have hma : min (t.attrs.length : Int) 12 = (an : Int) := by omega
        have ht0 : (0 : Int) ≤ (tn : Int) := by omega
        have ht1 : (tn : Int) ≤ (t.text.length : Int) := by omega
        have ha0 : (0 : Int) ≤ (an : Int) := by omega
        have ha1 : (an : Int) ≤ (ac : Int) := by omega
        have HTN := Lib.hid htn
        have HAN := Lib.hid han
        have hx : (bs t.text).extract 0 tn = bs (t.text.take 40) := by
          rw [extract_bs, List.drop_zero]
          congr 1
          rcases Nat.le_total t.text.length 40 with h | h
          · rw [htn, Nat.min_eq_left h, List.take_length, List.take_of_length_le h]
          · rw [htn, Nat.min_eq_right h]
        have hgv : GR w5 (fun j => (F j ∧ j < w.heap.size) ∧ some j ≠ some g) (cutT t).gv [.int .i64 t.kind, .string (bs (t.text.take 40)), .slice AA an ac] := by
          refine cells_tok ?_
          have h1 := row_take HVA5.out an (by rw [List.length_map]; omega)
          rw [← List.map_take] at h1
          have h2 : t.attrs.take an = t.attrs.take 12 := by
            rcases Nat.le_total t.attrs.length 12 with h | h
            · rw [han, Nat.min_eq_left h, List.take_length, List.take_of_length_le h]
            · rw [han, Nat.min_eq_right h]
          rw [h2] at h1
          exact h1
        have hown := own_set3 HO5.out (by rw [List.length_map]; exact HPL.out.symm) (i := k) (by rw [List.length_map, HPL.out]; exact hlt) (cutT t).gv (.int .i64 t.kind) (.string (bs (t.text.take 40))) (.slice AA an ac) hgv
        rw [← List.map_set, ← HST.out] at hown
        have HOW := Lib.hid hown
        clear hal hX5 hw5 htn han hgv hown
        refine wp_region_still_tail 20 (by kernel_rfl) (by kernel_rfl) ?_
        change wpStill _ _ (World.drew w5) (fun a' => wpList _ _ _ _ a' (World.drew w5)) _ _
        simp only [List.take_succ_cons, List.take_zero, List.drop_succ_cons, List.drop_zero]
        repeat still_step
        refine wpStill_nil ?_
        clear hx
        go_wp2_with fail
        have hb6 : Below w.heap.size w (rowSet3 w5 g (k * 3) (.int .i64 t.kind) (.string (bs (t.text.take 40))) (.slice AA an ac)) := HB5.out.trans (below_of_grown HOW.out.2 HB5.out.size (fun j hj => by have hj : g = j := Option.some.inj hj; omega))
        exact ⟨⟨k + 1, hlt, by go_num, HOW.out.1.below ((Below.refl _ _).drew), hb6.drew⟩, by simp [intOf]; omega⟩
      · have hkl : k = M.length := by omega
        subst hkl
        rw [List.take_length, List.drop_length, List.append_nil, ← HFW.out] at ho
        have hgr := ho.gr (F := fun j => F j ∨ w.heap.size ≤ j) (fun _ h => .inl h.1) (fun j hj => .inr (ho.lt j hj).1)
        have HGR := Lib.hid hgr
        clear ho hgr HO1 HB1
        go_wp2_with fail
        go_ret
        exact ⟨_, rfl, HGR.out, HB.out⟩
end Go.Proofs.YtijpfcjlochahaaDoor
