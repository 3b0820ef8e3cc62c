/- The walk of intarsiatop.some: few replies of little text. -/
import Derived.Test.YtijpfcjlochahaaGreatDoorOpenP
import Derived.Test.YtijpfcjlochahaaGreatDoorDocL
import Derived.Test.YtijpfcjlochahaaGreatDoorApp
namespace Go.Proofs.YtijpfcjlochahaaGreatDoor
open Go Go.RowKit
set_option linter.unusedVariables false
set_option linter.unusedSimpArgs false

theorem repl_cells {w : World} {F : Nat → Prop} {r : Rep} {cs : List Value} (h : GR w F r.gv cs) : cs = [.string (bs r.url), .int .i64 r.code, .bool r.esi, .string (bs r.body), .int .i64 r.bad] := by
  obtain ⟨a0, b0, rfl, h0, h⟩ := GRa_cons.1 (GR_agg.1 h)
  obtain ⟨a1, b1, rfl, h1, h⟩ := GRa_cons.1 h
  obtain ⟨a2, b2, rfl, h2, h⟩ := GRa_cons.1 h
  obtain ⟨a3, b3, rfl, h3, h⟩ := GRa_cons.1 h
  obtain ⟨a4, b4, rfl, h4, h⟩ := GRa_cons.1 h
  rw [GR_str.1 h0, GR_int.1 h1, GR_bool.1 h2, GR_str.1 h3, GR_int.1 h4, GRa_nil.1 h]
  rfl
theorem cells_rep {w : World} {F : Nat → Prop} (r : Rep) : GR w F r.gv [.string (bs r.url), .int .i64 r.code, .bool r.esi, .string (bs r.body), .int .i64 r.bad] :=
  GR_agg.2 (GRa_cons.2 ⟨[_], _, rfl, GR_str.2 rfl, GRa_cons.2 ⟨[_], _, rfl, GR_int.2 rfl, GRa_cons.2 ⟨[_], _, rfl, GR_bool.2 rfl, GRa_cons.2 ⟨[_], _, rfl, GR_str.2 rfl, GRa_cons.2 ⟨[_], [], rfl, GR_int.2 rfl, GRa_nil.2 rfl⟩⟩⟩⟩⟩)
theorem own_rep_at {w : World} {base : Nat} {e : TypeId} {G : Nat → Prop} {A : Option Addr} {n c k : Nat} {l : List Rep} {t : Rep} (h : OwnR w base e 5 G (.slice A n c) (l.map Rep.gv)) (hn : n = l.length) (hk : l[k]? = some t) :
    ∃ g, A = some ⟨g, 0, none⟩ ∧ n ≤ c ∧ c ≤ maxLen ∧ base ≤ g ∧ g < w.heap.size ∧ w.cell? ⟨g, k * 5, none⟩ = some (.string (bs t.url)) ∧ w.cell? ⟨g, k * 5 + 1, none⟩ = some (.int .i64 t.code) ∧ w.cell? ⟨g, k * 5 + 2, none⟩ = some (.bool t.esi) ∧
      w.cell? ⟨g, k * 5 + 3, none⟩ = some (.string (bs t.body)) ∧ w.cell? ⟨g, k * 5 + 4, none⟩ = some (.int .i64 t.bad) ∧ ∀ j, w.frozen? ⟨g, j, none⟩ = false := by
  subst hn
  obtain ⟨xs, hr, hg⟩ := h
  rw [List.length_map] at hr
  have hk0 := (List.getElem?_eq_some_iff.1 hk).1
  have hr0 := hr
  rcases hr.2 with ⟨_, h0⟩ | ⟨g, cap, cur, hv, hb, hh, hn, hm, _⟩
  · omega
  · injection hv with e1 e2 e3
    subst e1 e3
    obtain ⟨cs, h1, h2, h3⟩ := hg.at_ k (by simpa using hk0)
    have e : (l.map Rep.gv)[k]'(by simpa using hk0) = t.gv := by
      rw [List.getElem_map]
      rw [List.getElem?_eq_getElem hk0] at hk
      rw [Option.some.inj hk]
    rw [e] at h1
    obtain rfl := repl_cells h1
    have hlt := (hr0.lt g rfl)
    refine ⟨g, rfl, hn, hm, hlt.1, hlt.2, ?_, ?_, ?_, ?_, ?_, fun j => hr0.frozenAt j⟩
    · rw [hr0.cellAt _ (by omega)]; exact h3 0 (by omega)
    · rw [hr0.cellAt _ (by omega)]; exact h3 1 (by omega)
    · rw [hr0.cellAt _ (by omega)]; exact h3 2 (by omega)
    · rw [hr0.cellAt _ (by omega)]; exact h3 3 (by omega)
    · rw [hr0.cellAt _ (by omega)]; exact h3 4 (by omega)
def repSet2 (W : World) (g o : Nat) (c0 c3 : Value) : World := (W.setCell ⟨g, o, none⟩ c0).setCell ⟨g, o + 3, none⟩ c3
theorem own_set_rep {w : World} {base : Nat} {e : TypeId} {G : Nat → Prop} {g n c i : Nat} {l : List Rep} {t : Rep} (h : OwnR w base e 5 G (.slice (some ⟨g, 0, none⟩) n c) (l.map Rep.gv)) (hn : n = l.length) (hk : l[i]? = some t) (u b : List UInt8) :
    OwnR (repSet2 w g (i * 5) (.string (bs u)) (.string (bs b))) base e 5 G (.slice (some ⟨g, 0, none⟩) n c) ((l.set i ⟨u, t.code, t.esi, b, t.bad⟩).map Rep.gv) ∧ w.grownBy (repSet2 w g (i * 5) (.string (bs u)) (.string (bs b))) (some g) := by
  subst hn
  have hi := (List.getElem?_eq_some_iff.1 hk).1
  obtain ⟨xs, hr, hg⟩ := h
  rw [List.length_map] at hr
  have e0 : l.map Rep.gv = (l.take i).map Rep.gv ++ (t.gv :: (l.drop (i + 1)).map Rep.gv) := by
    rw [← List.map_cons, ← List.map_append]
    congr 1
    have : t = l[i] := by rw [List.getElem?_eq_getElem hi] at hk; exact (Option.some.inj hk).symm
    rw [this, ← List.drop_eq_getElem_cons hi, List.take_append_drop]
  rw [e0] at hg
  obtain ⟨a, b', rfl, h1, h2⟩ := GRl.split hg
  obtain ⟨cs, b2, rfl, h3, h4, h5⟩ := GRl_cons.1 h2
  obtain rfl := repl_cells h4
  have ha : a.length = i * 5 := by rw [h1.length, List.length_map, List.length_take, Nat.min_eq_left (by omega)]
  obtain ⟨r0, g0⟩ := hr.stored (i * 5) (.string (bs u))
  obtain ⟨r1, g1⟩ := r0.stored (i * 5 + 3) (.string (bs b))
  have hgr : w.grownBy (repSet2 w g (i * 5) (.string (bs u)) (.string (bs b))) (some g) := grown_trans g0 g1
  refine ⟨⟨a ++ ([.string (bs u), .int .i64 t.code, .bool t.esi, .string (bs b), .int .i64 t.bad] ++ b2), ?_, ?_⟩, hgr⟩
  · have e1 : ((a ++ ([Value.string (bs t.url), Value.int .i64 t.code, Value.bool t.esi, Value.string (bs t.body), Value.int .i64 t.bad] ++ b2)).set (i * 5) (.string (bs u))).set (i * 5 + 3) (.string (bs b)) = a ++ ([Value.string (bs u), Value.int .i64 t.code, Value.bool t.esi, Value.string (bs b), Value.int .i64 t.bad] ++ b2) := by
      rw [← ha]; simp
    rw [e1] at r1
    rw [List.length_map, List.length_set]
    exact r1
  · have e2 : (l.set i ⟨u, t.code, t.esi, b, t.bad⟩).map Rep.gv = (l.take i).map Rep.gv ++ (Rep.gv ⟨u, t.code, t.esi, b, t.bad⟩ :: (l.drop (i + 1)).map Rep.gv) := by
      rw [List.set_eq_take_append_cons_drop, if_pos hi, List.map_append, List.map_cons]
    rw [e2]
    have key : GRl w (fun k => G k ∧ some k ≠ some g) 5 ((l.take i).map Rep.gv ++ (Rep.gv ⟨u, t.code, t.esi, b, t.bad⟩ :: (l.drop (i + 1)).map Rep.gv)) (a ++ ([.string (bs u), .int .i64 t.code, .bool t.esi, .string (bs b), .int .i64 t.bad] ++ b2)) :=
      GRl.append (GRl_cons.2 ⟨_, _, rfl, rfl, cells_rep ⟨u, t.code, t.esi, b, t.bad⟩, h5⟩) h1
    exact GRl.mono (fun _ h => h) (fun k hk hlt => hgr.block k hlt hk.2) 5 _ _ key
theorem rpart_step {α : Type} (f : α → α) (l : List α) (k : Nat) (h : k < l.length) : (l.take (k + 1)).map f ++ l.drop (k + 1) = ((l.take k).map f ++ l.drop k).set k (f l[k]) := by
  have hl : ((l.take k).map f).length = k := by rw [List.length_map, List.length_take]; omega
  have e := List.drop_eq_getElem_cons h
  rw [List.set_append_right _ _ (by omega), hl, Nat.sub_self, e, List.set_cons_zero, List.take_succ_eq_append_getElem h, List.map_append, List.append_assoc]
  rfl
theorem rpart_at {α : Type} (f : α → α) (l : List α) (k : Nat) (h : k < l.length) : ((l.take k).map f ++ l.drop k)[k]? = some l[k] := by
  have hl : ((l.take k).map f).length = k := by rw [List.length_map, List.length_take]; omega
  rw [List.getElem?_append_right (by omega), hl, Nat.sub_self]
  simp [h]
theorem take_cut2 (s : List UInt8) (n tn : Nat) (h : tn = min s.length n) : (bs s).extract 0 tn = bs (s.take n) := by
  rw [extract_bs, List.drop_zero]
  congr 1
  rcases Nat.le_total s.length n with h1 | h1
  · rw [h, Nat.min_eq_left h1, List.take_length, List.take_of_length_le h1]
  · rw [h, Nat.min_eq_right h1]
def cutRep (r : Rep) : Rep := ⟨r.url.take 500, r.code, r.esi, r.body.take 1500, r.bad⟩
def someF (l : List Rep) : List Rep := (l.take 12).map cutRep
def SomePost (F : Nat → Prop) (l : List Rep) (w : World) (e : Ending) (w' : World) : Prop :=
  ∃ A c, e = .returned (.slice A (someF l).length c) ∧ Hid (OwnR w' w.heap.size 41 5 (fun g => F g ∧ g < w.heap.size) (.slice A (someF l).length c) ((someF l).map Rep.gv)) ∧ Below w.heap.size w w'
theorem repTy : ElemTy Tryz.prog 26 41 5 56 := by
  obtain ⟨i0, hi, hz0, hz1, hz2⟩ := info_parts (show (Tryz.prog.info? 41).map (fun i => (i.zero, i.size, i.bytes)) = some (some (.agg #[.string (bs []), .int .i64 0, .bool false, .string (bs []), .int .i64 0]), 5, 56) by kernel_rfl)
  exact ⟨i0, _, Tryz.underlying26, hi, hz0, hz1, hz2, rfl, by omega⟩
set_option maxRecDepth 20000 in
set_option maxHeartbeats 4000000 in
theorem some_calls (l : List Rep) (v : Value) (F : Nat → Prop) (w : World) (hv : GR w F (.row 5 (l.map Rep.gv)) [v]) :
    Calls Tryz.prog 9 #[v] w (SomePost F l w) := by
  have hSP : ∀ (A : Option Addr) (c : Nat) (w' : World), OwnR w' w.heap.size 41 5 (fun g => F g ∧ g < w.heap.size) (.slice A (someF l).length c) ((someF l).map Rep.gv) → Below w.heap.size w w' → SomePost F l w (.returned (.slice A (someF l).length c)) w' := fun _ _ _ h1 h2 => ⟨_, _, rfl, Lib.hid h1, h2⟩
  have HSP := Lib.hid hSP
  clear hSP
  generalize SomePost F l w = SP at *
  obtain ⟨A, c, rfl, hcs⟩ := reps_open hv
  have hlc : l.length ≤ c ∧ c ≤ maxLen := ⟨hcs.1, hcs.2.1⟩
  obtain ⟨hlc, hcm⟩ := hlc
  have hl : l.length ≤ maxLen := Nat.le_trans hlc hcm
  unfold maxLen at hl hcm
  have hgt := row_take (GR.lt_heap _ _ hv) (min l.length 12) (by rw [List.length_map]; omega)
  rw [← List.map_take] at hgt
  have hm : l.take (min l.length 12) = l.take 12 := by
    rcases Nat.le_total l.length 12 with h | h
    · rw [Nat.min_eq_left h, List.take_length, List.take_of_length_le h]
    · rw [Nat.min_eq_right h]
  rw [hm] at hgt
  have HFW : Hid (someF l = (l.take 12).map cutRep) := rfl
  have hml : (l.take 12).length = min l.length 12 := by rw [List.length_take, Nat.min_comm]
  obtain ⟨M, hM⟩ : ∃ M, M = l.take 12 := ⟨_, rfl⟩
  rw [← hM] at hgt HFW hml
  have HML := Lib.hid hml
  have HGT := Lib.hid hgt
  have HFL : Hid ((someF l).length = M.length) := by rw [Hid, HFW.out, List.length_map]
  generalize someF l = SF at *
  clear hv hM hm hgt hml hcs
  go_enter Tryz.func9, Tryz.ntmps9
  go_upto_region 1 with (fail)
  go_cut [0] from 5 to 12 (fun v wx => ∃ A1 c1, v = .slice A1 M.length c1 ∧ Hid (OwnR wx w.heap.size 41 5 (fun g => F g ∧ g < w.heap.size) v (M.map Rep.gv)) ∧ Hid (Below w.heap.size w wx))
  case first =>
    have hb1 : Below w.heap.size w (w.alloc (.cells #[] 41)) := (Below.refl _ _).alloc (Nat.le_refl _) _
    have hown : OwnR (w.alloc (.cells #[] 41)) w.heap.size 41 5 (fun g => F g ∧ g < w.heap.size) (.slice (some ⟨w.heap.size, 0, none⟩) 0 0) [] :=
      ⟨[], World.ownsRow_lit w #[] 0 (Nat.le_refl _) (by simp [maxLen]) (by simp), GRl_nil.2 rfl⟩
    obtain ⟨news, hA⟩ := App.of_row (bytes := 56) hown HGT.out hb1 (fun k hk hlt => ⟨hk, fun e => by have e : k = w.heap.size := Option.some.inj e; omega⟩) (by rw [List.length_map, HML.out]; simp; omega) (by omega) hb1.size
    simp only [List.length_nil, List.length_map, Nat.zero_add] at hA
    have HB1 := Lib.hid hb1
    rw [← HML.out] at hA
    have hmi : min (l.length : Int) 12 = (M.length : Int) := by have := HML.out; omega
    have hm0 : (0 : Int) ≤ (M.length : Int) := by omega
    have hm1 : (M.length : Int) ≤ (c : Int) := by have := HML.out; omega
    have HA := Lib.hid hA
    clear hA hb1 hown
    go_wp2_with (at_builtin; go_loud (refine HA.out.plain rfl _ _ _ rfl repTy rfl rfl ?_); intro A5 c5 w5 hown hgr hor; have HO := Lib.hid hown; have HG := Lib.hid hgr; clear hown hgr hor)
    go_meet
    case rel => exact ⟨A5, c5, rfl, by have h := HO.out; rw [List.nil_append] at h; exact h, HB1.out.trans (below_of_grown HG.out HB1.out.size (fun k hk => by have hk : w.heap.size = k := Option.some.inj hk; omega))⟩
  case rest =>
    obtain ⟨A1, c1, rfl, HO1, HB1⟩ := hcut
    have hMl : M.length ≤ 12 := by rw [HML.out]; omega
    clear HGT
    go_wp2_with fail
    go_loopw [14] (fun i wr => ∃ k : Nat, k ≤ M.length ∧ i = .int .i64 k ∧ OwnR wr w.heap.size 41 5 (fun g => F g ∧ g < w.heap.size) (.slice A1 M.length c1) (((M.take k).map cutRep ++ M.drop k).map Rep.gv) ∧ Hid (Below w.heap.size w wr))
      (fun i wr => M.length - (intOf i).toNat)
    case atStart => exact ⟨0, Nat.zero_le _, rfl, by simpa using HO1.out, HB1⟩
    case round =>
      obtain ⟨k, hk, rfl, ho, HB⟩ := hrel
      by_cases hlt : k < M.length
      · have hPl : ((M.take k).map cutRep ++ M.drop k).length = M.length := by rw [List.length_append, List.length_map, List.length_take, List.length_drop]; omega
        have hstep := rpart_step cutRep M k hlt
        have hat := rpart_at cutRep M k hlt
        obtain ⟨g, rfl, hlc2, hcm2, hgb, hgl, t0, t1, t2, t3, t4, hfz⟩ := own_rep_at ho hPl.symm hat
        generalize M[k] = t at *
        unfold maxLen at hcm2
        have HST := Lib.hid hstep
        have HAT := Lib.hid hat
        have HO := Lib.hid ho
        have HPL := Lib.hid hPl
        have HFZ := Lib.hid hfz
        have hk1 : (0 : Int) ≤ (k : Int) := by omega
        have hk2 : (k : Int) < (M.length : Int) := by omega
        clear hstep hat ho hPl hfz HO1 HB1
        go_wp2_with fail
        have hal : Below wr.heap.size wr (wr.alloc (.cells #[.string (bs t.url), .int .i64 t.code, .bool t.esi, .string (bs t.body), .int .i64 t.bad] 41)) := (Below.refl _ _).alloc (Nat.le_refl _) _
        have hX5 := Blk.new wr 41 #[.string (bs t.url), .int .i64 t.code, .bool t.esi, .string (bs t.body), .int .i64 t.bad]
        obtain ⟨w5, hw5⟩ : ∃ w5, w5 = wr.alloc (.cells #[.string (bs t.url), .int .i64 t.code, .bool t.esi, .string (bs t.body), .int .i64 t.bad] 41) := ⟨_, rfl⟩
        rw [← hw5] at hal hX5 ⊢
        have x0 := hX5.cell 0
        have x3 := hX5.cell 3
        have hXg : wr.heap.size ≠ g := by omega
        have HB5 := Lib.hid (HB.out.trans (hal.mono HB.out.size))
        have HO5 := Lib.hid (HO.out.below hal)
        have z0 : w5.frozen? ⟨g, k * 5, none⟩ = false := (hal.frozen (p := ⟨g, k * 5, none⟩) hgl).trans (HFZ.out _)
        have z3 : w5.frozen? ⟨g, k * 5 + 3, none⟩ = false := (hal.frozen (p := ⟨g, k * 5 + 3, none⟩) hgl).trans (HFZ.out _)
        have t0 : w5.cell? ⟨g, k * 5, none⟩ = some (.string (bs t.url)) := (hal.cell (p := ⟨g, k * 5, none⟩) hgl).trans t0
        have t3 : w5.cell? ⟨g, k * 5 + 3, none⟩ = some (.string (bs t.body)) := (hal.cell (p := ⟨g, k * 5 + 3, none⟩) hgl).trans t3
        obtain ⟨un, hun⟩ : ∃ un, un = min t.url.length 500 := ⟨_, rfl⟩
        obtain ⟨bn, hbn⟩ : ∃ bn, bn = min t.body.length 1500 := ⟨_, rfl⟩
        have hsz1 : ((bs t.url).size : Int) = (t.url.length : Int) := by rw [size_bs]
        have hsz2 : ((bs t.body).size : Int) = (t.body.length : Int) := by rw [size_bs]
        have hmu : min (t.url.length : Int) 500 = (un : Int) := by omega
        have hmb : min (t.body.length : Int) 1500 = (bn : Int) := by omega
        have hu0 : (0 : Int) ≤ (un : Int) := by omega
        have hu1 : (un : Int) ≤ (t.url.length : Int) := by omega
        have hb0 : (0 : Int) ≤ (bn : Int) := by omega
        have hb1 : (bn : Int) ≤ (t.body.length : Int) := by omega
        have hx1 := take_cut2 t.url 500 un hun
        have hx2 := take_cut2 t.body 1500 bn hbn
        have HX5 := Lib.hid hX5
        have HXG := Lib.hid hXg
        have HW5 := Lib.hid hw5
        generalize wr.heap.size = X5 at *
        clear hal hX5 hw5 hXg hun hbn t1 t2 t4
        have hS0 : w5.cell? ⟨X5, 0, none⟩ = some (.string (bs t.url)) ∧ w5.cell? ⟨X5, 3, none⟩ = some (.string (bs t.body)) := ⟨HX5.out.cell 0, HX5.out.cell 3⟩
        have HS0 := Lib.hid hS0
        clear hS0
        refine wp_region_held (S := (fun w' => w'.cell? ⟨X5, 0, none⟩ = some (.string (bs t.url)) ∧ w'.cell? ⟨X5, 3, none⟩ = some (.string (bs t.body)))) (by kernel_rfl) ?_
        change wpAnyH _ _ _ _ _ _ _ _ (World.drew _)
        refine wpAnyH_take (i := 0) (v := ?_) rfl (by kernel_rfl) (by kernel_rfl) (by kernel_rfl) (fun _ _ _ h => h) (Or.inl ⟨by rfl, ?_⟩) HS0.out ?_
        rotate_left
        · (intro w_ hS_; obtain ⟨s0, s3⟩ := hS_; go_simp; try with_reducible rfl)
        refine wpAnyH_take (i := 1) (v := ?_) rfl (by kernel_rfl) (by kernel_rfl) (by kernel_rfl) (fun _ _ _ h => h) (Or.inl ⟨by rfl, ?_⟩) HS0.out ?_
        rotate_left
        · (intro w_ hS_; obtain ⟨s0, s3⟩ := hS_; go_simp; try with_reducible rfl)
        refine wpAnyH_take (i := 2) (v := ?_) rfl (by kernel_rfl) (by kernel_rfl) (by kernel_rfl) (fun _ _ _ h => h) (Or.inl ⟨by rfl, ?_⟩) HS0.out ?_
        rotate_left
        · (intro w_ hS_; obtain ⟨s0, s3⟩ := hS_; go_simp; try with_reducible rfl)
        refine wpAnyH_take (i := 3) (v := ?_) rfl (by kernel_rfl) (by kernel_rfl) (by kernel_rfl) (fun _ _ _ h => h) (Or.inl ⟨by rfl, ?_⟩) HS0.out ?_
        rotate_left
        · (intro w_ hS_; obtain ⟨s0, s3⟩ := hS_; go_simp; try with_reducible rfl)
        refine wpAnyH_take (i := 4) (v := ?_) rfl (by kernel_rfl) (by kernel_rfl) (by kernel_rfl) (fun _ _ _ h => h) (Or.inl ⟨by rfl, ?_⟩) HS0.out ?_
        rotate_left
        · (intro w_ hS_; obtain ⟨s0, s3⟩ := hS_; go_simp; try with_reducible rfl)
        refine wpAnyH_take (i := 5) (v := ?_) rfl (by kernel_rfl) (by kernel_rfl) (by kernel_rfl) (fun _ _ _ h => h) (Or.inl ⟨by rfl, ?_⟩) HS0.out ?_
        rotate_left
        · (intro w_ hS_; obtain ⟨s0, s3⟩ := hS_; go_simp; try with_reducible rfl)
        refine wpAnyH_take (i := 6) (v := ?_) rfl (by kernel_rfl) (by kernel_rfl) (by kernel_rfl) (fun _ _ _ h => h) (Or.inl ⟨by rfl, ?_⟩) HS0.out ?_
        rotate_left
        · (intro w_ hS_; obtain ⟨s0, s3⟩ := hS_; go_simp; try with_reducible rfl)
        refine wpAnyH_take (i := 7) (v := ?_) rfl (by kernel_rfl) (by kernel_rfl) (by kernel_rfl) (fun _ _ _ h => h) (Or.inl ⟨by rfl, ?_⟩) HS0.out ?_
        rotate_left
        · (intro w_ hS_; obtain ⟨s0, s3⟩ := hS_; go_simp; try with_reducible rfl)
        refine wpAnyH_take (i := 8) (v := ?_) rfl (by kernel_rfl) (by kernel_rfl) (by kernel_rfl) (fun _ _ _ h => h) (Or.inl ⟨by rfl, ?_⟩) HS0.out ?_
        rotate_left
        · (intro w_ hS_; obtain ⟨s0, s3⟩ := hS_; go_simp; try with_reducible rfl)
        refine wpAnyH_take (i := 9) (v := ?_) rfl (by kernel_rfl) (by kernel_rfl) (by kernel_rfl) (fun _ _ _ h => h) (Or.inl ⟨by rfl, ?_⟩) HS0.out ?_
        rotate_left
        · (intro w_ hS_; obtain ⟨s0, s3⟩ := hS_; go_simp; try with_reducible rfl)
        refine wpAnyH_take (i := 10) (v := ?_) rfl (by kernel_rfl) (by kernel_rfl) (by kernel_rfl) (fun _ _ _ h => h) (Or.inl ⟨by rfl, ?_⟩) HS0.out ?_
        rotate_left
        · (intro w_ hS_; obtain ⟨s0, s3⟩ := hS_; go_simp; try with_reducible rfl)
        refine wpAnyH_take (i := 11) (v := ?_) rfl (by kernel_rfl) (by kernel_rfl) (by kernel_rfl) (fun _ _ _ h => h) (Or.inl ⟨by rfl, ?_⟩) HS0.out ?_
        rotate_left
        · (intro w_ hS_; obtain ⟨s0, s3⟩ := hS_; go_simp; try with_reducible rfl)
        refine wpAnyH_take (i := 12) (v := ?_) rfl (by kernel_rfl) (by kernel_rfl) (by kernel_rfl) (fun _ _ _ h => h) (Or.inl ⟨by rfl, ?_⟩) HS0.out ?_
        rotate_left
        · (intro w_ hS_; obtain ⟨s0, s3⟩ := hS_; go_simp; try with_reducible rfl)
        refine wpAnyH_take (i := 13) (v := ?_) rfl (by kernel_rfl) (by kernel_rfl) (by kernel_rfl) (fun _ _ _ h => h) (Or.inl ⟨by rfl, ?_⟩) HS0.out ?_
        rotate_left
        · (intro w_ hS_; obtain ⟨s0, s3⟩ := hS_; go_simp; try with_reducible rfl)
        refine wpAnyH_take (i := 14) (v := ?_) rfl (by kernel_rfl) (by kernel_rfl) (by kernel_rfl) (fun _ _ _ h => h) (Or.inl ⟨by rfl, ?_⟩) HS0.out ?_
        rotate_left
        · (intro w_ hS_; obtain ⟨s0, s3⟩ := hS_; go_simp; try with_reducible rfl)
        refine wpAnyH_take (i := 15) (v := ?_) rfl (by kernel_rfl) (by kernel_rfl) (by kernel_rfl) (fun _ _ _ h => h) (Or.inl ⟨by rfl, ?_⟩) HS0.out ?_
        rotate_left
        · (intro w_ hS_; obtain ⟨s0, s3⟩ := hS_; go_simp; try with_reducible rfl)
        refine wpAnyH_take (i := 16) (v := ?_) rfl (by kernel_rfl) (by kernel_rfl) (by kernel_rfl) (fun _ _ _ h => h) (Or.inl ⟨by rfl, ?_⟩) HS0.out ?_
        rotate_left
        · (intro w_ hS_; obtain ⟨s0, s3⟩ := hS_; go_simp; try with_reducible rfl)
        refine wpAnyH_take (i := 17) (v := ?_) rfl (by kernel_rfl) (by kernel_rfl) (by kernel_rfl) (fun _ _ _ h => h) (Or.inl ⟨by rfl, ?_⟩) HS0.out ?_
        rotate_left
        · (intro w_ hS_; obtain ⟨s0, s3⟩ := hS_; go_simp; try with_reducible rfl)
        refine wpAnyH_take (i := 18) (v := ?_) rfl (by kernel_rfl) (by kernel_rfl) (by kernel_rfl) (fun _ _ _ h => h) (Or.inl ⟨by rfl, ?_⟩) HS0.out ?_
        rotate_left
        · (intro w_ hS_; obtain ⟨s0, s3⟩ := hS_; go_simp; try with_reducible rfl)
        refine wpAnyH_take (i := 19) (v := ?_) rfl (by kernel_rfl) (by kernel_rfl) (by kernel_rfl) (fun _ _ _ h => h) (Or.inl ⟨by rfl, ?_⟩) HS0.out ?_
        rotate_left
        · (intro w_ hS_; obtain ⟨s0, s3⟩ := hS_; go_simp; try with_reducible rfl)
        refine wpAnyH_ready (rs := [20]) (by kernel_rfl) (by simp) ?_
        refine AllReadyH.cons rfl (fun K_ hK_ => ?_) AllReadyH.nil
        go_simp
        change K_ _ (w5.setCell ⟨g, k * 5, none⟩ (.string (bs (t.url.take 500)))).drew
        refine hK_.out _ _ (by have h := HX5.out.far (p := ⟨g, k * 5, none⟩) HXG.out (.string (bs (t.url.take 500))); exact ⟨h.cell 0, h.cell 3⟩) fun _ => ?_
        clear hK_ K_
        have HS6 : Hid ((w5.setCell ⟨g, k * 5, none⟩ (.string (bs (t.url.take 500)))).drew.cell? ⟨X5, 0, none⟩ = some (.string (bs t.url)) ∧ (w5.setCell ⟨g, k * 5, none⟩ (.string (bs (t.url.take 500)))).drew.cell? ⟨X5, 3, none⟩ = some (.string (bs t.body))) := by
          have h := HX5.out.far (p := ⟨g, k * 5, none⟩) HXG.out (.string (bs (t.url.take 500)))
          exact ⟨h.cell 0, h.cell 3⟩
        refine wpAnyH_take (i := 21) (v := ?_) rfl (by kernel_rfl) (by kernel_rfl) (by kernel_rfl) (fun _ _ _ h => h) (Or.inl ⟨by rfl, ?_⟩) HS6.out ?_
        rotate_left
        · (intro w_ hS_; obtain ⟨s0, s3⟩ := hS_; go_simp; try with_reducible rfl)
        refine wpAnyH_take (i := 22) (v := ?_) rfl (by kernel_rfl) (by kernel_rfl) (by kernel_rfl) (fun _ _ _ h => h) (Or.inl ⟨by rfl, ?_⟩) HS6.out ?_
        rotate_left
        · (intro w_ hS_; obtain ⟨s0, s3⟩ := hS_; go_simp; try with_reducible rfl)
        refine wpAnyH_ready (rs := [23]) (by kernel_rfl) (by simp) ?_
        refine AllReadyH.cons rfl (fun K_ hK_ => ?_) AllReadyH.nil
        go_simp
        change K_ _ (repSet2 w5 g (k * 5) (.string (bs (t.url.take 500))) (.string (bs (t.body.take 1500)))).drew
        have hS7 : (repSet2 w5 g (k * 5) (.string (bs (t.url.take 500))) (.string (bs (t.body.take 1500)))).drew.cell? ⟨X5, 0, none⟩ = some (.string (bs t.url)) ∧ (repSet2 w5 g (k * 5) (.string (bs (t.url.take 500))) (.string (bs (t.body.take 1500)))).drew.cell? ⟨X5, 3, none⟩ = some (.string (bs t.body)) := by
          have h := (HX5.out.far (p := ⟨g, k * 5, none⟩) HXG.out (.string (bs (t.url.take 500)))).far (p := ⟨g, k * 5 + 3, none⟩) HXG.out (.string (bs (t.body.take 1500)))
          exact ⟨h.cell 0, h.cell 3⟩
        have hown := own_set_rep HO5.out HPL.out.symm HAT.out (t.url.take 500) (t.body.take 1500)
        generalize repSet2 w5 g (k * 5) (.string (bs (t.url.take 500))) (.string (bs (t.body.take 1500))) = w6 at *
        refine hK_.out _ _ hS7 fun _ => ?_
        clear hK_ K_ hS7 HS6 HS0
        refine wpAnyH_done (by kernel_rfl) ?_ _
        rw [show (⟨t.url.take 500, t.code, t.esi, t.body.take 1500, t.bad⟩ : Rep) = cutRep t from rfl, ← HST.out] at hown
        have HOW := Lib.hid hown
        clear hx1 hx2 hown
        go_wp2_with fail
        have hb6 : Below w.heap.size w w6 := HB5.out.trans (below_of_grown HOW.out.2 HB5.out.size (fun j hj => by have hj : g = j := Option.some.inj hj; omega))
        exact ⟨⟨k + 1, hlt, by go_num, HOW.out.1.below ((Below.refl _ _).drew), hb6.drew⟩, by simp [intOf]; omega⟩
      · have hkl : k = M.length := by omega
        subst hkl
        rw [List.take_length, List.drop_length, List.append_nil, ← HFW.out] at ho
        have HOO := Lib.hid ho
        have HFL2 := HFL
        clear ho HO1 HB1
        rw [Hid] at HFL2
        rw [← HFL2] at HOO
        go_wp2_with fail
        show SP (.returned (.slice A1 M.length c1)) wr
        rw [← HFL2]
        exact HSP.out _ _ _ HOO.out HB.out
end Go.Proofs.YtijpfcjlochahaaGreatDoor
