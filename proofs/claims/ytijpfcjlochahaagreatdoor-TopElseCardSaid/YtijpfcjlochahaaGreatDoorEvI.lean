/- The walks of eval's good and inline. The walk of eval's inline. -/
import Derived.Test.YtijpfcjlochahaaGreatDoorEvM
import Derived.BigRegion
import Derived.Test.YtijpfcjlochahaaGreatDoorLnkP
set_option linter.unusedVariables false
set_option linter.unusedSimpArgs false
namespace Go.Proofs.YtijpfcjlochahaaGreatDoor
open Go Go.RowKit
set_option linter.unusedVariables false
set_option linter.unusedSimpArgs false

/-- The cells of a reply at a place. -/
structure RepIn (w : World) (b o : Nat) (r : Rep) : Prop where
  c0 : w.cell? ⟨b, o, none⟩ = some (.string (bs r.url))
  c1 : w.cell? ⟨b, o + 1, none⟩ = some (.int .i64 r.code)
  c2 : w.cell? ⟨b, o + 2, none⟩ = some (.bool r.esi)
  c3 : w.cell? ⟨b, o + 3, none⟩ = some (.string (bs r.body))
  c4 : w.cell? ⟨b, o + 4, none⟩ = some (.int .i64 r.bad)
theorem rep_cells {w : World} {F : Nat → Prop} {r : Rep} {cs : List Value} (h : GR w F r.gv cs) : cs = [.string (bs r.url), .int .i64 r.code, .bool r.esi, .string (bs r.body), .int .i64 r.bad] := by
  obtain ⟨u, c, e, b, d⟩ := r
  obtain ⟨x0, y0, rfl, h0, g0⟩ := GRa_cons.1 (GR_agg.1 h)
  obtain ⟨x1, y1, rfl, h1, g1⟩ := GRa_cons.1 g0
  obtain ⟨x2, y2, rfl, h2, g2⟩ := GRa_cons.1 g1
  obtain ⟨x3, y3, rfl, h3, g3⟩ := GRa_cons.1 g2
  obtain ⟨x4, y4, rfl, h4, g4⟩ := GRa_cons.1 g3
  rw [GR_str] at h0 h3
  rw [GR_int] at h1 h4
  rw [GR_bool] at h2
  rw [GRa_nil] at g4
  subst h0 h1 h2 h3 h4 g4
  rfl
theorem reps_open {w : World} {F : Nat → Prop} {l : List Rep} {v : Value} (h : GR w F (.row 5 (l.map Rep.gv)) [v]) :
    ∃ A c, v = .slice A l.length c ∧ l.length ≤ c ∧ c ≤ maxLen ∧ (l ≠ [] → ∃ b o, A = some ⟨b, o, none⟩ ∧ F b ∧ ∀ i (hi : i < l.length), RepIn w b (o + i * 5) l[i]) := by
  obtain ⟨A, c, h1, h2, h3, h4⟩ := row_open h (by omega)
  simp only [List.length_map] at h1 h2 h4
  refine ⟨A, c, h1, h2, h3, fun hne => ?_⟩
  obtain ⟨b, o, hA, hF, hc⟩ := h4 (by simpa using hne)
  refine ⟨b, o, hA, hF, fun i hi => ?_⟩
  obtain ⟨cs, g1, _, g3⟩ := hc i hi
  rw [List.getElem_map] at g1
  obtain rfl := rep_cells g1
  exact ⟨g3 0 _ rfl, g3 1 _ rfl, g3 2 _ rfl, g3 3 _ rfl, g3 4 _ rfl⟩
theorem RepIn.below {w w' : World} {b o : Nat} {r : Rep} (h : RepIn w b o r) (hb : Below w.heap.size w w') (hlt : b < w.heap.size) : RepIn w' b o r :=
  ⟨(hb.cell (p := ⟨b, o, none⟩) hlt).trans h.c0, (hb.cell (p := ⟨b, o + 1, none⟩) hlt).trans h.c1, (hb.cell (p := ⟨b, o + 2, none⟩) hlt).trans h.c2, (hb.cell (p := ⟨b, o + 3, none⟩) hlt).trans h.c3,
   (hb.cell (p := ⟨b, o + 4, none⟩) hlt).trans h.c4⟩
def Rep.val (r : Rep) : Value := .agg #[.string (bs r.url), .int .i64 r.code, .bool r.esi, .string (bs r.body), .int .i64 r.bad]
set_option maxRecDepth 20000 in
set_option maxHeartbeats 1000000 in
theorem good1_calls (r : Rep) (u : List UInt8) (pb : Nat) (w : World) (h : w.cell? ⟨pb, 0, none⟩ = some (.string (bs u))) :
    Calls Tryz.prog 208 #[r.val, .pointer (some ⟨pb, 0, none⟩)] w fun e w' => e = .returned (.bool (r.url == u)) ∧ Below w.heap.size w w' := by
  have hlt : pb < w.heap.size := World.block_lt_of_cell? w _ h
  obtain ⟨ru, rc, re, rb, rd⟩ := r
  simp only [Rep.val]
  go_enter Tryz.func208, Tryz.ntmps208
  go_wp2_with fail
  go_ret
  exact ⟨ret_bool (by rw [toList_bs, toList_bs]), (Below.refl _ _).alloc (Nat.le_refl _) _⟩
/-- Which reply is the first of an address. -/
theorem find_none {l : List Rep} {u : List UInt8} (h : ∀ k (hk : k < l.length), (l[k].url == u) = false) : goodF l u = none := by
  unfold goodF
  rw [List.find?_eq_none]
  intro x hx
  obtain ⟨k, hk, rfl⟩ := List.getElem_of_mem hx
  rw [h k hk]
  simp
theorem find_at {l : List Rep} {u : List UInt8} {k : Nat} (hk : k < l.length) (h : ∀ j (hj : j < l.length), j < k → (l[j].url == u) = false) (hu : (l[k].url == u) = true) : goodF l u = some l[k] := by
  unfold goodF
  have e : l = l.take k ++ (l[k] :: l.drop (k + 1)) := by rw [← List.drop_eq_getElem_cons hk, List.take_append_drop]
  have h1 : (l.take k).find? (fun r => r.url == u) = none := by
    rw [List.find?_eq_none]
    intro x hx
    obtain ⟨j, hj, rfl⟩ := List.getElem_of_mem hx
    rw [List.length_take] at hj
    rw [List.getElem_take, h j (by omega) (by omega)]
    simp
  conv => lhs; rw [e]
  rw [List.find?_append, h1, List.find?_cons, hu]
  rfl
set_option maxRecDepth 20000 in
set_option maxHeartbeats 2000000 in
theorem indexReply_calls (l : List Rep) (v : Value) (F : Nat → Prop) (u : List UInt8) (pb : Nat) (w : World) (h : w.cell? ⟨pb, 0, none⟩ = some (.string (bs u))) (hv : GR w F (.row 5 (l.map Rep.gv)) [v]) :
    Calls Tryz.prog 207 #[v, .func (.func 208) #[] #[.pointer (some ⟨pb, 0, none⟩)]] w
      fun e w' => ((e = .returned (.int .i64 (-1)) ∧ Hid (goodF l u = none)) ∨ ∃ (k : Nat) (hk : k < l.length), e = .returned (.int .i64 (k : Int)) ∧ Hid (goodF l u = some l[k])) ∧ Below w.heap.size w w' := by
  obtain ⟨A, c, rfl, hlc, hcm, hop⟩ := reps_open (GR.lt_heap _ _ hv)
  have HOP := Lib.hid hop
  have HU := Lib.hid h
  clear hop hv h
  unfold maxLen at hcm
  go_enter Tryz.func207, Tryz.ntmps207
  go_wp2_with fail
  go_loopw [5, 8] (fun _ i wr => ∃ k : Nat, k ≤ l.length ∧ i = .int .i64 k ∧ Hid (Below w.heap.size w wr) ∧ Hid (∀ j (hj : j < l.length), j < k → (l[j].url == u) = false))
     (fun _ i wr => l.length - (intOf i).toNat)
  case atStart => exact ⟨0, Nat.zero_le _, rfl, Below.refl _ _, fun j hj h => by omega⟩
  case round =>
    obtain ⟨k, hk, rfl, HB, HN⟩ := hrel
    by_cases hlt : k < l.length
    · obtain ⟨b, o, rfl, ⟨_, hbw⟩, hop⟩ := HOP.out (by rintro rfl; simp at hlt)
      have hE := (hop k hlt).below HB.out hbw
      have e0 := hE.c0
      have e1 := hE.c1
      have e2 := hE.c2
      have e3 := hE.c3
      have e4 := hE.c4
      have hu2 := (HB.out.cell (p := ⟨pb, 0, none⟩) (World.block_lt_of_cell? w _ HU.out)).trans HU.out
      have HFA := Lib.hid (fun hu => find_at (u := u) hlt (HN.out) hu)
      have HNX : Hid ((l[k].url == u) = false → ∀ j (hj : j < l.length), j < k + 1 → (l[j].url == u) = false) := fun h j hj hjk => by
        by_cases e : j = k
        · subst e; exact h
        · exact HN.out j hj (by omega)
      have HLT := Lib.hid hlt
      have hk1 : (0 : Int) ≤ (k : Int) := by omega
      have hk2 : (k : Int) < (l.length : Int) := by omega
      clear hop hE hbw HN
      generalize hx : l[k] = x at *
      have HX := Lib.hid hx
      clear hx
      go_wp2_with fail
      refine (good1_calls x u pb wr hu2).mono ?_
      rintro e w2 ⟨rfl, hb2⟩
      have HB2 := Lib.hid (HB.out.trans (hb2.mono HB.out.size))
      clear hb2
      cases hq : (x.url == u) with
      | true =>
        have HF := Lib.hid (HFA.out hq)
        clear hq
        go_wp2_with fail
        go_ret
        exact ⟨.inr ⟨k, HLT.out, rfl, HF.out.trans (congrArg some HX.out.symm)⟩, HB2.out⟩
      | false =>
        have HF := Lib.hid (HNX.out hq)
        clear hq
        go_wp2_with fail
        go_roundw
        case rel => exact ⟨k + 1, HLT.out, by go_num, HB2.out, HF.out⟩
        case measure => have := HLT.out; simp [intOf]; omega
    · have hkl : k = l.length := by omega
      have HF : Hid (goodF l u = none) := find_none fun j hj => HN.out j hj (by omega)
      subst hkl
      go_wp2_with fail
      go_ret
      exact ⟨.inl ⟨rfl, HF.out⟩, HB.out⟩
def repCells (r : Rep) : Array Value := #[.string (bs r.url), .int .i64 r.code, .bool r.esi, .string (bs r.body), .int .i64 r.bad]
def rep0 : Rep := ⟨[], 0, false, [], 0⟩
def fill5 (W : World) (R : Nat) (r : Rep) : World :=
  ((((W.setCell ⟨R, 0, none⟩ (.string (bs r.url))).setCell ⟨R, 1, none⟩ (.int .i64 r.code)).setCell ⟨R, 2, none⟩ (.bool r.esi)).setCell ⟨R, 3, none⟩ (.string (bs r.body))).setCell ⟨R, 4, none⟩ (.int .i64 r.bad)
theorem fill5_blk {W : World} {R : Nat} {t : TypeId} {a0 a1 a2 a3 a4 : Value} (h : Blk W R t #[a0, a1, a2, a3, a4]) (r : Rep) : Blk (fill5 W R r) R t (repCells r) :=
  ((((h.set_ 0 (.string (bs r.url))).set_ 1 (.int .i64 r.code)).set_ 2 (.bool r.esi)).set_ 3 (.string (bs r.body))).set_ 4 (.int .i64 r.bad)
theorem fill5_below {B R : Nat} {a w : World} (h : Below B a w) (hR : B ≤ R) (r : Rep) : Below B a (fill5 w R r) :=
  ((((h.setCell (p := ⟨R, 0, none⟩) hR _).setCell (p := ⟨R, 1, none⟩) hR _).setCell (p := ⟨R, 2, none⟩) hR _).setCell (p := ⟨R, 3, none⟩) hR _).setCell (p := ⟨R, 4, none⟩) hR _
theorem good_results {w : World} {X : Nat} {tmps : Array Value} {r : Rep} {x y : Value} (h4 : tmps[4]?.getD undef = .pointer (some ⟨X, 0, none⟩)) (h5 : tmps[5]?.getD undef = x) (h6 : tmps[6]?.getD undef = y) (B0 : Blk w X 41 (repCells r)) :
    (results Tryz.f195 tmps).run Tryz.prog w = .ok (.tuple #[r.val, x, y]) w := by
  have a0 := B0.cell 0
  have a1 := B0.cell 1
  have a2 := B0.cell 2
  have a3 := B0.cell 3
  have a4 := B0.cell 4
  simp [repCells] at a0 a1 a2 a3 a4
  simp [results, Tryz.results195, go_sem, h4, h5, h6, a0, a1, a2, a3, a4, Rep.val]
def goodV : Option Rep → Value
  | none => .tuple #[rep0.val, .int .i64 0, .bool false]
  | some r => .tuple #[r.val, .int .i64 (repBad r), .bool true]
set_option maxRecDepth 20000 in
set_option maxHeartbeats 4000000 in
theorem good_calls (l : List Rep) (v : Value) (F : Nat → Prop) (u : List UInt8) (w : World) (hv : GR w F (.row 5 (l.map Rep.gv)) [v]) :
    Calls Tryz.prog 195 #[v, .string (bs u)] w fun e w' => e = .returned (goodV (goodF l u)) ∧ Below w.heap.size w w' := by
  obtain ⟨A, c, rfl, hlc, hcm, hop⟩ := reps_open (GR.lt_heap _ _ hv)
  unfold maxLen at hcm
  have HOP := Lib.hid hop
  have h1 := Blk.new w 9 #[.string (bs u)]
  have h2 := Blk.new (w.alloc (.cells #[.string (bs u)] 9)) 41 (repCells rep0)
  have hb1 : Below w.heap.size w (w.alloc (.cells #[.string (bs u)] 9)) := (Below.refl _ _).alloc (Nat.le_refl _) _
  have hb2 := hb1.alloc hb1.size (.cells (repCells rep0) 41)
  have hp : ((w.alloc (.cells #[.string (bs u)] 9)).alloc (.cells (repCells rep0) 41)).cell? ⟨w.heap.size, 0, none⟩ = some (.string (bs u)) := (h1.alloc _).cell 0
  have HIX := Lib.hid (indexReply_calls l (.slice A l.length c) F u w.heap.size _ hp (hv.below hb2))
  have HR := Lib.hid h2
  have HB := Lib.hid hb2
  rw [size_alloc] at HR
  clear h1 h2 hb1 hb2 hp hv hop
  go_enter Tryz.func195, Tryz.ntmps195
  go_wp2_with fail
  refine HIX.out.mono ?_
  rintro e w1 ⟨hd, hb⟩
  have HR1 := Lib.hid (HR.out.below hb HR.out.lt)
  have HB1 := Lib.hid (HB.out.trans (hb.mono HB.out.size))
  clear hb HR HB HIX
  rcases hd with ⟨rfl, HN⟩ | ⟨k, hk, rfl, HF⟩
  · skip
    have r0 := HR1.out.cell 0
    have r1 := HR1.out.cell 1
    have r2 := HR1.out.cell 2
    have r3 := HR1.out.cell 3
    have r4 := HR1.out.cell 4
    simp [repCells] at r0 r1 r2 r3 r4
    have f0 := HR1.out.frozen 0
    have f1 := HR1.out.frozen 1
    have f2 := HR1.out.frozen 2
    have f3 := HR1.out.frozen 3
    have f4 := HR1.out.frozen 4
    go_wp2_with fail
    have q1 := fill5_blk HR1.out rep0
    have q2 := fill5_below HB1.out (show w.heap.size ≤ w.heap.size + 1 by omega) rep0
    change bodyPost _ _ _ _ _ (fill5 w1 (w.heap.size + 1) rep0)
    refine bodyPost_ret (good_results rfl rfl rfl q1) rfl ⟨?_, q2⟩
    rw [HN.out]
    rfl
  · obtain ⟨b, o, rfl, ⟨_, hbw⟩, hop⟩ := HOP.out (by rintro rfl; simp at hk)
    have hE := (hop k hk).below HB1.out hbw
    have e0 := hE.c0
    have e1 := hE.c1
    have e2 := hE.c2
    have e3 := hE.c3
    have e4 := hE.c4
    have hk1 : (0 : Int) ≤ (k : Int) := by omega
    have hk2 : (k : Int) < (l.length : Int) := by omega
    clear hop hE hbw
    generalize hx : l[k] = x at *
    clear hx HOP hk
    go_upto_region 5 with (fail)
    have hX := Blk.new w1 41 (repCells x)
    have hal : Below w1.heap.size w1 (w1.alloc (.cells (repCells x) 41)) := (Below.refl _ _).alloc (Nat.le_refl _) _
    have hr2 := HR1.out.below hal HR1.out.lt
    have hb2 := HB1.out.trans (hal.mono HB1.out.size)
    have hne : w1.heap.size ≠ w.heap.size + 1 := by have := HR1.out.lt; omega
    change Code.wp _ _ _ _ (w1.alloc (.cells (repCells x) 41))
    generalize w1.alloc (.cells (repCells x) 41) = w2 at *
    generalize w1.heap.size = X at *
    generalize hRR : w.heap.size + 1 = R at *
    have HRW : Hid (w.heap.size ≤ R) := by rw [Hid]; omega
    have hne2 : ¬ X = R := hne
    have hne3 : ¬ R = X := fun h => hne h.symm
    clear HR1 HB1 hal e0 e1 e2 e3 e4 hRR hne
    have HR1 := Lib.hid hr2
    have HB1 := Lib.hid hb2
    have HX := Lib.hid hX
    clear hr2 hb2 hX
    have r0 := HR1.out.cell 0
    have r1 := HR1.out.cell 1
    have r2 := HR1.out.cell 2
    have r3 := HR1.out.cell 3
    have r4 := HR1.out.cell 4
    simp [repCells] at r0 r1 r2 r3 r4
    have f0 := HR1.out.frozen 0
    have f1 := HR1.out.frozen 1
    have f2 := HR1.out.frozen 2
    have f3 := HR1.out.frozen 3
    have f4 := HR1.out.frozen 4
    have x0 := HX.out.cell 0
    have x1 := HX.out.cell 1
    have x2 := HX.out.cell 2
    have x3 := HX.out.cell 3
    have x4 := HX.out.cell 4
    simp [repCells] at x0 x1 x2 x3 x4
    have hbs := size_bs x.body
    have q1 := Lib.hid (fill5_blk HR1.out x)
    have q2 := Lib.hid (fill5_below HB1.out HRW.out x)
    by_cases hbad : x.bad = 0
    · have bb : (x.bad != 0) = false := by rw [hbad]; rfl
      by_cases hcode : x.code = 200
      · have bc : (x.code != 200) = false := by rw [hcode]; rfl
        by_cases hlen : 20000 < x.body.length
        · have bl : (20000 : Int) < ((bs x.body).size : Int) := by omega
          have HRB : Hid (repBad x = 60) := by rw [Hid, repBad, if_neg (by simpa using hbad), if_pos (.inr hlen)]
          clear hlen hbad hcode hbs
          go_wp2_with fail
          change bodyPost _ _ _ _ _ (fill5 w2 R x)
          refine bodyPost_ret (good_results rfl rfl rfl q1.out) rfl ⟨?_, q2.out⟩
          rw [HF.out, goodV, HRB.out]
          rfl
        · have bl : ¬ (20000 : Int) < ((bs x.body).size : Int) := by omega
          have HRB : Hid (repBad x = 0) := by rw [Hid, repBad, if_neg (by simpa using hbad), if_neg (fun h => h.elim (fun h => h hcode) hlen)]
          clear hlen hbad hcode hbs
          go_wp2_with fail
          change bodyPost _ _ _ _ _ (fill5 w2 R x)
          refine bodyPost_ret (good_results rfl rfl rfl q1.out) rfl ⟨?_, q2.out⟩
          rw [HF.out, goodV, HRB.out]
          rfl
      · have bc : (x.code != 200) = true := by rw [bne_iff_ne]; exact hcode
        have HRB : Hid (repBad x = 60) := by rw [Hid, repBad, if_neg (by simpa using hbad), if_pos (.inl hcode)]
        clear hbad hcode hbs
        go_wp2_with fail
        change bodyPost _ _ _ _ _ (fill5 w2 R x)
        refine bodyPost_ret (good_results rfl rfl rfl q1.out) rfl ⟨?_, q2.out⟩
        rw [HF.out, goodV, HRB.out]
        rfl
    · have bb : (x.bad != 0) = true := by rw [bne_iff_ne]; exact hbad
      have HRB : Hid (repBad x = x.bad) := by rw [Hid, repBad, if_pos hbad]
      clear hbad hbs
      go_upto_region 6 with (fail)
      go_region
      go_wp2_with fail
      change bodyPost _ _ _ _ _ (fill5 w2 R x).drew
      refine bodyPost_ret (good_results rfl rfl rfl (show Blk (fill5 w2 R x).drew R _ _ from q1.out)) rfl ⟨?_, q2.out.drew⟩
      rw [HF.out, goodV, HRB.out]
      rfl
end Go.Proofs.YtijpfcjlochahaaGreatDoor
namespace Go.Proofs.YtijpfcjlochahaaGreatDoor
open Go Go.RowKit
set_option linter.unusedVariables false
set_option linter.unusedSimpArgs false

theorem inlineF_cons (nm : List UInt8) (e : Elem) (l : List Elem) : inlineF nm (e :: l) = (inlineE nm e).or (inlineF nm l) := by
  rw [inlineF]
  cases inlineE nm e <;> rfl
def InlPost (F : Nat → Prop) (o : Option (List Elem)) (w : World) (e : Ending) (w' : World) : Prop :=
  ((o = none ∧ e = .returned (.tuple #[.slice none 0 0, .bool false])) ∨ ∃ ks kv, o = some ks ∧ e = .returned (.tuple #[kv, .bool true]) ∧ GR w' F (.row 7 (ks.map Elem.gv)) [kv]) ∧ Below w.heap.size w w'
set_option maxRecDepth 20000 in
set_option maxHeartbeats 4000000 in
theorem einline_calls (nm : List UInt8) : ∀ (n : Nat) (l : List Elem) (v : Value) (F : Nat → Prop) (w : World), sizeF l ≤ n → GR w F (.row 7 (l.map Elem.gv)) [v] →
    Calls Tryz.prog 192 #[v, .string (bs nm)] w (InlPost F (inlineF nm l) w) := by
  intro n
  induction n using Nat.strongRecOn with
  | ind n ih =>
    intro l v F w hn hv
    obtain ⟨A, c, rfl, hlc, hcm, hop⟩ := elems_open hv
    obtain ⟨A', c', hA', hlc', hcm', hop'⟩ := elems_open (GR.lt_heap _ _ hv)
    injection hA' with q1 q2 q3
    subst q1 q3
    have HOP := Lib.hid hop
    have HOL := Lib.hid hop'
    have IH := Lib.hid ih
    unfold maxLen at hcm
    clear hop hop' hv ih hlc' hcm' q2
    have HI0 : Hid (inlineF nm l = inlineF nm (l.drop 0)) := rfl
    generalize hI : inlineF nm l = I at *
    clear hI
    go_enter Tryz.func192, Tryz.ntmps192
    go_wp2_with fail
    go_loopw [12] (fun i wr => ∃ k : Nat, k ≤ l.length ∧ i = .int .i64 k ∧ Hid (Below w.heap.size w wr) ∧ Hid (I = inlineF nm (l.drop k)))
       (fun i wr => l.length - (intOf i).toNat)
    case atStart => exact ⟨0, Nat.zero_le _, rfl, Below.refl _ _, HI0.out⟩
    case round =>
      clear HI0
      obtain ⟨k, hk, rfl, HB, HI⟩ := hrel
      by_cases hlt : k < l.length
      · obtain ⟨b, off, rfl, hFb, hop⟩ := HOP.out (by rintro rfl; simp at hlt)
        obtain ⟨b', off', he', ⟨_, hbw⟩, _⟩ := HOL.out (by rintro rfl; simp at hlt)
        injection he' with he'
        injection he' with he1 he2 he3
        subst he1
        obtain ⟨Ak, ck, hE⟩ := hop k hlt
        have HKI := Lib.hid (hE.kids.below HB.out)
        have hE := hE.below HB.out hbw
        have e0 := hE.c0
        have e1 := hE.c1
        have e2 := hE.c2
        have e3 := hE.c3
        have e4 := hE.c4
        have e5 := hE.c5
        have e6 := hE.c6
        have hsz : sizeF l[k].kids < n := by have h1 := sizeE_mem hlt; have h2 := sizeE_eq l[k]; omega
        have HSZ := Lib.hid hsz
        have HI2 : Hid (I = (inlineE nm l[k]).or (inlineF nm (l.drop (k + 1)))) := by
          rw [Hid, HI.out, List.drop_eq_getElem_cons hlt, inlineF_cons]
        rw [inlineE_eq] at HI2
        have hk1 : (0 : Int) ≤ (k : Int) := by omega
        have hk2 : (k : Int) < (l.length : Int) := by omega
        clear hE hop hbw hsz HI he2 he3 hFb
        generalize l[k] = x at *
        go_upto_region 4 with (fail)
        have hX := Blk.new wr 74 (eCells x (.slice Ak x.kids.length ck)).toArray
        have hal : Below wr.heap.size wr (wr.alloc (.cells (eCells x (.slice Ak x.kids.length ck)).toArray 74)) := (Below.refl _ _).alloc (Nat.le_refl _) _
        have HB5 := Lib.hid (HB.out.trans (hal.mono HB.out.size))
        have HK5 := Lib.hid (HKI.out.below hal)
        change Code.wp _ _ _ _ (wr.alloc (.cells (eCells x (.slice Ak x.kids.length ck)).toArray 74))
        generalize wr.alloc (.cells (eCells x (.slice Ak x.kids.length ck)).toArray 74) = w5 at *
        clear e0 e1 e2 e3 e4 e5 e6 hal HB HKI
        generalize wr.heap.size = X at *
        have x0 := hX.cell 0
        have x2 := hX.cell 2
        have x6 := hX.cell 6
        simp [eCells] at x0 x2 x6
        clear hX
        by_cases h3 : x.kind = 3
        · have b3 : (x.kind == 3) = true := by rw [h3]; rfl
          by_cases hs : x.src = nm
          · obtain ⟨s1, s2⟩ : ((bs x.src).toList == (bs nm).toList) = true ∧ (bs x.src).toList = (bs nm).toList := by rw [hs]; simp
            have HI3 : Hid (I = some x.kids) := by rw [Hid, HI2.out, if_pos ⟨h3, hs⟩]; rfl
            clear h3 hs HI2
            go_wp2_with fail
            go_ret2
            exact ⟨.inr ⟨x.kids, _, HI3.out, rfl, HK5.out⟩, HB5.out⟩
          · obtain ⟨s1, s2⟩ : ((bs x.src).toList == (bs nm).toList) = false ∧ ¬ (bs x.src).toList = (bs nm).toList := by rw [toList_bs, toList_bs, beq_eq_false_iff_ne]; exact ⟨hs, hs⟩
            have HI3 : Hid (I = (inlineF nm x.kids).or (inlineF nm (l.drop (k + 1)))) := by rw [Hid, HI2.out, if_neg (fun h => hs h.2)]
            clear h3 hs HI2
            go_wp2_with fail
            refine (IH.out _ HSZ.out x.kids _ F w5 (Nat.le_refl _) HK5.out).mono ?_
            rintro e w6 ⟨hd, hb6⟩
            have HB6 := Lib.hid (HB5.out.trans (hb6.mono HB5.out.size))
            clear hb6
            rcases hd with ⟨hno, rfl⟩ | ⟨ks, kv, hso, rfl, hgr⟩
            · have HI4 : Hid (I = inlineF nm (l.drop (k + 1))) := by rw [Hid, HI3.out, hno]; rfl
              clear hno HI3
              go_wp2_with fail
              go_roundw
              case rel => exact ⟨k + 1, hlt, by go_num, HB6.out, HI4.out⟩
              case measure => simp [intOf]; omega
            · have HI4 : Hid (I = some ks) := by rw [Hid, HI3.out, hso]; rfl
              have HGK := Lib.hid hgr
              clear hso HI3 hgr
              go_wp2_with fail
              go_ret2
              exact ⟨.inr ⟨ks, _, HI4.out, rfl, HGK.out⟩, HB6.out⟩
        · have b3 : (x.kind == 3) = false := by rw [beq_eq_false_iff_ne]; exact h3
          have HI3 : Hid (I = (inlineF nm x.kids).or (inlineF nm (l.drop (k + 1)))) := by rw [Hid, HI2.out, if_neg (fun h => h3 h.1)]
          clear h3 HI2
          go_wp2_with fail
          refine (IH.out _ HSZ.out x.kids _ F w5 (Nat.le_refl _) HK5.out).mono ?_
          rintro e w6 ⟨hd, hb6⟩
          have HB6 := Lib.hid (HB5.out.trans (hb6.mono HB5.out.size))
          clear hb6
          rcases hd with ⟨hno, rfl⟩ | ⟨ks, kv, hso, rfl, hgr⟩
          · have HI4 : Hid (I = inlineF nm (l.drop (k + 1))) := by rw [Hid, HI3.out, hno]; rfl
            clear hno HI3
            go_wp2_with fail
            go_roundw
            case rel => exact ⟨k + 1, hlt, by go_num, HB6.out, HI4.out⟩
            case measure => simp [intOf]; omega
          · have HI4 : Hid (I = some ks) := by rw [Hid, HI3.out, hso]; rfl
            have HGK := Lib.hid hgr
            clear hso HI3 hgr
            go_wp2_with fail
            go_ret2
            exact ⟨.inr ⟨ks, _, HI4.out, rfl, HGK.out⟩, HB6.out⟩
      · have hkl : k = l.length := by omega
        subst hkl
        have HI3 : Hid (I = none) := by rw [Hid, HI.out, List.drop_length, inlineF]
        go_wp2_with fail
        go_ret2
        exact ⟨.inl ⟨HI3.out, rfl⟩, HB.out⟩
end Go.Proofs.YtijpfcjlochahaaGreatDoor
