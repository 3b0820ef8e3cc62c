/- The walk of the reference's Elem. -/
import Derived.Test.YtijpfcjlochahaaGreatDoorRefS
import Derived.BigRegion
import Derived.Deep.RegionHeld3
namespace Go.Proofs.YtijpfcjlochahaaGreatDoor
open Go Go.RowKit
set_option linter.unusedVariables false
set_option linter.unusedSimpArgs false

def elemZ : Array Value := #[.int .i64 0, .string ⟨#[]⟩, .string ⟨#[]⟩, .string ⟨#[]⟩, .bool false, .string ⟨#[]⟩, .slice none 0 0]
structure ElSt (w W : World) (E : Nat) (tok ec : Array Value) : Prop where
  hT : Blk W w.heap.size 80 tok
  hR : Blk W (w.heap.size + 1) 74 #[.int .i64 0, .string ⟨#[]⟩, .string ⟨#[]⟩, .string ⟨#[]⟩, .bool false, .string ⟨#[]⟩, .slice none 0 0]
  hE : Blk W E 74 ec
  hb : Below w.heap.size w W
  hl : w.heap.size + 2 ≤ E
section
variable {w W W' : World} {E : Nat} {tok ec : Array Value}
theorem ElSt.step (h : ElSt w W E tok ec) (hb : Below W.heap.size W W') : ElSt w W' E tok ec :=
  ⟨h.hT.below hb h.hT.lt, h.hR.below hb h.hR.lt, h.hE.below hb h.hE.lt, h.hb.trans (hb.mono h.hb.size), h.hl⟩
theorem ElSt.set (h : ElSt w W E tok ec) (i : Nat) (u : Value) : ElSt w (W.setCell ⟨E, i, none⟩ u) E tok (ec.setIfInBounds i u) :=
  ⟨h.hT.far (by show w.heap.size ≠ E; have := h.hl; omega) u, h.hR.far (by show w.heap.size + 1 ≠ E; have := h.hl; omega) u, h.hE.set_ i u,
    below_of_grown (grown_setCell (grown_of_below h.hb none) (.inr (by show w.heap.size ≤ E; have := h.hl; omega)) u) (Nat.le_refl _) (fun k hk => by cases hk), h.hl⟩
abbrev fill7 (W : World) (R : Nat) (x0 x1 x2 x3 x4 x5 x6 : Value) : World :=
  ((((((W.setCell ⟨R, 0, none⟩ x0).setCell ⟨R, 1, none⟩ x1).setCell ⟨R, 2, none⟩ x2).setCell ⟨R, 3, none⟩ x3).setCell ⟨R, 4, none⟩ x4).setCell ⟨R, 5, none⟩ x5).setCell ⟨R, 6, none⟩ x6
theorem fill7_below {a : World} {R : Nat} (h : Below a.heap.size a W) (hR : a.heap.size ≤ R) (x0 x1 x2 x3 x4 x5 x6 : Value) : Below a.heap.size a (fill7 W R x0 x1 x2 x3 x4 x5 x6) :=
  below_of_grown (row := none) (grown_setCell (grown_setCell (grown_setCell (grown_setCell (grown_setCell (grown_setCell (grown_setCell (grown_of_below h none) (.inr hR) x0) (.inr hR) x1) (.inr hR) x2) (.inr hR) x3) (.inr hR) x4) (.inr hR) x5) (.inr hR) x6)
    (Nat.le_refl _) (fun k hk => by cases hk)
theorem fill7_blk {R : Nat} {t : TypeId} {z0 z1 z2 z3 z4 z5 z6 : Value} (h : Blk W R t #[z0, z1, z2, z3, z4, z5, z6]) (x0 x1 x2 x3 x4 x5 x6 : Value) : Blk (fill7 W R x0 x1 x2 x3 x4 x5 x6) R t #[x0, x1, x2, x3, x4, x5, x6] := by
  have h0 : Blk _ R t #[x0, z1, z2, z3, z4, z5, z6] := h.set_ 0 x0
  have h1 : Blk _ R t #[x0, x1, z2, z3, z4, z5, z6] := h0.set_ 1 x1
  have h2 : Blk _ R t #[x0, x1, x2, z3, z4, z5, z6] := h1.set_ 2 x2
  have h3 : Blk _ R t #[x0, x1, x2, x3, z4, z5, z6] := h2.set_ 3 x3
  have h4 : Blk _ R t #[x0, x1, x2, x3, x4, z5, z6] := h3.set_ 4 x4
  have h5 : Blk _ R t #[x0, x1, x2, x3, x4, x5, z6] := h4.set_ 5 x5
  have h6 : Blk _ R t #[x0, x1, x2, x3, x4, x5, x6] := h5.set_ 6 x6
  exact h6
end
/-- What a drawn region of Elem reads: the tag, and the element. -/
structure El2 (W : World) (X E : Nat) (tok ec : Array Value) : Prop where
  hT : Blk W X 80 tok
  hE : Blk W E 74 ec
theorem ElSt.two {w W : World} {E : Nat} {tok ec : Array Value} (h : ElSt w W E tok ec) : El2 W w.heap.size E tok ec := ⟨h.hT, h.hE⟩
theorem El2.fill7 {W : World} {X E R : Nat} {tok ec : Array Value} (h : El2 W X E tok ec) (h1 : X ≠ R) (h2 : E ≠ R) (x0 x1 x2 x3 x4 x5 x6 : Value) : El2 (fill7 W R x0 x1 x2 x3 x4 x5 x6) X E tok ec :=
  ⟨((((((h.hT.far h1 x0).far h1 x1).far h1 x2).far h1 x3).far h1 x4).far h1 x5).far h1 x6, ((((((h.hE.far h2 x0).far h2 x1).far h2 x2).far h2 x3).far h2 x4).far h2 x5).far h2 x6⟩
theorem El2.drew {W : World} {X E : Nat} {tok ec : Array Value} (h : El2 W X E tok ec) : El2 W.drew X E tok ec := ⟨h.hT, h.hE⟩
theorem Blk.drew {W : World} {g : Nat} {t : TypeId} {cs : Array Value} (h : Blk W g t cs) : Blk W.drew g t cs := h
theorem elem15_results {w : World} {R : Nat} {tmps : Array Value} {x0 x1 x2 x3 x4 x5 x6 b : Value} (h2 : tmps[2]?.getD undef = .pointer (some ⟨R, 0, none⟩)) (h3 : tmps[3]?.getD undef = b) (B0 : Blk w R 74 #[x0, x1, x2, x3, x4, x5, x6]) :
    (results Tryz.f155 tmps).run Tryz.prog w = .ok (.tuple #[.agg #[x0, x1, x2, x3, x4, x5, x6], b]) w := by
  have a0 := B0.cell 0
  have a1 := B0.cell 1
  have a2 := B0.cell 2
  have a3 := B0.cell 3
  have a4 := B0.cell 4
  have a5 := B0.cell 5
  have a6 := B0.cell 6
  simp [results, Tryz.results155, go_sem, h2, h3, a0, a1, a2, a3, a4, a5, a6]
theorem grl_strs {w : World} {F : Nat → Prop} : ∀ ns : List (List UInt8), GRl w F 1 (ns.map .str) (ns.map fun n => Value.string (bs n))
  | [] => GRl_nil.2 rfl
  | n :: ns => GRl_cons.2 ⟨[.string (bs n)], _, rfl, rfl, GR_str.2 rfl, grl_strs ns⟩
theorem gr_strs {w : World} {F : Nat → Prop} {g : Nat} {t : TypeId} {ns : List (List UInt8)} (h : Blk w g t (ns.map fun n => Value.string (bs n)).toArray) (hF : F g) (hl : ns.length ≤ maxLen) :
    GR w F (.row 1 (ns.map .str)) [.slice (some ⟨g, 0, none⟩) ns.length ns.length] := by
  refine GR_row.2 ⟨some ⟨g, 0, none⟩, ns.length, _, by rw [List.length_map], by rw [List.length_map]; exact Nat.le_refl _, hl, by rw [List.length_map, List.length_map, Nat.mul_one], fun _ => ⟨g, 0, rfl, hF, fun j u hu => ?_⟩, grl_strs ns⟩
  rw [Nat.zero_add, h.cell, List.getElem?_toArray]
  exact hu
def EPost (w : World) (r : Elem × Bool) (e : Ending) (w' : World) : Prop :=
  e = .returned (.tuple #[.agg #[.int .i64 r.1.kind, .string (bs r.1.text), .string (bs r.1.src), .string (bs r.1.alt), .bool r.1.soft, .string (bs r.1.test), .slice none 0 0], .bool r.2]) ∧ Below w.heap.size w w'
set_option maxRecDepth 20000 in
set_option maxHeartbeats 4000000 in
theorem elem15_calls (kd : Int) (tx : ByteArray) (va : Value) (l : List Pair) (F : Nat → Prop) (w : World) (hv : GR w F (.row 2 (l.map Pair.gv)) [va]) :
    Calls Tryz.prog 155 #[.agg #[.int .i64 kd, .string tx, va]] w (EPost w (elemR ⟨kd, L tx, l⟩)) := by
  have HV := Lib.hid hv
  obtain ⟨A, c, rfl, -, -, -⟩ := pairs_open hv
  clear hv
  have hb0 := (Below.refl w.heap.size w).alloc (Nat.le_refl _) (.cells #[.int .i64 kd, .string tx, .slice A l.length c] 80)
  have HB0 := Lib.hid (hb0.alloc hb0.size (.cells #[.int .i64 0, .string ⟨#[]⟩, .string ⟨#[]⟩, .string ⟨#[]⟩, .bool false, .string ⟨#[]⟩, .slice none 0 0] 74))
  have HT0 := Lib.hid ((Blk.new w 80 #[.int .i64 kd, .string tx, .slice A l.length c]).alloc (.cells #[.int .i64 0, .string ⟨#[]⟩, .string ⟨#[]⟩, .string ⟨#[]⟩, .bool false, .string ⟨#[]⟩, .slice none 0 0] 74))
  have hr := Blk.new (w.alloc (.cells #[.int .i64 kd, .string tx, .slice A l.length c] 80)) 74 #[.int .i64 0, .string ⟨#[]⟩, .string ⟨#[]⟩, .string ⟨#[]⟩, .bool false, .string ⟨#[]⟩, .slice none 0 0]
  rw [size_alloc] at hr
  have HR0 := Lib.hid hr
  clear hb0 hr
  have HEL : Hid (elemR ⟨kd, L tx, l⟩ = if kindF (L tx) = 2 then
      (.mk 2 [] (valA l nSrc) (valA l nAlt) (hasA l nOnerror) [] [], decide (valA l nSrc ≠ []) && (!hasA l nOnerror || decide (valA l nOnerror = nContinue)) && onlyF [nSrc, nAlt, nOnerror] [] l)
    else if kindF (L tx) = 3 then
      (.mk 3 [] (valA l nName) [] false [] [], decide (valA l nName ≠ []) && (!hasA l nFetchable || decide (valA l nFetchable = nYes) || decide (valA l nFetchable = nNo)) && onlyF [nName, nFetchable] [] l)
    else if kindF (L tx) = 12 then (.mk 12 (valA l nText) [] [] false [] [], hasA l nText && onlyF [nText] [] l)
    else if kindF (L tx) = 8 then (.mk 8 [] [] [] false (valA l nTest) [], hasA l nTest && onlyF [nTest] [] l)
    else (elem0 (kindF (L tx)), decide (l.length = 0))) := rfl
  generalize elemR ⟨kd, L tx, l⟩ = RR at *
  go_enter Tryz.func155, Tryz.ntmps155
  go_wp2_with fail
  refine (kind_calls tx _).mono ?_
  rintro e w1 ⟨rfl, hb1⟩
  generalize kindF (L tx) = K at *
  have hb2 := (Below.refl w1.heap.size w1).alloc (Nat.le_refl _) (.cells #[.int .i64 K, .string ⟨#[]⟩, .string ⟨#[]⟩, .string ⟨#[]⟩, .bool false, .string ⟨#[]⟩, .slice none 0 0] 74)
  have ST1 : Hid (ElSt w (w1.alloc (.cells #[.int .i64 K, .string ⟨#[]⟩, .string ⟨#[]⟩, .string ⟨#[]⟩, .bool false, .string ⟨#[]⟩, .slice none 0 0] 74)) w1.heap.size #[.int .i64 kd, .string tx, .slice A l.length c]
      #[.int .i64 K, .string ⟨#[]⟩, .string ⟨#[]⟩, .string ⟨#[]⟩, .bool false, .string ⟨#[]⟩, .slice none 0 0]) :=
    ⟨(HT0.out.below hb1 HT0.out.lt).below hb2 (HT0.out.below hb1 HT0.out.lt).lt, (HR0.out.below hb1 HR0.out.lt).below hb2 (HR0.out.below hb1 HR0.out.lt).lt, Blk.new w1 _ _, (HB0.out.trans (hb1.mono HB0.out.size)).trans (hb2.mono (HB0.out.trans (hb1.mono HB0.out.size)).size),
      by have := hb1.size; rw [size_alloc, size_alloc] at this; omega⟩
  clear hb1 hb2 HT0 HR0 HB0
  have t0 := ST1.out.hT.cell 0
  have t1 := ST1.out.hT.cell 1
  have t2 := ST1.out.hT.cell 2
  by_cases h2 : K = 2
  · subst h2
    rw [if_pos rfl] at HEL
    have hk2 : ((2:Int) == 2) = true := rfl
    go_wp2_with fail
    refine (rattr_calls kd tx (bs nSrc) _ l F _ (HV.out.below ST1.out.hb)).mono ?_
    rw [L_bs]
    rintro e w2 ⟨rfl, hb2⟩
    have ST2 := Lib.hid (ST1.out.step hb2)
    clear hb2 t0 t1 t2
    have t0 := ST2.out.hT.cell 0
    have t1 := ST2.out.hT.cell 1
    have t2 := ST2.out.hT.cell 2
    go_wp2_with fail
    refine (rattr_calls kd tx (bs nAlt) _ l F _ (HV.out.below ST2.out.hb)).mono ?_
    rw [L_bs]
    rintro e w3 ⟨rfl, hb3⟩
    have ST3 := Lib.hid (ST2.out.step hb3)
    clear hb3 t0 t1 t2
    have t0 := ST3.out.hT.cell 0
    have t1 := ST3.out.hT.cell 1
    have t2 := ST3.out.hT.cell 2
    go_wp2_with fail
    refine (rattr_calls kd tx (bs nOnerror) _ l F _ (HV.out.below ST3.out.hb)).mono ?_
    rw [L_bs]
    rintro e w4 ⟨rfl, hb4⟩
    have ST4 := Lib.hid (ST3.out.step hb4)
    clear hb4 t0 t1 t2
    have t0 := ST4.out.hT.cell 0
    have t1 := ST4.out.hT.cell 1
    have t2 := ST4.out.hT.cell 2
    have q2 := ST4.out.hE.frozen 2
    have d2 := ST4.out.hE.cell 2
    have q3 := ST4.out.hE.frozen 3
    have d3 := ST4.out.hE.cell 3
    have q4 := ST4.out.hE.frozen 4
    have d4 := ST4.out.hE.cell 4
    generalize valA l nSrc = S at *
    generalize valA l nAlt = S2 at *
    generalize valA l nOnerror = S3 at *
    generalize hasA l nOnerror = H3 at *
    generalize hasA l nSrc = H1 at *
    generalize hasA l nAlt = H2 at *
    go_upto_region 10 with (fail)
    have ST5 := Lib.hid (((ST4.out.set 2 (.string (bs S))).set 3 (.string (bs S2))).set 4 (.bool H3))
    generalize ((w4.setCell ⟨w1.heap.size, 2, none⟩ (.string (bs S))).setCell ⟨w1.heap.size, 3, none⟩ (.string (bs S2))).setCell ⟨w1.heap.size, 4, none⟩ (.bool H3) = W5 at ST5 ⊢
    clear t0 t1 t2 d2 d3 d4 q2 q3 q4 ST4
    have ST6 : Hid (ElSt w W5 w1.heap.size #[.int .i64 kd, .string tx, .slice A l.length c] #[.int .i64 2, .string ⟨#[]⟩, .string (bs S), .string (bs S2), .bool H3, .string ⟨#[]⟩, .slice none 0 0]) := ⟨ST5.out.hT, ST5.out.hR, ST5.out.hE, ST5.out.hb, ST5.out.hl⟩
    clear ST5
    have htS : (bs S).toList = S := toList_bs _
    have htS3 : (bs S3).toList = S3 := toList_bs _
    cases hS : S.isEmpty with
    | true =>
      have hS0 : El2 (World.drew W5) w.heap.size w1.heap.size #[.int .i64 kd, .string tx, .slice A l.length c] #[.int .i64 2, .string ⟨#[]⟩, .string (bs S), .string (bs S2), .bool H3, .string ⟨#[]⟩, .slice none 0 0] := ⟨ST6.out.hT, ST6.out.hE⟩
      refine wp_region_held (S := (fun w' => El2 w' w.heap.size w1.heap.size #[.int .i64 kd, .string tx, .slice A l.length c] #[.int .i64 2, .string ⟨#[]⟩, .string (bs S), .string (bs S2), .bool H3, .string ⟨#[]⟩, .slice none 0 0])) (by kernel_rfl) ?_
      change wpAnyH _ _ _ _ _ _ _ _ (World.drew _)
      refine wpAnyH_take (i := 0) (v := ?_) rfl (by kernel_rfl) (by kernel_rfl) (by kernel_rfl) (fun _ _ _ h => h) (Or.inl ⟨by rfl, ?_⟩) hS0 ?_
      rotate_left
      · (intro w_ hS_; have s0 := hS_.hE.cell 0; have s1 := hS_.hE.cell 1; have s2 := hS_.hE.cell 2; have s3 := hS_.hE.cell 3; have s4 := hS_.hE.cell 4; have s5 := hS_.hE.cell 5; have s6 := hS_.hE.cell 6; go_simp; try with_reducible rfl)
      have HR : Hid (RR = (.mk 2 [] S S2 H3 [] [], false)) := HEL.out.trans (by have h : S = [] := List.isEmpty_iff.1 hS; simp [h])
      refine wpAnyH_take (i := 1) (v := ?_) rfl (by kernel_rfl) (by kernel_rfl) (by kernel_rfl) (fun _ _ _ h => h) (Or.inl ⟨by rfl, ?_⟩) hS0 ?_
      rotate_left
      · (intro w_ hS_; obtain _s := hS_; go_simp; try with_reducible rfl)
      refine wpAnyH_take (i := 2) (v := (.bool false)) rfl (by kernel_rfl) (by kernel_rfl) (by kernel_rfl) (fun _ _ _ h => h) (Or.inl ⟨by kernel_rfl, ?_⟩) hS0 ?_
      · (intro w_ hS_; go_simp; try simp [htS, hS])
      refine wpAnyH_take (i := 3) (v := ?_) rfl (by kernel_rfl) (by kernel_rfl) (by kernel_rfl) (fun _ _ _ h => h) (Or.inl ⟨by rfl, ?_⟩) hS0 ?_
      rotate_left
      · (intro w_ hS_; obtain _s := hS_; go_simp; try with_reducible rfl)
      refine wpAnyH_take (i := 4) (v := undef) rfl (by kernel_rfl) (by kernel_rfl) (by kernel_rfl) (fun _ _ _ h => h) (Or.inr ⟨by kernel_rfl, rfl⟩) hS0 ?_
      refine wpAnyH_take (i := 5) (v := undef) rfl (by kernel_rfl) (by kernel_rfl) (by kernel_rfl) (fun _ _ _ h => h) (Or.inr ⟨by kernel_rfl, rfl⟩) hS0 ?_
      refine wpAnyH_take (i := 6) (v := undef) rfl (by kernel_rfl) (by kernel_rfl) (by kernel_rfl) (fun _ _ _ h => h) (Or.inr ⟨by kernel_rfl, rfl⟩) hS0 ?_
      refine wpAnyH_take (i := 7) (v := undef) rfl (by kernel_rfl) (by kernel_rfl) (by kernel_rfl) (fun _ _ _ h => h) (Or.inr ⟨by kernel_rfl, rfl⟩) hS0 ?_
      refine wpAnyH_take (i := 8) (v := undef) rfl (by kernel_rfl) (by kernel_rfl) (by kernel_rfl) (fun _ _ _ h => h) (Or.inr ⟨by kernel_rfl, rfl⟩) hS0 ?_
      refine wpAnyH_take (i := 9) (v := undef) rfl (by kernel_rfl) (by kernel_rfl) (by kernel_rfl) (fun _ _ _ h => h) (Or.inr ⟨by kernel_rfl, rfl⟩) hS0 ?_
      refine wpAnyH_take (i := 10) (v := ?_) rfl (by kernel_rfl) (by kernel_rfl) (by kernel_rfl) (fun _ _ _ h => h) (Or.inl ⟨by rfl, ?_⟩) hS0 ?_
      rotate_left
      · (intro w_ hS_; obtain _s := hS_; go_simp; try with_reducible rfl)
      refine wpAnyH_take (i := 11) (v := ?_) rfl (by kernel_rfl) (by kernel_rfl) (by kernel_rfl) (fun _ _ _ h => h) (Or.inl ⟨by rfl, ?_⟩) hS0 ?_
      rotate_left
      · (intro w_ hS_; obtain _s := hS_; go_simp; try with_reducible rfl)
      refine wpAnyH_take (i := 12) (v := undef) rfl (by kernel_rfl) (by kernel_rfl) (by kernel_rfl) (fun _ _ _ h => h) (Or.inr ⟨by kernel_rfl, rfl⟩) hS0 ?_
      refine wpAnyH_take (i := 13) (v := undef) rfl (by kernel_rfl) (by kernel_rfl) (by kernel_rfl) (fun _ _ _ h => h) (Or.inr ⟨by kernel_rfl, rfl⟩) hS0 ?_
      refine wpAnyH_take (i := 14) (v := undef) rfl (by kernel_rfl) (by kernel_rfl) (by kernel_rfl) (fun _ _ _ h => h) (Or.inr ⟨by kernel_rfl, rfl⟩) hS0 ?_
      refine wpAnyH_take (i := 15) (v := ?_) rfl (by kernel_rfl) (by kernel_rfl) (by kernel_rfl) (fun _ _ _ h => h) (Or.inl ⟨by rfl, ?_⟩) hS0 ?_
      rotate_left
      · (intro w_ hS_; obtain _s := hS_; go_simp; try with_reducible rfl)
      have hS9 := El2.fill7 ST6.out.two (R := w.heap.size + 1) (by omega) (by have := ST6.out.hl; omega) (.int .i64 2) (.string ⟨#[]⟩) (.string (bs S)) (.string (bs S2)) (.bool H3) (.string ⟨#[]⟩) (.slice none 0 0)
      have r0 := ST6.out.hR.cell 0
      have r1 := ST6.out.hR.cell 1
      have r2 := ST6.out.hR.cell 2
      have r3 := ST6.out.hR.cell 3
      have r4 := ST6.out.hR.cell 4
      have r5 := ST6.out.hR.cell 5
      have r6 := ST6.out.hR.cell 6
      have f0 := ST6.out.hR.frozen 0
      have f1 := ST6.out.hR.frozen 1
      have f2 := ST6.out.hR.frozen 2
      have f3 := ST6.out.hR.frozen 3
      have f4 := ST6.out.hR.frozen 4
      have f5 := ST6.out.hR.frozen 5
      have f6 := ST6.out.hR.frozen 6
      refine wpAnyH_ready (rs := [16]) (by kernel_rfl) (by simp) ?_
      refine AllReadyH.cons rfl (fun K_ hK_ => ?_) AllReadyH.nil
      go_simp
      refine hK_.out _ _ hS9.drew fun _ => ?_
      clear hK_ K_ r0 r1 r2 r3 r4 r5 r6 f0 f1 f2 f3 f4 f5 f6
      refine wpAnyH_ready (rs := [17]) (by kernel_rfl) (by simp) ?_
      refine AllReadyH.cons rfl (fun K_ hK_ => ?_) AllReadyH.nil
      go_simp
      refine hK_.out _ _ hS9.drew fun _ => ?_
      clear hK_ K_
      refine wpAnyH_done (by kernel_rfl) ?_ _
      go_wp2_with fail
      refine bodyPost_ret (elem15_results rfl rfl (fill7_blk ST6.out.hR (.int .i64 2) (.string ⟨#[]⟩) (.string (bs S)) (.string (bs S2)) (.bool H3) (.string ⟨#[]⟩) (.slice none 0 0)).drew) rfl ?_
      rw [EPost, HR.out]
      exact ⟨rfl, (fill7_below ST6.out.hb (Nat.le_succ _) (.int .i64 2) (.string ⟨#[]⟩) (.string (bs S)) (.string (bs S2)) (.bool H3) (.string ⟨#[]⟩) (.slice none 0 0)).drew⟩
    | false =>
      cases H3 with
      | false =>
        have hSn : S ≠ [] := fun h => by rw [h] at hS; cases hS
        have hS0 : El2 (World.drew W5) w.heap.size w1.heap.size #[.int .i64 kd, .string tx, .slice A l.length c] #[.int .i64 2, .string ⟨#[]⟩, .string (bs S), .string (bs S2), .bool false, .string ⟨#[]⟩, .slice none 0 0] := ⟨ST6.out.hT, ST6.out.hE⟩
        refine wp_region_held (S := (fun w' => El2 w' w.heap.size w1.heap.size #[.int .i64 kd, .string tx, .slice A l.length c] #[.int .i64 2, .string ⟨#[]⟩, .string (bs S), .string (bs S2), .bool false, .string ⟨#[]⟩, .slice none 0 0])) (by kernel_rfl) ?_
        change wpAnyH _ _ _ _ _ _ _ _ (World.drew _)
        refine wpAnyH_take (i := 0) (v := ?_) rfl (by kernel_rfl) (by kernel_rfl) (by kernel_rfl) (fun _ _ _ h => h) (Or.inl ⟨by rfl, ?_⟩) hS0 ?_
        rotate_left
        · (intro w_ hS_; have s0 := hS_.hE.cell 0; have s1 := hS_.hE.cell 1; have s2 := hS_.hE.cell 2; have s3 := hS_.hE.cell 3; have s4 := hS_.hE.cell 4; have s5 := hS_.hE.cell 5; have s6 := hS_.hE.cell 6; go_simp; try with_reducible rfl)
        have HR : Hid (RR = (.mk 2 [] S S2 false [] [], onlyF [nSrc, nAlt, nOnerror] [] l)) := HEL.out.trans (by simp [hSn])
        refine wpAnyH_take (i := 1) (v := ?_) rfl (by kernel_rfl) (by kernel_rfl) (by kernel_rfl) (fun _ _ _ h => h) (Or.inl ⟨by rfl, ?_⟩) hS0 ?_
        rotate_left
        · (intro w_ hS_; obtain _s := hS_; go_simp; try with_reducible rfl)
        refine wpAnyH_take (i := 2) (v := (.bool true)) rfl (by kernel_rfl) (by kernel_rfl) (by kernel_rfl) (fun _ _ _ h => h) (Or.inl ⟨by kernel_rfl, ?_⟩) hS0 ?_
        · (intro w_ hS_; go_simp; try simp [htS, hS])
        refine wpAnyH_take (i := 3) (v := ?_) rfl (by kernel_rfl) (by kernel_rfl) (by kernel_rfl) (fun _ _ _ h => h) (Or.inl ⟨by rfl, ?_⟩) hS0 ?_
        rotate_left
        · (intro w_ hS_; obtain _s := hS_; go_simp; try with_reducible rfl)
        refine wpAnyH_take (i := 4) (v := ?_) rfl (by kernel_rfl) (by kernel_rfl) (by kernel_rfl) (fun _ _ _ h => h) (Or.inl ⟨by kernel_rfl, ?_⟩) hS0 ?_
        rotate_left
        · (intro w_ hS_; obtain _s := hS_; go_simp; try with_reducible rfl)
        refine wpAnyH_take (i := 5) (v := ?_) rfl (by kernel_rfl) (by kernel_rfl) (by kernel_rfl) (fun _ _ _ h => h) (Or.inl ⟨by kernel_rfl, ?_⟩) hS0 ?_
        rotate_left
        · (intro w_ hS_; obtain _s := hS_; go_simp; try with_reducible rfl)
        refine wpAnyH_take (i := 6) (v := ?_) rfl (by kernel_rfl) (by kernel_rfl) (by kernel_rfl) (fun _ _ _ h => h) (Or.inl ⟨by kernel_rfl, ?_⟩) hS0 ?_
        rotate_left
        · (intro w_ hS_; obtain _s := hS_; go_simp; try with_reducible rfl)
        refine wpAnyH_take (i := 7) (v := undef) rfl (by kernel_rfl) (by kernel_rfl) (by kernel_rfl) (fun _ _ _ h => h) (Or.inr ⟨by kernel_rfl, rfl⟩) hS0 ?_
        refine wpAnyH_take (i := 8) (v := undef) rfl (by kernel_rfl) (by kernel_rfl) (by kernel_rfl) (fun _ _ _ h => h) (Or.inr ⟨by kernel_rfl, rfl⟩) hS0 ?_
        refine wpAnyH_take (i := 9) (v := ?_) rfl (by kernel_rfl) (by kernel_rfl) (by kernel_rfl) (fun _ _ _ h => h) (Or.inl ⟨by kernel_rfl, ?_⟩) hS0 ?_
        rotate_left
        · (intro w_ hS_; obtain _s := hS_; go_simp; try with_reducible rfl)
        refine wpAnyH_take (i := 10) (v := ?_) rfl (by kernel_rfl) (by kernel_rfl) (by kernel_rfl) (fun _ _ _ h => h) (Or.inl ⟨by rfl, ?_⟩) hS0 ?_
        rotate_left
        · (intro w_ hS_; obtain _s := hS_; go_simp; try with_reducible rfl)
        refine wpAnyH_take (i := 11) (v := ?_) rfl (by kernel_rfl) (by kernel_rfl) (by kernel_rfl) (fun _ _ _ h => h) (Or.inl ⟨by rfl, ?_⟩) hS0 ?_
        rotate_left
        · (intro w_ hS_; obtain _s := hS_; go_simp; try with_reducible rfl)
        refine wpAnyH_take (i := 12) (v := ?_) rfl (by kernel_rfl) (by kernel_rfl) (by kernel_rfl) (fun _ _ _ h => h) (Or.inl ⟨by kernel_rfl, ?_⟩) hS0 ?_
        rotate_left
        · (intro w_ hS_; have s0 := hS_.hT.cell 0; have s1 := hS_.hT.cell 1; have s2 := hS_.hT.cell 2; go_simp; try with_reducible rfl)
        have hbn := ((Below.refl W5.heap.size W5).alloc (Nat.le_refl _) (.cells #[.string (bs nSrc), .string (bs nAlt), .string (bs nOnerror)] 9)).drew
        have ST7 := Lib.hid (ST6.out.step hbn)
        have HGN := Lib.hid ((gr_strs (F := fun _ => True) (ns := [nSrc, nAlt, nOnerror]) (Blk.new W5 9 #[.string (bs nSrc), .string (bs nAlt), .string (bs nOnerror)]) trivial (by simp [maxLen])).below ((Below.refl _ _).drew))
        refine wpAnyH_ready (rs := [13]) (by kernel_rfl) (by simp) ?_
        refine AllReadyH.cons rfl (fun K_ hK_ => ?_) AllReadyH.nil
        go_simp
        refine hK_.out _ _ ST7.out.two fun _ => ?_
        clear hK_ K_
        refine wpAnyH_ready (rs := [14]) (by kernel_rfl) (by simp) ?_
        refine AllReadyH.cons rfl (fun K_ hK_ => ?_) AllReadyH.nil
        go_simp
        refine (only_calls kd tx _ _ l [nSrc, nAlt, nOnerror] (fun _ => True) _ ((HV.out.below ST7.out.hb).weaken (fun _ _ => trivial)) HGN.out).mono ?_
        rintro e w8 ⟨rfl, hb8⟩
        have ST8 := Lib.hid (ST7.out.step hb8)
        refine hK_.out _ _ ST8.out.two fun _ => ?_
        clear hK_ K_ hbn hb8 ST7 HGN
        have hS1 := ST8.out.two
        refine wpAnyH_take (i := 15) (v := ?_) rfl (by kernel_rfl) (by kernel_rfl) (by kernel_rfl) (fun _ _ _ h => h) (Or.inl ⟨by rfl, ?_⟩) hS1 ?_
        rotate_left
        · (intro w_ hS_; obtain _s := hS_; go_simp; try with_reducible rfl)
        have hS9 := El2.fill7 ST8.out.two (R := w.heap.size + 1) (by omega) (by have := ST8.out.hl; omega) (.int .i64 2) (.string ⟨#[]⟩) (.string (bs S)) (.string (bs S2)) (.bool false) (.string ⟨#[]⟩) (.slice none 0 0)
        have r0 := ST8.out.hR.cell 0
        have r1 := ST8.out.hR.cell 1
        have r2 := ST8.out.hR.cell 2
        have r3 := ST8.out.hR.cell 3
        have r4 := ST8.out.hR.cell 4
        have r5 := ST8.out.hR.cell 5
        have r6 := ST8.out.hR.cell 6
        have f0 := ST8.out.hR.frozen 0
        have f1 := ST8.out.hR.frozen 1
        have f2 := ST8.out.hR.frozen 2
        have f3 := ST8.out.hR.frozen 3
        have f4 := ST8.out.hR.frozen 4
        have f5 := ST8.out.hR.frozen 5
        have f6 := ST8.out.hR.frozen 6
        refine wpAnyH_ready (rs := [16]) (by kernel_rfl) (by simp) ?_
        refine AllReadyH.cons rfl (fun K_ hK_ => ?_) AllReadyH.nil
        go_simp
        refine hK_.out _ _ hS9 fun _ => ?_
        clear hK_ K_ r0 r1 r2 r3 r4 r5 r6 f0 f1 f2 f3 f4 f5 f6
        refine wpAnyH_ready (rs := [17]) (by kernel_rfl) (by simp) ?_
        refine AllReadyH.cons rfl (fun K_ hK_ => ?_) AllReadyH.nil
        go_simp
        refine hK_.out _ _ hS9 fun _ => ?_
        clear hK_ K_
        refine wpAnyH_done (by kernel_rfl) ?_ _
        go_wp2_with fail
        refine bodyPost_ret (elem15_results rfl rfl (fill7_blk ST8.out.hR (.int .i64 2) (.string ⟨#[]⟩) (.string (bs S)) (.string (bs S2)) (.bool false) (.string ⟨#[]⟩) (.slice none 0 0))) rfl ?_
        rw [EPost, HR.out]
        exact ⟨rfl, (fill7_below ST8.out.hb (Nat.le_succ _) (.int .i64 2) (.string ⟨#[]⟩) (.string (bs S)) (.string (bs S2)) (.bool false) (.string ⟨#[]⟩) (.slice none 0 0))⟩
      | true =>
        cases hO : (S3 == [99, 111, 110, 116, 105, 110, 117, 101]) with
        | true =>
          have hSn : S ≠ [] := fun h => by rw [h] at hS; cases hS
          have hS0 : El2 (World.drew W5) w.heap.size w1.heap.size #[.int .i64 kd, .string tx, .slice A l.length c] #[.int .i64 2, .string ⟨#[]⟩, .string (bs S), .string (bs S2), .bool true, .string ⟨#[]⟩, .slice none 0 0] := ⟨ST6.out.hT, ST6.out.hE⟩
          refine wp_region_held (S := (fun w' => El2 w' w.heap.size w1.heap.size #[.int .i64 kd, .string tx, .slice A l.length c] #[.int .i64 2, .string ⟨#[]⟩, .string (bs S), .string (bs S2), .bool true, .string ⟨#[]⟩, .slice none 0 0])) (by kernel_rfl) ?_
          change wpAnyH _ _ _ _ _ _ _ _ (World.drew _)
          refine wpAnyH_take (i := 0) (v := ?_) rfl (by kernel_rfl) (by kernel_rfl) (by kernel_rfl) (fun _ _ _ h => h) (Or.inl ⟨by rfl, ?_⟩) hS0 ?_
          rotate_left
          · (intro w_ hS_; have s0 := hS_.hE.cell 0; have s1 := hS_.hE.cell 1; have s2 := hS_.hE.cell 2; have s3 := hS_.hE.cell 3; have s4 := hS_.hE.cell 4; have s5 := hS_.hE.cell 5; have s6 := hS_.hE.cell 6; go_simp; try with_reducible rfl)
          have HR : Hid (RR = (.mk 2 [] S S2 true [] [], onlyF [nSrc, nAlt, nOnerror] [] l)) := HEL.out.trans (by have h : S3 = nContinue := beq_iff_eq.1 hO; simp [h, hSn])
          refine wpAnyH_take (i := 1) (v := ?_) rfl (by kernel_rfl) (by kernel_rfl) (by kernel_rfl) (fun _ _ _ h => h) (Or.inl ⟨by rfl, ?_⟩) hS0 ?_
          rotate_left
          · (intro w_ hS_; obtain _s := hS_; go_simp; try with_reducible rfl)
          refine wpAnyH_take (i := 2) (v := (.bool true)) rfl (by kernel_rfl) (by kernel_rfl) (by kernel_rfl) (fun _ _ _ h => h) (Or.inl ⟨by kernel_rfl, ?_⟩) hS0 ?_
          · (intro w_ hS_; go_simp; try simp [htS, hS])
          refine wpAnyH_take (i := 3) (v := ?_) rfl (by kernel_rfl) (by kernel_rfl) (by kernel_rfl) (fun _ _ _ h => h) (Or.inl ⟨by rfl, ?_⟩) hS0 ?_
          rotate_left
          · (intro w_ hS_; obtain _s := hS_; go_simp; try with_reducible rfl)
          refine wpAnyH_take (i := 4) (v := ?_) rfl (by kernel_rfl) (by kernel_rfl) (by kernel_rfl) (fun _ _ _ h => h) (Or.inl ⟨by kernel_rfl, ?_⟩) hS0 ?_
          rotate_left
          · (intro w_ hS_; obtain _s := hS_; go_simp; try with_reducible rfl)
          refine wpAnyH_take (i := 5) (v := ?_) rfl (by kernel_rfl) (by kernel_rfl) (by kernel_rfl) (fun _ _ _ h => h) (Or.inl ⟨by kernel_rfl, ?_⟩) hS0 ?_
          rotate_left
          · (intro w_ hS_; obtain _s := hS_; go_simp; try with_reducible rfl)
          refine wpAnyH_take (i := 6) (v := ?_) rfl (by kernel_rfl) (by kernel_rfl) (by kernel_rfl) (fun _ _ _ h => h) (Or.inl ⟨by kernel_rfl, ?_⟩) hS0 ?_
          rotate_left
          · (intro w_ hS_; obtain _s := hS_; go_simp; try with_reducible rfl)
          refine wpAnyH_take (i := 7) (v := ?_) rfl (by kernel_rfl) (by kernel_rfl) (by kernel_rfl) (fun _ _ _ h => h) (Or.inl ⟨by kernel_rfl, ?_⟩) hS0 ?_
          rotate_left
          · (intro w_ hS_; obtain _s := hS_; go_simp; try with_reducible rfl)
          refine wpAnyH_take (i := 8) (v := (.bool true)) rfl (by kernel_rfl) (by kernel_rfl) (by kernel_rfl) (fun _ _ _ h => h) (Or.inl ⟨by kernel_rfl, ?_⟩) hS0 ?_
          · (intro w_ hS_; go_simp; try simp [htS3, hO])
          refine wpAnyH_take (i := 9) (v := ?_) rfl (by kernel_rfl) (by kernel_rfl) (by kernel_rfl) (fun _ _ _ h => h) (Or.inl ⟨by kernel_rfl, ?_⟩) hS0 ?_
          rotate_left
          · (intro w_ hS_; obtain _s := hS_; go_simp; try with_reducible rfl)
          refine wpAnyH_take (i := 10) (v := ?_) rfl (by kernel_rfl) (by kernel_rfl) (by kernel_rfl) (fun _ _ _ h => h) (Or.inl ⟨by rfl, ?_⟩) hS0 ?_
          rotate_left
          · (intro w_ hS_; obtain _s := hS_; go_simp; try with_reducible rfl)
          refine wpAnyH_take (i := 11) (v := ?_) rfl (by kernel_rfl) (by kernel_rfl) (by kernel_rfl) (fun _ _ _ h => h) (Or.inl ⟨by rfl, ?_⟩) hS0 ?_
          rotate_left
          · (intro w_ hS_; obtain _s := hS_; go_simp; try with_reducible rfl)
          refine wpAnyH_take (i := 12) (v := ?_) rfl (by kernel_rfl) (by kernel_rfl) (by kernel_rfl) (fun _ _ _ h => h) (Or.inl ⟨by kernel_rfl, ?_⟩) hS0 ?_
          rotate_left
          · (intro w_ hS_; have s0 := hS_.hT.cell 0; have s1 := hS_.hT.cell 1; have s2 := hS_.hT.cell 2; go_simp; try with_reducible rfl)
          have hbn := ((Below.refl W5.heap.size W5).alloc (Nat.le_refl _) (.cells #[.string (bs nSrc), .string (bs nAlt), .string (bs nOnerror)] 9)).drew
          have ST7 := Lib.hid (ST6.out.step hbn)
          have HGN := Lib.hid ((gr_strs (F := fun _ => True) (ns := [nSrc, nAlt, nOnerror]) (Blk.new W5 9 #[.string (bs nSrc), .string (bs nAlt), .string (bs nOnerror)]) trivial (by simp [maxLen])).below ((Below.refl _ _).drew))
          refine wpAnyH_ready (rs := [13]) (by kernel_rfl) (by simp) ?_
          refine AllReadyH.cons rfl (fun K_ hK_ => ?_) AllReadyH.nil
          go_simp
          refine hK_.out _ _ ST7.out.two fun _ => ?_
          clear hK_ K_
          refine wpAnyH_ready (rs := [14]) (by kernel_rfl) (by simp) ?_
          refine AllReadyH.cons rfl (fun K_ hK_ => ?_) AllReadyH.nil
          go_simp
          refine (only_calls kd tx _ _ l [nSrc, nAlt, nOnerror] (fun _ => True) _ ((HV.out.below ST7.out.hb).weaken (fun _ _ => trivial)) HGN.out).mono ?_
          rintro e w8 ⟨rfl, hb8⟩
          have ST8 := Lib.hid (ST7.out.step hb8)
          refine hK_.out _ _ ST8.out.two fun _ => ?_
          clear hK_ K_ hbn hb8 ST7 HGN
          have hS1 := ST8.out.two
          refine wpAnyH_take (i := 15) (v := ?_) rfl (by kernel_rfl) (by kernel_rfl) (by kernel_rfl) (fun _ _ _ h => h) (Or.inl ⟨by rfl, ?_⟩) hS1 ?_
          rotate_left
          · (intro w_ hS_; obtain _s := hS_; go_simp; try with_reducible rfl)
          have hS9 := El2.fill7 ST8.out.two (R := w.heap.size + 1) (by omega) (by have := ST8.out.hl; omega) (.int .i64 2) (.string ⟨#[]⟩) (.string (bs S)) (.string (bs S2)) (.bool true) (.string ⟨#[]⟩) (.slice none 0 0)
          have r0 := ST8.out.hR.cell 0
          have r1 := ST8.out.hR.cell 1
          have r2 := ST8.out.hR.cell 2
          have r3 := ST8.out.hR.cell 3
          have r4 := ST8.out.hR.cell 4
          have r5 := ST8.out.hR.cell 5
          have r6 := ST8.out.hR.cell 6
          have f0 := ST8.out.hR.frozen 0
          have f1 := ST8.out.hR.frozen 1
          have f2 := ST8.out.hR.frozen 2
          have f3 := ST8.out.hR.frozen 3
          have f4 := ST8.out.hR.frozen 4
          have f5 := ST8.out.hR.frozen 5
          have f6 := ST8.out.hR.frozen 6
          refine wpAnyH_ready (rs := [16]) (by kernel_rfl) (by simp) ?_
          refine AllReadyH.cons rfl (fun K_ hK_ => ?_) AllReadyH.nil
          go_simp
          refine hK_.out _ _ hS9 fun _ => ?_
          clear hK_ K_ r0 r1 r2 r3 r4 r5 r6 f0 f1 f2 f3 f4 f5 f6
          refine wpAnyH_ready (rs := [17]) (by kernel_rfl) (by simp) ?_
          refine AllReadyH.cons rfl (fun K_ hK_ => ?_) AllReadyH.nil
          go_simp
          refine hK_.out _ _ hS9 fun _ => ?_
          clear hK_ K_
          refine wpAnyH_done (by kernel_rfl) ?_ _
          go_wp2_with fail
          refine bodyPost_ret (elem15_results rfl rfl (fill7_blk ST8.out.hR (.int .i64 2) (.string ⟨#[]⟩) (.string (bs S)) (.string (bs S2)) (.bool true) (.string ⟨#[]⟩) (.slice none 0 0))) rfl ?_
          rw [EPost, HR.out]
          exact ⟨rfl, (fill7_below ST8.out.hb (Nat.le_succ _) (.int .i64 2) (.string ⟨#[]⟩) (.string (bs S)) (.string (bs S2)) (.bool true) (.string ⟨#[]⟩) (.slice none 0 0))⟩
        | false =>
          have hSn : S ≠ [] := fun h => by rw [h] at hS; cases hS
          have hS0 : El2 (World.drew W5) w.heap.size w1.heap.size #[.int .i64 kd, .string tx, .slice A l.length c] #[.int .i64 2, .string ⟨#[]⟩, .string (bs S), .string (bs S2), .bool true, .string ⟨#[]⟩, .slice none 0 0] := ⟨ST6.out.hT, ST6.out.hE⟩
          refine wp_region_held (S := (fun w' => El2 w' w.heap.size w1.heap.size #[.int .i64 kd, .string tx, .slice A l.length c] #[.int .i64 2, .string ⟨#[]⟩, .string (bs S), .string (bs S2), .bool true, .string ⟨#[]⟩, .slice none 0 0])) (by kernel_rfl) ?_
          change wpAnyH _ _ _ _ _ _ _ _ (World.drew _)
          refine wpAnyH_take (i := 0) (v := ?_) rfl (by kernel_rfl) (by kernel_rfl) (by kernel_rfl) (fun _ _ _ h => h) (Or.inl ⟨by rfl, ?_⟩) hS0 ?_
          rotate_left
          · (intro w_ hS_; have s0 := hS_.hE.cell 0; have s1 := hS_.hE.cell 1; have s2 := hS_.hE.cell 2; have s3 := hS_.hE.cell 3; have s4 := hS_.hE.cell 4; have s5 := hS_.hE.cell 5; have s6 := hS_.hE.cell 6; go_simp; try with_reducible rfl)
          have HR : Hid (RR = (.mk 2 [] S S2 true [] [], false)) := HEL.out.trans (by have h : S3 ≠ nContinue := beq_eq_false_iff_ne.1 hO; simp [h, hSn])
          refine wpAnyH_take (i := 1) (v := ?_) rfl (by kernel_rfl) (by kernel_rfl) (by kernel_rfl) (fun _ _ _ h => h) (Or.inl ⟨by rfl, ?_⟩) hS0 ?_
          rotate_left
          · (intro w_ hS_; obtain _s := hS_; go_simp; try with_reducible rfl)
          refine wpAnyH_take (i := 2) (v := (.bool true)) rfl (by kernel_rfl) (by kernel_rfl) (by kernel_rfl) (fun _ _ _ h => h) (Or.inl ⟨by kernel_rfl, ?_⟩) hS0 ?_
          · (intro w_ hS_; go_simp; try simp [htS, hS])
          refine wpAnyH_take (i := 3) (v := ?_) rfl (by kernel_rfl) (by kernel_rfl) (by kernel_rfl) (fun _ _ _ h => h) (Or.inl ⟨by rfl, ?_⟩) hS0 ?_
          rotate_left
          · (intro w_ hS_; obtain _s := hS_; go_simp; try with_reducible rfl)
          refine wpAnyH_take (i := 4) (v := ?_) rfl (by kernel_rfl) (by kernel_rfl) (by kernel_rfl) (fun _ _ _ h => h) (Or.inl ⟨by kernel_rfl, ?_⟩) hS0 ?_
          rotate_left
          · (intro w_ hS_; obtain _s := hS_; go_simp; try with_reducible rfl)
          refine wpAnyH_take (i := 5) (v := ?_) rfl (by kernel_rfl) (by kernel_rfl) (by kernel_rfl) (fun _ _ _ h => h) (Or.inl ⟨by kernel_rfl, ?_⟩) hS0 ?_
          rotate_left
          · (intro w_ hS_; obtain _s := hS_; go_simp; try with_reducible rfl)
          refine wpAnyH_take (i := 6) (v := ?_) rfl (by kernel_rfl) (by kernel_rfl) (by kernel_rfl) (fun _ _ _ h => h) (Or.inl ⟨by kernel_rfl, ?_⟩) hS0 ?_
          rotate_left
          · (intro w_ hS_; obtain _s := hS_; go_simp; try with_reducible rfl)
          refine wpAnyH_take (i := 7) (v := ?_) rfl (by kernel_rfl) (by kernel_rfl) (by kernel_rfl) (fun _ _ _ h => h) (Or.inl ⟨by kernel_rfl, ?_⟩) hS0 ?_
          rotate_left
          · (intro w_ hS_; obtain _s := hS_; go_simp; try with_reducible rfl)
          refine wpAnyH_take (i := 8) (v := (.bool false)) rfl (by kernel_rfl) (by kernel_rfl) (by kernel_rfl) (fun _ _ _ h => h) (Or.inl ⟨by kernel_rfl, ?_⟩) hS0 ?_
          · (intro w_ hS_; go_simp; try simp [htS3, hO])
          refine wpAnyH_take (i := 9) (v := ?_) rfl (by kernel_rfl) (by kernel_rfl) (by kernel_rfl) (fun _ _ _ h => h) (Or.inl ⟨by kernel_rfl, ?_⟩) hS0 ?_
          rotate_left
          · (intro w_ hS_; obtain _s := hS_; go_simp; try with_reducible rfl)
          refine wpAnyH_take (i := 10) (v := ?_) rfl (by kernel_rfl) (by kernel_rfl) (by kernel_rfl) (fun _ _ _ h => h) (Or.inl ⟨by rfl, ?_⟩) hS0 ?_
          rotate_left
          · (intro w_ hS_; obtain _s := hS_; go_simp; try with_reducible rfl)
          refine wpAnyH_take (i := 11) (v := ?_) rfl (by kernel_rfl) (by kernel_rfl) (by kernel_rfl) (fun _ _ _ h => h) (Or.inl ⟨by rfl, ?_⟩) hS0 ?_
          rotate_left
          · (intro w_ hS_; obtain _s := hS_; go_simp; try with_reducible rfl)
          refine wpAnyH_take (i := 12) (v := undef) rfl (by kernel_rfl) (by kernel_rfl) (by kernel_rfl) (fun _ _ _ h => h) (Or.inr ⟨by kernel_rfl, rfl⟩) hS0 ?_
          refine wpAnyH_take (i := 13) (v := undef) rfl (by kernel_rfl) (by kernel_rfl) (by kernel_rfl) (fun _ _ _ h => h) (Or.inr ⟨by kernel_rfl, rfl⟩) hS0 ?_
          refine wpAnyH_take (i := 14) (v := undef) rfl (by kernel_rfl) (by kernel_rfl) (by kernel_rfl) (fun _ _ _ h => h) (Or.inr ⟨by kernel_rfl, rfl⟩) hS0 ?_
          refine wpAnyH_take (i := 15) (v := ?_) rfl (by kernel_rfl) (by kernel_rfl) (by kernel_rfl) (fun _ _ _ h => h) (Or.inl ⟨by rfl, ?_⟩) hS0 ?_
          rotate_left
          · (intro w_ hS_; obtain _s := hS_; go_simp; try with_reducible rfl)
          have hS9 := El2.fill7 ST6.out.two (R := w.heap.size + 1) (by omega) (by have := ST6.out.hl; omega) (.int .i64 2) (.string ⟨#[]⟩) (.string (bs S)) (.string (bs S2)) (.bool true) (.string ⟨#[]⟩) (.slice none 0 0)
          have r0 := ST6.out.hR.cell 0
          have r1 := ST6.out.hR.cell 1
          have r2 := ST6.out.hR.cell 2
          have r3 := ST6.out.hR.cell 3
          have r4 := ST6.out.hR.cell 4
          have r5 := ST6.out.hR.cell 5
          have r6 := ST6.out.hR.cell 6
          have f0 := ST6.out.hR.frozen 0
          have f1 := ST6.out.hR.frozen 1
          have f2 := ST6.out.hR.frozen 2
          have f3 := ST6.out.hR.frozen 3
          have f4 := ST6.out.hR.frozen 4
          have f5 := ST6.out.hR.frozen 5
          have f6 := ST6.out.hR.frozen 6
          refine wpAnyH_ready (rs := [16]) (by kernel_rfl) (by simp) ?_
          refine AllReadyH.cons rfl (fun K_ hK_ => ?_) AllReadyH.nil
          go_simp
          refine hK_.out _ _ hS9.drew fun _ => ?_
          clear hK_ K_ r0 r1 r2 r3 r4 r5 r6 f0 f1 f2 f3 f4 f5 f6
          refine wpAnyH_ready (rs := [17]) (by kernel_rfl) (by simp) ?_
          refine AllReadyH.cons rfl (fun K_ hK_ => ?_) AllReadyH.nil
          go_simp
          refine hK_.out _ _ hS9.drew fun _ => ?_
          clear hK_ K_
          refine wpAnyH_done (by kernel_rfl) ?_ _
          go_wp2_with fail
          refine bodyPost_ret (elem15_results rfl rfl (fill7_blk ST6.out.hR (.int .i64 2) (.string ⟨#[]⟩) (.string (bs S)) (.string (bs S2)) (.bool true) (.string ⟨#[]⟩) (.slice none 0 0)).drew) rfl ?_
          rw [EPost, HR.out]
          exact ⟨rfl, (fill7_below ST6.out.hb (Nat.le_succ _) (.int .i64 2) (.string ⟨#[]⟩) (.string (bs S)) (.string (bs S2)) (.bool true) (.string ⟨#[]⟩) (.slice none 0 0)).drew⟩
  · rw [if_neg h2] at HEL
    have hk2 : (K == 2) = false := beq_eq_false_iff_ne.2 h2
    by_cases h3 : K = 3
    · subst h3
      rw [if_pos rfl] at HEL
      clear hk2 h2
      have hk2 : ((3:Int) == 2) = false := rfl
      have hk3 : ((3:Int) == 3) = true := rfl
      go_wp2_with fail
      refine (rattr_calls kd tx (bs nName) _ l F _ (HV.out.below ST1.out.hb)).mono ?_
      rw [L_bs]
      rintro e w2 ⟨rfl, hb2⟩
      have ST2 := Lib.hid (ST1.out.step hb2)
      clear hb2 t0 t1 t2
      have t0 := ST2.out.hT.cell 0
      have t1 := ST2.out.hT.cell 1
      have t2 := ST2.out.hT.cell 2
      go_wp2_with fail
      refine (rattr_calls kd tx (bs nFetchable) _ l F _ (HV.out.below ST2.out.hb)).mono ?_
      rw [L_bs]
      rintro e w4 ⟨rfl, hb4⟩
      have ST4 := Lib.hid (ST2.out.step hb4)
      clear hb4 t0 t1 t2
      have t0 := ST4.out.hT.cell 0
      have t1 := ST4.out.hT.cell 1
      have t2 := ST4.out.hT.cell 2
      have q2 := ST4.out.hE.frozen 2
      have d2 := ST4.out.hE.cell 2
      generalize valA l nName = S at *
      generalize valA l nFetchable = S3 at *
      generalize hasA l nFetchable = H3 at *
      generalize hasA l nName = H1 at *
      go_upto_region 15 with (fail)
      have ST5 := Lib.hid (ST4.out.set 2 (.string (bs S)))
      generalize w4.setCell ⟨w1.heap.size, 2, none⟩ (.string (bs S)) = W5 at ST5 ⊢
      clear t0 t1 t2 d2 q2 ST4
      have ST6 : Hid (ElSt w W5 w1.heap.size #[.int .i64 kd, .string tx, .slice A l.length c] #[.int .i64 3, .string ⟨#[]⟩, .string (bs S), .string ⟨#[]⟩, .bool false, .string ⟨#[]⟩, .slice none 0 0]) := ⟨ST5.out.hT, ST5.out.hR, ST5.out.hE, ST5.out.hb, ST5.out.hl⟩
      clear ST5
      have htS : (bs S).toList = S := toList_bs _
      have htS3 : (bs S3).toList = S3 := toList_bs _
      cases hS : S.isEmpty with
      | true =>
        have hS0 : El2 (World.drew W5) w.heap.size w1.heap.size #[.int .i64 kd, .string tx, .slice A l.length c] #[.int .i64 3, .string ⟨#[]⟩, .string (bs S), .string ⟨#[]⟩, .bool false, .string ⟨#[]⟩, .slice none 0 0] := ⟨ST6.out.hT, ST6.out.hE⟩
        refine wp_region_held (S := (fun w' => El2 w' w.heap.size w1.heap.size #[.int .i64 kd, .string tx, .slice A l.length c] #[.int .i64 3, .string ⟨#[]⟩, .string (bs S), .string ⟨#[]⟩, .bool false, .string ⟨#[]⟩, .slice none 0 0])) (by kernel_rfl) ?_
        change wpAnyH _ _ _ _ _ _ _ _ (World.drew _)
        refine wpAnyH_take (i := 0) (v := ?_) rfl (by kernel_rfl) (by kernel_rfl) (by kernel_rfl) (fun _ _ _ h => h) (Or.inl ⟨by rfl, ?_⟩) hS0 ?_
        rotate_left
        · (intro w_ hS_; have s0 := hS_.hE.cell 0; have s1 := hS_.hE.cell 1; have s2 := hS_.hE.cell 2; have s3 := hS_.hE.cell 3; have s4 := hS_.hE.cell 4; have s5 := hS_.hE.cell 5; have s6 := hS_.hE.cell 6; go_simp; try with_reducible rfl)
        have HR : Hid (RR = (.mk 3 [] S [] false [] [], false)) := HEL.out.trans (by have h : S = [] := List.isEmpty_iff.1 hS; simp [h])
        refine wpAnyH_take (i := 1) (v := ?_) rfl (by kernel_rfl) (by kernel_rfl) (by kernel_rfl) (fun _ _ _ h => h) (Or.inl ⟨by rfl, ?_⟩) hS0 ?_
        rotate_left
        · (intro w_ hS_; obtain _s := hS_; go_simp; try with_reducible rfl)
        refine wpAnyH_take (i := 2) (v := (.bool false)) rfl (by kernel_rfl) (by kernel_rfl) (by kernel_rfl) (fun _ _ _ h => h) (Or.inl ⟨by kernel_rfl, ?_⟩) hS0 ?_
        · (intro w_ hS_; go_simp; try simp [htS, hS])
        refine wpAnyH_take (i := 3) (v := ?_) rfl (by kernel_rfl) (by kernel_rfl) (by kernel_rfl) (fun _ _ _ h => h) (Or.inl ⟨by rfl, ?_⟩) hS0 ?_
        rotate_left
        · (intro w_ hS_; obtain _s := hS_; go_simp; try with_reducible rfl)
        refine wpAnyH_take (i := 4) (v := undef) rfl (by kernel_rfl) (by kernel_rfl) (by kernel_rfl) (fun _ _ _ h => h) (Or.inr ⟨by kernel_rfl, rfl⟩) hS0 ?_
        refine wpAnyH_take (i := 5) (v := undef) rfl (by kernel_rfl) (by kernel_rfl) (by kernel_rfl) (fun _ _ _ h => h) (Or.inr ⟨by kernel_rfl, rfl⟩) hS0 ?_
        refine wpAnyH_take (i := 6) (v := undef) rfl (by kernel_rfl) (by kernel_rfl) (by kernel_rfl) (fun _ _ _ h => h) (Or.inr ⟨by kernel_rfl, rfl⟩) hS0 ?_
        refine wpAnyH_take (i := 7) (v := undef) rfl (by kernel_rfl) (by kernel_rfl) (by kernel_rfl) (fun _ _ _ h => h) (Or.inr ⟨by kernel_rfl, rfl⟩) hS0 ?_
        refine wpAnyH_take (i := 8) (v := undef) rfl (by kernel_rfl) (by kernel_rfl) (by kernel_rfl) (fun _ _ _ h => h) (Or.inr ⟨by kernel_rfl, rfl⟩) hS0 ?_
        refine wpAnyH_take (i := 9) (v := undef) rfl (by kernel_rfl) (by kernel_rfl) (by kernel_rfl) (fun _ _ _ h => h) (Or.inr ⟨by kernel_rfl, rfl⟩) hS0 ?_
        refine wpAnyH_take (i := 10) (v := undef) rfl (by kernel_rfl) (by kernel_rfl) (by kernel_rfl) (fun _ _ _ h => h) (Or.inr ⟨by kernel_rfl, rfl⟩) hS0 ?_
        refine wpAnyH_take (i := 11) (v := undef) rfl (by kernel_rfl) (by kernel_rfl) (by kernel_rfl) (fun _ _ _ h => h) (Or.inr ⟨by kernel_rfl, rfl⟩) hS0 ?_
        refine wpAnyH_take (i := 12) (v := undef) rfl (by kernel_rfl) (by kernel_rfl) (by kernel_rfl) (fun _ _ _ h => h) (Or.inr ⟨by kernel_rfl, rfl⟩) hS0 ?_
        refine wpAnyH_take (i := 13) (v := undef) rfl (by kernel_rfl) (by kernel_rfl) (by kernel_rfl) (fun _ _ _ h => h) (Or.inr ⟨by kernel_rfl, rfl⟩) hS0 ?_
        refine wpAnyH_take (i := 14) (v := ?_) rfl (by kernel_rfl) (by kernel_rfl) (by kernel_rfl) (fun _ _ _ h => h) (Or.inl ⟨by rfl, ?_⟩) hS0 ?_
        rotate_left
        · (intro w_ hS_; obtain _s := hS_; go_simp; try with_reducible rfl)
        refine wpAnyH_take (i := 15) (v := ?_) rfl (by kernel_rfl) (by kernel_rfl) (by kernel_rfl) (fun _ _ _ h => h) (Or.inl ⟨by rfl, ?_⟩) hS0 ?_
        rotate_left
        · (intro w_ hS_; obtain _s := hS_; go_simp; try with_reducible rfl)
        refine wpAnyH_take (i := 16) (v := undef) rfl (by kernel_rfl) (by kernel_rfl) (by kernel_rfl) (fun _ _ _ h => h) (Or.inr ⟨by kernel_rfl, rfl⟩) hS0 ?_
        refine wpAnyH_take (i := 17) (v := undef) rfl (by kernel_rfl) (by kernel_rfl) (by kernel_rfl) (fun _ _ _ h => h) (Or.inr ⟨by kernel_rfl, rfl⟩) hS0 ?_
        refine wpAnyH_take (i := 18) (v := undef) rfl (by kernel_rfl) (by kernel_rfl) (by kernel_rfl) (fun _ _ _ h => h) (Or.inr ⟨by kernel_rfl, rfl⟩) hS0 ?_
        refine wpAnyH_take (i := 19) (v := ?_) rfl (by kernel_rfl) (by kernel_rfl) (by kernel_rfl) (fun _ _ _ h => h) (Or.inl ⟨by rfl, ?_⟩) hS0 ?_
        rotate_left
        · (intro w_ hS_; obtain _s := hS_; go_simp; try with_reducible rfl)
        have hS9 := El2.fill7 ST6.out.two (R := w.heap.size + 1) (by omega) (by have := ST6.out.hl; omega) (.int .i64 3) (.string ⟨#[]⟩) (.string (bs S)) (.string ⟨#[]⟩) (.bool false) (.string ⟨#[]⟩) (.slice none 0 0)
        have r0 := ST6.out.hR.cell 0
        have r1 := ST6.out.hR.cell 1
        have r2 := ST6.out.hR.cell 2
        have r3 := ST6.out.hR.cell 3
        have r4 := ST6.out.hR.cell 4
        have r5 := ST6.out.hR.cell 5
        have r6 := ST6.out.hR.cell 6
        have f0 := ST6.out.hR.frozen 0
        have f1 := ST6.out.hR.frozen 1
        have f2 := ST6.out.hR.frozen 2
        have f3 := ST6.out.hR.frozen 3
        have f4 := ST6.out.hR.frozen 4
        have f5 := ST6.out.hR.frozen 5
        have f6 := ST6.out.hR.frozen 6
        refine wpAnyH_ready (rs := [20]) (by kernel_rfl) (by simp) ?_
        refine AllReadyH.cons rfl (fun K_ hK_ => ?_) AllReadyH.nil
        go_simp
        refine hK_.out _ _ hS9.drew fun _ => ?_
        clear hK_ K_ r0 r1 r2 r3 r4 r5 r6 f0 f1 f2 f3 f4 f5 f6
        refine wpAnyH_ready (rs := [21]) (by kernel_rfl) (by simp) ?_
        refine AllReadyH.cons rfl (fun K_ hK_ => ?_) AllReadyH.nil
        go_simp
        refine hK_.out _ _ hS9.drew fun _ => ?_
        clear hK_ K_
        refine wpAnyH_done (by kernel_rfl) ?_ _
        go_wp2_with fail
        refine bodyPost_ret (elem15_results rfl rfl (fill7_blk ST6.out.hR (.int .i64 3) (.string ⟨#[]⟩) (.string (bs S)) (.string ⟨#[]⟩) (.bool false) (.string ⟨#[]⟩) (.slice none 0 0)).drew) rfl ?_
        rw [EPost, HR.out]
        exact ⟨rfl, (fill7_below ST6.out.hb (Nat.le_succ _) (.int .i64 3) (.string ⟨#[]⟩) (.string (bs S)) (.string ⟨#[]⟩) (.bool false) (.string ⟨#[]⟩) (.slice none 0 0)).drew⟩
      | false =>
        cases H3 with
        | false =>
          have hSn : S ≠ [] := fun h => by rw [h] at hS; cases hS
          have hS0 : El2 (World.drew W5) w.heap.size w1.heap.size #[.int .i64 kd, .string tx, .slice A l.length c] #[.int .i64 3, .string ⟨#[]⟩, .string (bs S), .string ⟨#[]⟩, .bool false, .string ⟨#[]⟩, .slice none 0 0] := ⟨ST6.out.hT, ST6.out.hE⟩
          refine wp_region_held (S := (fun w' => El2 w' w.heap.size w1.heap.size #[.int .i64 kd, .string tx, .slice A l.length c] #[.int .i64 3, .string ⟨#[]⟩, .string (bs S), .string ⟨#[]⟩, .bool false, .string ⟨#[]⟩, .slice none 0 0])) (by kernel_rfl) ?_
          change wpAnyH _ _ _ _ _ _ _ _ (World.drew _)
          refine wpAnyH_take (i := 0) (v := ?_) rfl (by kernel_rfl) (by kernel_rfl) (by kernel_rfl) (fun _ _ _ h => h) (Or.inl ⟨by rfl, ?_⟩) hS0 ?_
          rotate_left
          · (intro w_ hS_; have s0 := hS_.hE.cell 0; have s1 := hS_.hE.cell 1; have s2 := hS_.hE.cell 2; have s3 := hS_.hE.cell 3; have s4 := hS_.hE.cell 4; have s5 := hS_.hE.cell 5; have s6 := hS_.hE.cell 6; go_simp; try with_reducible rfl)
          have HR : Hid (RR = (.mk 3 [] S [] false [] [], onlyF [nName, nFetchable] [] l)) := HEL.out.trans (by simp [hSn])
          refine wpAnyH_take (i := 1) (v := ?_) rfl (by kernel_rfl) (by kernel_rfl) (by kernel_rfl) (fun _ _ _ h => h) (Or.inl ⟨by rfl, ?_⟩) hS0 ?_
          rotate_left
          · (intro w_ hS_; obtain _s := hS_; go_simp; try with_reducible rfl)
          refine wpAnyH_take (i := 2) (v := (.bool true)) rfl (by kernel_rfl) (by kernel_rfl) (by kernel_rfl) (fun _ _ _ h => h) (Or.inl ⟨by kernel_rfl, ?_⟩) hS0 ?_
          · (intro w_ hS_; go_simp; try simp [htS, hS])
          refine wpAnyH_take (i := 3) (v := ?_) rfl (by kernel_rfl) (by kernel_rfl) (by kernel_rfl) (fun _ _ _ h => h) (Or.inl ⟨by rfl, ?_⟩) hS0 ?_
          rotate_left
          · (intro w_ hS_; obtain _s := hS_; go_simp; try with_reducible rfl)
          refine wpAnyH_take (i := 4) (v := ?_) rfl (by kernel_rfl) (by kernel_rfl) (by kernel_rfl) (fun _ _ _ h => h) (Or.inl ⟨by kernel_rfl, ?_⟩) hS0 ?_
          rotate_left
          · (intro w_ hS_; obtain _s := hS_; go_simp; try with_reducible rfl)
          refine wpAnyH_take (i := 5) (v := ?_) rfl (by kernel_rfl) (by kernel_rfl) (by kernel_rfl) (fun _ _ _ h => h) (Or.inl ⟨by kernel_rfl, ?_⟩) hS0 ?_
          rotate_left
          · (intro w_ hS_; obtain _s := hS_; go_simp; try with_reducible rfl)
          refine wpAnyH_take (i := 6) (v := ?_) rfl (by kernel_rfl) (by kernel_rfl) (by kernel_rfl) (fun _ _ _ h => h) (Or.inl ⟨by kernel_rfl, ?_⟩) hS0 ?_
          rotate_left
          · (intro w_ hS_; obtain _s := hS_; go_simp; try with_reducible rfl)
          refine wpAnyH_take (i := 7) (v := undef) rfl (by kernel_rfl) (by kernel_rfl) (by kernel_rfl) (fun _ _ _ h => h) (Or.inr ⟨by kernel_rfl, rfl⟩) hS0 ?_
          refine wpAnyH_take (i := 8) (v := undef) rfl (by kernel_rfl) (by kernel_rfl) (by kernel_rfl) (fun _ _ _ h => h) (Or.inr ⟨by kernel_rfl, rfl⟩) hS0 ?_
          refine wpAnyH_take (i := 9) (v := ?_) rfl (by kernel_rfl) (by kernel_rfl) (by kernel_rfl) (fun _ _ _ h => h) (Or.inl ⟨by kernel_rfl, ?_⟩) hS0 ?_
          rotate_left
          · (intro w_ hS_; obtain _s := hS_; go_simp; try with_reducible rfl)
          refine wpAnyH_take (i := 10) (v := ?_) rfl (by kernel_rfl) (by kernel_rfl) (by kernel_rfl) (fun _ _ _ h => h) (Or.inl ⟨by kernel_rfl, ?_⟩) hS0 ?_
          rotate_left
          · (intro w_ hS_; obtain _s := hS_; go_simp; try with_reducible rfl)
          refine wpAnyH_take (i := 11) (v := undef) rfl (by kernel_rfl) (by kernel_rfl) (by kernel_rfl) (fun _ _ _ h => h) (Or.inr ⟨by kernel_rfl, rfl⟩) hS0 ?_
          refine wpAnyH_take (i := 12) (v := undef) rfl (by kernel_rfl) (by kernel_rfl) (by kernel_rfl) (fun _ _ _ h => h) (Or.inr ⟨by kernel_rfl, rfl⟩) hS0 ?_
          refine wpAnyH_take (i := 13) (v := ?_) rfl (by kernel_rfl) (by kernel_rfl) (by kernel_rfl) (fun _ _ _ h => h) (Or.inl ⟨by kernel_rfl, ?_⟩) hS0 ?_
          rotate_left
          · (intro w_ hS_; obtain _s := hS_; go_simp; try with_reducible rfl)
          refine wpAnyH_take (i := 14) (v := ?_) rfl (by kernel_rfl) (by kernel_rfl) (by kernel_rfl) (fun _ _ _ h => h) (Or.inl ⟨by rfl, ?_⟩) hS0 ?_
          rotate_left
          · (intro w_ hS_; obtain _s := hS_; go_simp; try with_reducible rfl)
          refine wpAnyH_take (i := 15) (v := ?_) rfl (by kernel_rfl) (by kernel_rfl) (by kernel_rfl) (fun _ _ _ h => h) (Or.inl ⟨by rfl, ?_⟩) hS0 ?_
          rotate_left
          · (intro w_ hS_; obtain _s := hS_; go_simp; try with_reducible rfl)
          refine wpAnyH_take (i := 16) (v := ?_) rfl (by kernel_rfl) (by kernel_rfl) (by kernel_rfl) (fun _ _ _ h => h) (Or.inl ⟨by kernel_rfl, ?_⟩) hS0 ?_
          rotate_left
          · (intro w_ hS_; have s0 := hS_.hT.cell 0; have s1 := hS_.hT.cell 1; have s2 := hS_.hT.cell 2; go_simp; try with_reducible rfl)
          have hbn := ((Below.refl W5.heap.size W5).alloc (Nat.le_refl _) (.cells #[.string (bs nName), .string (bs nFetchable)] 9)).drew
          have ST7 := Lib.hid (ST6.out.step hbn)
          have HGN := Lib.hid ((gr_strs (F := fun _ => True) (ns := [nName, nFetchable]) (Blk.new W5 9 #[.string (bs nName), .string (bs nFetchable)]) trivial (by simp [maxLen])).below ((Below.refl _ _).drew))
          refine wpAnyH_ready (rs := [17]) (by kernel_rfl) (by simp) ?_
          refine AllReadyH.cons rfl (fun K_ hK_ => ?_) AllReadyH.nil
          go_simp
          refine hK_.out _ _ ST7.out.two fun _ => ?_
          clear hK_ K_
          refine wpAnyH_ready (rs := [18]) (by kernel_rfl) (by simp) ?_
          refine AllReadyH.cons rfl (fun K_ hK_ => ?_) AllReadyH.nil
          go_simp
          refine (only_calls kd tx _ _ l [nName, nFetchable] (fun _ => True) _ ((HV.out.below ST7.out.hb).weaken (fun _ _ => trivial)) HGN.out).mono ?_
          rintro e w8 ⟨rfl, hb8⟩
          have ST8 := Lib.hid (ST7.out.step hb8)
          refine hK_.out _ _ ST8.out.two fun _ => ?_
          clear hK_ K_ hbn hb8 ST7 HGN
          have hS1 := ST8.out.two
          refine wpAnyH_take (i := 19) (v := ?_) rfl (by kernel_rfl) (by kernel_rfl) (by kernel_rfl) (fun _ _ _ h => h) (Or.inl ⟨by rfl, ?_⟩) hS1 ?_
          rotate_left
          · (intro w_ hS_; obtain _s := hS_; go_simp; try with_reducible rfl)
          have hS9 := El2.fill7 ST8.out.two (R := w.heap.size + 1) (by omega) (by have := ST8.out.hl; omega) (.int .i64 3) (.string ⟨#[]⟩) (.string (bs S)) (.string ⟨#[]⟩) (.bool false) (.string ⟨#[]⟩) (.slice none 0 0)
          have r0 := ST8.out.hR.cell 0
          have r1 := ST8.out.hR.cell 1
          have r2 := ST8.out.hR.cell 2
          have r3 := ST8.out.hR.cell 3
          have r4 := ST8.out.hR.cell 4
          have r5 := ST8.out.hR.cell 5
          have r6 := ST8.out.hR.cell 6
          have f0 := ST8.out.hR.frozen 0
          have f1 := ST8.out.hR.frozen 1
          have f2 := ST8.out.hR.frozen 2
          have f3 := ST8.out.hR.frozen 3
          have f4 := ST8.out.hR.frozen 4
          have f5 := ST8.out.hR.frozen 5
          have f6 := ST8.out.hR.frozen 6
          refine wpAnyH_ready (rs := [20]) (by kernel_rfl) (by simp) ?_
          refine AllReadyH.cons rfl (fun K_ hK_ => ?_) AllReadyH.nil
          go_simp
          refine hK_.out _ _ hS9 fun _ => ?_
          clear hK_ K_ r0 r1 r2 r3 r4 r5 r6 f0 f1 f2 f3 f4 f5 f6
          refine wpAnyH_ready (rs := [21]) (by kernel_rfl) (by simp) ?_
          refine AllReadyH.cons rfl (fun K_ hK_ => ?_) AllReadyH.nil
          go_simp
          refine hK_.out _ _ hS9 fun _ => ?_
          clear hK_ K_
          refine wpAnyH_done (by kernel_rfl) ?_ _
          go_wp2_with fail
          refine bodyPost_ret (elem15_results rfl rfl (fill7_blk ST8.out.hR (.int .i64 3) (.string ⟨#[]⟩) (.string (bs S)) (.string ⟨#[]⟩) (.bool false) (.string ⟨#[]⟩) (.slice none 0 0))) rfl ?_
          rw [EPost, HR.out]
          exact ⟨rfl, (fill7_below ST8.out.hb (Nat.le_succ _) (.int .i64 3) (.string ⟨#[]⟩) (.string (bs S)) (.string ⟨#[]⟩) (.bool false) (.string ⟨#[]⟩) (.slice none 0 0))⟩
        | true =>
          cases hO : (S3 == [121, 101, 115]) with
          | true =>
            have hSn : S ≠ [] := fun h => by rw [h] at hS; cases hS
            have hS0 : El2 (World.drew W5) w.heap.size w1.heap.size #[.int .i64 kd, .string tx, .slice A l.length c] #[.int .i64 3, .string ⟨#[]⟩, .string (bs S), .string ⟨#[]⟩, .bool false, .string ⟨#[]⟩, .slice none 0 0] := ⟨ST6.out.hT, ST6.out.hE⟩
            refine wp_region_held (S := (fun w' => El2 w' w.heap.size w1.heap.size #[.int .i64 kd, .string tx, .slice A l.length c] #[.int .i64 3, .string ⟨#[]⟩, .string (bs S), .string ⟨#[]⟩, .bool false, .string ⟨#[]⟩, .slice none 0 0])) (by kernel_rfl) ?_
            change wpAnyH _ _ _ _ _ _ _ _ (World.drew _)
            refine wpAnyH_take (i := 0) (v := ?_) rfl (by kernel_rfl) (by kernel_rfl) (by kernel_rfl) (fun _ _ _ h => h) (Or.inl ⟨by rfl, ?_⟩) hS0 ?_
            rotate_left
            · (intro w_ hS_; have s0 := hS_.hE.cell 0; have s1 := hS_.hE.cell 1; have s2 := hS_.hE.cell 2; have s3 := hS_.hE.cell 3; have s4 := hS_.hE.cell 4; have s5 := hS_.hE.cell 5; have s6 := hS_.hE.cell 6; go_simp; try with_reducible rfl)
            have HR : Hid (RR = (.mk 3 [] S [] false [] [], onlyF [nName, nFetchable] [] l)) := HEL.out.trans (by have h : S3 = nYes := beq_iff_eq.1 hO; simp [h, hSn])
            refine wpAnyH_take (i := 1) (v := ?_) rfl (by kernel_rfl) (by kernel_rfl) (by kernel_rfl) (fun _ _ _ h => h) (Or.inl ⟨by rfl, ?_⟩) hS0 ?_
            rotate_left
            · (intro w_ hS_; obtain _s := hS_; go_simp; try with_reducible rfl)
            refine wpAnyH_take (i := 2) (v := (.bool true)) rfl (by kernel_rfl) (by kernel_rfl) (by kernel_rfl) (fun _ _ _ h => h) (Or.inl ⟨by kernel_rfl, ?_⟩) hS0 ?_
            · (intro w_ hS_; go_simp; try simp [htS, hS])
            refine wpAnyH_take (i := 3) (v := ?_) rfl (by kernel_rfl) (by kernel_rfl) (by kernel_rfl) (fun _ _ _ h => h) (Or.inl ⟨by rfl, ?_⟩) hS0 ?_
            rotate_left
            · (intro w_ hS_; obtain _s := hS_; go_simp; try with_reducible rfl)
            refine wpAnyH_take (i := 4) (v := ?_) rfl (by kernel_rfl) (by kernel_rfl) (by kernel_rfl) (fun _ _ _ h => h) (Or.inl ⟨by kernel_rfl, ?_⟩) hS0 ?_
            rotate_left
            · (intro w_ hS_; obtain _s := hS_; go_simp; try with_reducible rfl)
            refine wpAnyH_take (i := 5) (v := ?_) rfl (by kernel_rfl) (by kernel_rfl) (by kernel_rfl) (fun _ _ _ h => h) (Or.inl ⟨by kernel_rfl, ?_⟩) hS0 ?_
            rotate_left
            · (intro w_ hS_; obtain _s := hS_; go_simp; try with_reducible rfl)
            refine wpAnyH_take (i := 6) (v := ?_) rfl (by kernel_rfl) (by kernel_rfl) (by kernel_rfl) (fun _ _ _ h => h) (Or.inl ⟨by kernel_rfl, ?_⟩) hS0 ?_
            rotate_left
            · (intro w_ hS_; obtain _s := hS_; go_simp; try with_reducible rfl)
            refine wpAnyH_take (i := 7) (v := ?_) rfl (by kernel_rfl) (by kernel_rfl) (by kernel_rfl) (fun _ _ _ h => h) (Or.inl ⟨by kernel_rfl, ?_⟩) hS0 ?_
            rotate_left
            · (intro w_ hS_; obtain _s := hS_; go_simp; try with_reducible rfl)
            refine wpAnyH_take (i := 8) (v := (.bool true)) rfl (by kernel_rfl) (by kernel_rfl) (by kernel_rfl) (fun _ _ _ h => h) (Or.inl ⟨by kernel_rfl, ?_⟩) hS0 ?_
            · (intro w_ hS_; go_simp; try simp [htS3, hO])
            refine wpAnyH_take (i := 9) (v := ?_) rfl (by kernel_rfl) (by kernel_rfl) (by kernel_rfl) (fun _ _ _ h => h) (Or.inl ⟨by kernel_rfl, ?_⟩) hS0 ?_
            rotate_left
            · (intro w_ hS_; obtain _s := hS_; go_simp; try with_reducible rfl)
            refine wpAnyH_take (i := 10) (v := ?_) rfl (by kernel_rfl) (by kernel_rfl) (by kernel_rfl) (fun _ _ _ h => h) (Or.inl ⟨by kernel_rfl, ?_⟩) hS0 ?_
            rotate_left
            · (intro w_ hS_; obtain _s := hS_; go_simp; try with_reducible rfl)
            refine wpAnyH_take (i := 11) (v := undef) rfl (by kernel_rfl) (by kernel_rfl) (by kernel_rfl) (fun _ _ _ h => h) (Or.inr ⟨by kernel_rfl, rfl⟩) hS0 ?_
            refine wpAnyH_take (i := 12) (v := undef) rfl (by kernel_rfl) (by kernel_rfl) (by kernel_rfl) (fun _ _ _ h => h) (Or.inr ⟨by kernel_rfl, rfl⟩) hS0 ?_
            refine wpAnyH_take (i := 13) (v := ?_) rfl (by kernel_rfl) (by kernel_rfl) (by kernel_rfl) (fun _ _ _ h => h) (Or.inl ⟨by kernel_rfl, ?_⟩) hS0 ?_
            rotate_left
            · (intro w_ hS_; obtain _s := hS_; go_simp; try with_reducible rfl)
            refine wpAnyH_take (i := 14) (v := ?_) rfl (by kernel_rfl) (by kernel_rfl) (by kernel_rfl) (fun _ _ _ h => h) (Or.inl ⟨by rfl, ?_⟩) hS0 ?_
            rotate_left
            · (intro w_ hS_; obtain _s := hS_; go_simp; try with_reducible rfl)
            refine wpAnyH_take (i := 15) (v := ?_) rfl (by kernel_rfl) (by kernel_rfl) (by kernel_rfl) (fun _ _ _ h => h) (Or.inl ⟨by rfl, ?_⟩) hS0 ?_
            rotate_left
            · (intro w_ hS_; obtain _s := hS_; go_simp; try with_reducible rfl)
            refine wpAnyH_take (i := 16) (v := ?_) rfl (by kernel_rfl) (by kernel_rfl) (by kernel_rfl) (fun _ _ _ h => h) (Or.inl ⟨by kernel_rfl, ?_⟩) hS0 ?_
            rotate_left
            · (intro w_ hS_; have s0 := hS_.hT.cell 0; have s1 := hS_.hT.cell 1; have s2 := hS_.hT.cell 2; go_simp; try with_reducible rfl)
            have hbn := ((Below.refl W5.heap.size W5).alloc (Nat.le_refl _) (.cells #[.string (bs nName), .string (bs nFetchable)] 9)).drew
            have ST7 := Lib.hid (ST6.out.step hbn)
            have HGN := Lib.hid ((gr_strs (F := fun _ => True) (ns := [nName, nFetchable]) (Blk.new W5 9 #[.string (bs nName), .string (bs nFetchable)]) trivial (by simp [maxLen])).below ((Below.refl _ _).drew))
            refine wpAnyH_ready (rs := [17]) (by kernel_rfl) (by simp) ?_
            refine AllReadyH.cons rfl (fun K_ hK_ => ?_) AllReadyH.nil
            go_simp
            refine hK_.out _ _ ST7.out.two fun _ => ?_
            clear hK_ K_
            refine wpAnyH_ready (rs := [18]) (by kernel_rfl) (by simp) ?_
            refine AllReadyH.cons rfl (fun K_ hK_ => ?_) AllReadyH.nil
            go_simp
            refine (only_calls kd tx _ _ l [nName, nFetchable] (fun _ => True) _ ((HV.out.below ST7.out.hb).weaken (fun _ _ => trivial)) HGN.out).mono ?_
            rintro e w8 ⟨rfl, hb8⟩
            have ST8 := Lib.hid (ST7.out.step hb8)
            refine hK_.out _ _ ST8.out.two fun _ => ?_
            clear hK_ K_ hbn hb8 ST7 HGN
            have hS1 := ST8.out.two
            refine wpAnyH_take (i := 19) (v := ?_) rfl (by kernel_rfl) (by kernel_rfl) (by kernel_rfl) (fun _ _ _ h => h) (Or.inl ⟨by rfl, ?_⟩) hS1 ?_
            rotate_left
            · (intro w_ hS_; obtain _s := hS_; go_simp; try with_reducible rfl)
            have hS9 := El2.fill7 ST8.out.two (R := w.heap.size + 1) (by omega) (by have := ST8.out.hl; omega) (.int .i64 3) (.string ⟨#[]⟩) (.string (bs S)) (.string ⟨#[]⟩) (.bool false) (.string ⟨#[]⟩) (.slice none 0 0)
            have r0 := ST8.out.hR.cell 0
            have r1 := ST8.out.hR.cell 1
            have r2 := ST8.out.hR.cell 2
            have r3 := ST8.out.hR.cell 3
            have r4 := ST8.out.hR.cell 4
            have r5 := ST8.out.hR.cell 5
            have r6 := ST8.out.hR.cell 6
            have f0 := ST8.out.hR.frozen 0
            have f1 := ST8.out.hR.frozen 1
            have f2 := ST8.out.hR.frozen 2
            have f3 := ST8.out.hR.frozen 3
            have f4 := ST8.out.hR.frozen 4
            have f5 := ST8.out.hR.frozen 5
            have f6 := ST8.out.hR.frozen 6
            refine wpAnyH_ready (rs := [20]) (by kernel_rfl) (by simp) ?_
            refine AllReadyH.cons rfl (fun K_ hK_ => ?_) AllReadyH.nil
            go_simp
            refine hK_.out _ _ hS9 fun _ => ?_
            clear hK_ K_ r0 r1 r2 r3 r4 r5 r6 f0 f1 f2 f3 f4 f5 f6
            refine wpAnyH_ready (rs := [21]) (by kernel_rfl) (by simp) ?_
            refine AllReadyH.cons rfl (fun K_ hK_ => ?_) AllReadyH.nil
            go_simp
            refine hK_.out _ _ hS9 fun _ => ?_
            clear hK_ K_
            refine wpAnyH_done (by kernel_rfl) ?_ _
            go_wp2_with fail
            refine bodyPost_ret (elem15_results rfl rfl (fill7_blk ST8.out.hR (.int .i64 3) (.string ⟨#[]⟩) (.string (bs S)) (.string ⟨#[]⟩) (.bool false) (.string ⟨#[]⟩) (.slice none 0 0))) rfl ?_
            rw [EPost, HR.out]
            exact ⟨rfl, (fill7_below ST8.out.hb (Nat.le_succ _) (.int .i64 3) (.string ⟨#[]⟩) (.string (bs S)) (.string ⟨#[]⟩) (.bool false) (.string ⟨#[]⟩) (.slice none 0 0))⟩
          | false =>
            cases hO2 : (S3 == [110, 111]) with
            | true =>
              have hSn : S ≠ [] := fun h => by rw [h] at hS; cases hS
              have hS0 : El2 (World.drew W5) w.heap.size w1.heap.size #[.int .i64 kd, .string tx, .slice A l.length c] #[.int .i64 3, .string ⟨#[]⟩, .string (bs S), .string ⟨#[]⟩, .bool false, .string ⟨#[]⟩, .slice none 0 0] := ⟨ST6.out.hT, ST6.out.hE⟩
              refine wp_region_held (S := (fun w' => El2 w' w.heap.size w1.heap.size #[.int .i64 kd, .string tx, .slice A l.length c] #[.int .i64 3, .string ⟨#[]⟩, .string (bs S), .string ⟨#[]⟩, .bool false, .string ⟨#[]⟩, .slice none 0 0])) (by kernel_rfl) ?_
              change wpAnyH _ _ _ _ _ _ _ _ (World.drew _)
              refine wpAnyH_take (i := 0) (v := ?_) rfl (by kernel_rfl) (by kernel_rfl) (by kernel_rfl) (fun _ _ _ h => h) (Or.inl ⟨by rfl, ?_⟩) hS0 ?_
              rotate_left
              · (intro w_ hS_; have s0 := hS_.hE.cell 0; have s1 := hS_.hE.cell 1; have s2 := hS_.hE.cell 2; have s3 := hS_.hE.cell 3; have s4 := hS_.hE.cell 4; have s5 := hS_.hE.cell 5; have s6 := hS_.hE.cell 6; go_simp; try with_reducible rfl)
              have HR : Hid (RR = (.mk 3 [] S [] false [] [], onlyF [nName, nFetchable] [] l)) := HEL.out.trans (by have h : S3 ≠ nYes := beq_eq_false_iff_ne.1 hO; have h2 : S3 = nNo := beq_iff_eq.1 hO2; simp [h2, hSn])
              refine wpAnyH_take (i := 1) (v := ?_) rfl (by kernel_rfl) (by kernel_rfl) (by kernel_rfl) (fun _ _ _ h => h) (Or.inl ⟨by rfl, ?_⟩) hS0 ?_
              rotate_left
              · (intro w_ hS_; obtain _s := hS_; go_simp; try with_reducible rfl)
              refine wpAnyH_take (i := 2) (v := (.bool true)) rfl (by kernel_rfl) (by kernel_rfl) (by kernel_rfl) (fun _ _ _ h => h) (Or.inl ⟨by kernel_rfl, ?_⟩) hS0 ?_
              · (intro w_ hS_; go_simp; try simp [htS, hS])
              refine wpAnyH_take (i := 3) (v := ?_) rfl (by kernel_rfl) (by kernel_rfl) (by kernel_rfl) (fun _ _ _ h => h) (Or.inl ⟨by rfl, ?_⟩) hS0 ?_
              rotate_left
              · (intro w_ hS_; obtain _s := hS_; go_simp; try with_reducible rfl)
              refine wpAnyH_take (i := 4) (v := ?_) rfl (by kernel_rfl) (by kernel_rfl) (by kernel_rfl) (fun _ _ _ h => h) (Or.inl ⟨by kernel_rfl, ?_⟩) hS0 ?_
              rotate_left
              · (intro w_ hS_; obtain _s := hS_; go_simp; try with_reducible rfl)
              refine wpAnyH_take (i := 5) (v := ?_) rfl (by kernel_rfl) (by kernel_rfl) (by kernel_rfl) (fun _ _ _ h => h) (Or.inl ⟨by kernel_rfl, ?_⟩) hS0 ?_
              rotate_left
              · (intro w_ hS_; obtain _s := hS_; go_simp; try with_reducible rfl)
              refine wpAnyH_take (i := 6) (v := ?_) rfl (by kernel_rfl) (by kernel_rfl) (by kernel_rfl) (fun _ _ _ h => h) (Or.inl ⟨by kernel_rfl, ?_⟩) hS0 ?_
              rotate_left
              · (intro w_ hS_; obtain _s := hS_; go_simp; try with_reducible rfl)
              refine wpAnyH_take (i := 7) (v := ?_) rfl (by kernel_rfl) (by kernel_rfl) (by kernel_rfl) (fun _ _ _ h => h) (Or.inl ⟨by kernel_rfl, ?_⟩) hS0 ?_
              rotate_left
              · (intro w_ hS_; obtain _s := hS_; go_simp; try with_reducible rfl)
              refine wpAnyH_take (i := 8) (v := (.bool false)) rfl (by kernel_rfl) (by kernel_rfl) (by kernel_rfl) (fun _ _ _ h => h) (Or.inl ⟨by kernel_rfl, ?_⟩) hS0 ?_
              · (intro w_ hS_; go_simp; try simp [htS3, hO])
              refine wpAnyH_take (i := 9) (v := ?_) rfl (by kernel_rfl) (by kernel_rfl) (by kernel_rfl) (fun _ _ _ h => h) (Or.inl ⟨by kernel_rfl, ?_⟩) hS0 ?_
              rotate_left
              · (intro w_ hS_; obtain _s := hS_; go_simp; try with_reducible rfl)
              refine wpAnyH_take (i := 10) (v := ?_) rfl (by kernel_rfl) (by kernel_rfl) (by kernel_rfl) (fun _ _ _ h => h) (Or.inl ⟨by kernel_rfl, ?_⟩) hS0 ?_
              rotate_left
              · (intro w_ hS_; obtain _s := hS_; go_simp; try with_reducible rfl)
              refine wpAnyH_take (i := 11) (v := ?_) rfl (by kernel_rfl) (by kernel_rfl) (by kernel_rfl) (fun _ _ _ h => h) (Or.inl ⟨by kernel_rfl, ?_⟩) hS0 ?_
              rotate_left
              · (intro w_ hS_; obtain _s := hS_; go_simp; try with_reducible rfl)
              refine wpAnyH_take (i := 12) (v := (.bool true)) rfl (by kernel_rfl) (by kernel_rfl) (by kernel_rfl) (fun _ _ _ h => h) (Or.inl ⟨by kernel_rfl, ?_⟩) hS0 ?_
              · (intro w_ hS_; go_simp; try simp [htS3, hO2])
              refine wpAnyH_take (i := 13) (v := ?_) rfl (by kernel_rfl) (by kernel_rfl) (by kernel_rfl) (fun _ _ _ h => h) (Or.inl ⟨by kernel_rfl, ?_⟩) hS0 ?_
              rotate_left
              · (intro w_ hS_; obtain _s := hS_; go_simp; try with_reducible rfl)
              refine wpAnyH_take (i := 14) (v := ?_) rfl (by kernel_rfl) (by kernel_rfl) (by kernel_rfl) (fun _ _ _ h => h) (Or.inl ⟨by rfl, ?_⟩) hS0 ?_
              rotate_left
              · (intro w_ hS_; obtain _s := hS_; go_simp; try with_reducible rfl)
              refine wpAnyH_take (i := 15) (v := ?_) rfl (by kernel_rfl) (by kernel_rfl) (by kernel_rfl) (fun _ _ _ h => h) (Or.inl ⟨by rfl, ?_⟩) hS0 ?_
              rotate_left
              · (intro w_ hS_; obtain _s := hS_; go_simp; try with_reducible rfl)
              refine wpAnyH_take (i := 16) (v := ?_) rfl (by kernel_rfl) (by kernel_rfl) (by kernel_rfl) (fun _ _ _ h => h) (Or.inl ⟨by kernel_rfl, ?_⟩) hS0 ?_
              rotate_left
              · (intro w_ hS_; have s0 := hS_.hT.cell 0; have s1 := hS_.hT.cell 1; have s2 := hS_.hT.cell 2; go_simp; try with_reducible rfl)
              have hbn := ((Below.refl W5.heap.size W5).alloc (Nat.le_refl _) (.cells #[.string (bs nName), .string (bs nFetchable)] 9)).drew
              have ST7 := Lib.hid (ST6.out.step hbn)
              have HGN := Lib.hid ((gr_strs (F := fun _ => True) (ns := [nName, nFetchable]) (Blk.new W5 9 #[.string (bs nName), .string (bs nFetchable)]) trivial (by simp [maxLen])).below ((Below.refl _ _).drew))
              refine wpAnyH_ready (rs := [17]) (by kernel_rfl) (by simp) ?_
              refine AllReadyH.cons rfl (fun K_ hK_ => ?_) AllReadyH.nil
              go_simp
              refine hK_.out _ _ ST7.out.two fun _ => ?_
              clear hK_ K_
              refine wpAnyH_ready (rs := [18]) (by kernel_rfl) (by simp) ?_
              refine AllReadyH.cons rfl (fun K_ hK_ => ?_) AllReadyH.nil
              go_simp
              refine (only_calls kd tx _ _ l [nName, nFetchable] (fun _ => True) _ ((HV.out.below ST7.out.hb).weaken (fun _ _ => trivial)) HGN.out).mono ?_
              rintro e w8 ⟨rfl, hb8⟩
              have ST8 := Lib.hid (ST7.out.step hb8)
              refine hK_.out _ _ ST8.out.two fun _ => ?_
              clear hK_ K_ hbn hb8 ST7 HGN
              have hS1 := ST8.out.two
              refine wpAnyH_take (i := 19) (v := ?_) rfl (by kernel_rfl) (by kernel_rfl) (by kernel_rfl) (fun _ _ _ h => h) (Or.inl ⟨by rfl, ?_⟩) hS1 ?_
              rotate_left
              · (intro w_ hS_; obtain _s := hS_; go_simp; try with_reducible rfl)
              have hS9 := El2.fill7 ST8.out.two (R := w.heap.size + 1) (by omega) (by have := ST8.out.hl; omega) (.int .i64 3) (.string ⟨#[]⟩) (.string (bs S)) (.string ⟨#[]⟩) (.bool false) (.string ⟨#[]⟩) (.slice none 0 0)
              have r0 := ST8.out.hR.cell 0
              have r1 := ST8.out.hR.cell 1
              have r2 := ST8.out.hR.cell 2
              have r3 := ST8.out.hR.cell 3
              have r4 := ST8.out.hR.cell 4
              have r5 := ST8.out.hR.cell 5
              have r6 := ST8.out.hR.cell 6
              have f0 := ST8.out.hR.frozen 0
              have f1 := ST8.out.hR.frozen 1
              have f2 := ST8.out.hR.frozen 2
              have f3 := ST8.out.hR.frozen 3
              have f4 := ST8.out.hR.frozen 4
              have f5 := ST8.out.hR.frozen 5
              have f6 := ST8.out.hR.frozen 6
              refine wpAnyH_ready (rs := [20]) (by kernel_rfl) (by simp) ?_
              refine AllReadyH.cons rfl (fun K_ hK_ => ?_) AllReadyH.nil
              go_simp
              refine hK_.out _ _ hS9 fun _ => ?_
              clear hK_ K_ r0 r1 r2 r3 r4 r5 r6 f0 f1 f2 f3 f4 f5 f6
              refine wpAnyH_ready (rs := [21]) (by kernel_rfl) (by simp) ?_
              refine AllReadyH.cons rfl (fun K_ hK_ => ?_) AllReadyH.nil
              go_simp
              refine hK_.out _ _ hS9 fun _ => ?_
              clear hK_ K_
              refine wpAnyH_done (by kernel_rfl) ?_ _
              go_wp2_with fail
              refine bodyPost_ret (elem15_results rfl rfl (fill7_blk ST8.out.hR (.int .i64 3) (.string ⟨#[]⟩) (.string (bs S)) (.string ⟨#[]⟩) (.bool false) (.string ⟨#[]⟩) (.slice none 0 0))) rfl ?_
              rw [EPost, HR.out]
              exact ⟨rfl, (fill7_below ST8.out.hb (Nat.le_succ _) (.int .i64 3) (.string ⟨#[]⟩) (.string (bs S)) (.string ⟨#[]⟩) (.bool false) (.string ⟨#[]⟩) (.slice none 0 0))⟩
            | false =>
              have hSn : S ≠ [] := fun h => by rw [h] at hS; cases hS
              have hS0 : El2 (World.drew W5) w.heap.size w1.heap.size #[.int .i64 kd, .string tx, .slice A l.length c] #[.int .i64 3, .string ⟨#[]⟩, .string (bs S), .string ⟨#[]⟩, .bool false, .string ⟨#[]⟩, .slice none 0 0] := ⟨ST6.out.hT, ST6.out.hE⟩
              refine wp_region_held (S := (fun w' => El2 w' w.heap.size w1.heap.size #[.int .i64 kd, .string tx, .slice A l.length c] #[.int .i64 3, .string ⟨#[]⟩, .string (bs S), .string ⟨#[]⟩, .bool false, .string ⟨#[]⟩, .slice none 0 0])) (by kernel_rfl) ?_
              change wpAnyH _ _ _ _ _ _ _ _ (World.drew _)
              refine wpAnyH_take (i := 0) (v := ?_) rfl (by kernel_rfl) (by kernel_rfl) (by kernel_rfl) (fun _ _ _ h => h) (Or.inl ⟨by rfl, ?_⟩) hS0 ?_
              rotate_left
              · (intro w_ hS_; have s0 := hS_.hE.cell 0; have s1 := hS_.hE.cell 1; have s2 := hS_.hE.cell 2; have s3 := hS_.hE.cell 3; have s4 := hS_.hE.cell 4; have s5 := hS_.hE.cell 5; have s6 := hS_.hE.cell 6; go_simp; try with_reducible rfl)
              have HR : Hid (RR = (.mk 3 [] S [] false [] [], false)) := HEL.out.trans (by have h : S3 ≠ nYes := beq_eq_false_iff_ne.1 hO; have h2 : S3 ≠ nNo := beq_eq_false_iff_ne.1 hO2; simp [h, h2])
              refine wpAnyH_take (i := 1) (v := ?_) rfl (by kernel_rfl) (by kernel_rfl) (by kernel_rfl) (fun _ _ _ h => h) (Or.inl ⟨by rfl, ?_⟩) hS0 ?_
              rotate_left
              · (intro w_ hS_; obtain _s := hS_; go_simp; try with_reducible rfl)
              refine wpAnyH_take (i := 2) (v := (.bool true)) rfl (by kernel_rfl) (by kernel_rfl) (by kernel_rfl) (fun _ _ _ h => h) (Or.inl ⟨by kernel_rfl, ?_⟩) hS0 ?_
              · (intro w_ hS_; go_simp; try simp [htS, hS])
              refine wpAnyH_take (i := 3) (v := ?_) rfl (by kernel_rfl) (by kernel_rfl) (by kernel_rfl) (fun _ _ _ h => h) (Or.inl ⟨by rfl, ?_⟩) hS0 ?_
              rotate_left
              · (intro w_ hS_; obtain _s := hS_; go_simp; try with_reducible rfl)
              refine wpAnyH_take (i := 4) (v := ?_) rfl (by kernel_rfl) (by kernel_rfl) (by kernel_rfl) (fun _ _ _ h => h) (Or.inl ⟨by kernel_rfl, ?_⟩) hS0 ?_
              rotate_left
              · (intro w_ hS_; obtain _s := hS_; go_simp; try with_reducible rfl)
              refine wpAnyH_take (i := 5) (v := ?_) rfl (by kernel_rfl) (by kernel_rfl) (by kernel_rfl) (fun _ _ _ h => h) (Or.inl ⟨by kernel_rfl, ?_⟩) hS0 ?_
              rotate_left
              · (intro w_ hS_; obtain _s := hS_; go_simp; try with_reducible rfl)
              refine wpAnyH_take (i := 6) (v := ?_) rfl (by kernel_rfl) (by kernel_rfl) (by kernel_rfl) (fun _ _ _ h => h) (Or.inl ⟨by kernel_rfl, ?_⟩) hS0 ?_
              rotate_left
              · (intro w_ hS_; obtain _s := hS_; go_simp; try with_reducible rfl)
              refine wpAnyH_take (i := 7) (v := ?_) rfl (by kernel_rfl) (by kernel_rfl) (by kernel_rfl) (fun _ _ _ h => h) (Or.inl ⟨by kernel_rfl, ?_⟩) hS0 ?_
              rotate_left
              · (intro w_ hS_; obtain _s := hS_; go_simp; try with_reducible rfl)
              refine wpAnyH_take (i := 8) (v := (.bool false)) rfl (by kernel_rfl) (by kernel_rfl) (by kernel_rfl) (fun _ _ _ h => h) (Or.inl ⟨by kernel_rfl, ?_⟩) hS0 ?_
              · (intro w_ hS_; go_simp; try simp [htS3, hO])
              refine wpAnyH_take (i := 9) (v := ?_) rfl (by kernel_rfl) (by kernel_rfl) (by kernel_rfl) (fun _ _ _ h => h) (Or.inl ⟨by kernel_rfl, ?_⟩) hS0 ?_
              rotate_left
              · (intro w_ hS_; obtain _s := hS_; go_simp; try with_reducible rfl)
              refine wpAnyH_take (i := 10) (v := ?_) rfl (by kernel_rfl) (by kernel_rfl) (by kernel_rfl) (fun _ _ _ h => h) (Or.inl ⟨by kernel_rfl, ?_⟩) hS0 ?_
              rotate_left
              · (intro w_ hS_; obtain _s := hS_; go_simp; try with_reducible rfl)
              refine wpAnyH_take (i := 11) (v := ?_) rfl (by kernel_rfl) (by kernel_rfl) (by kernel_rfl) (fun _ _ _ h => h) (Or.inl ⟨by kernel_rfl, ?_⟩) hS0 ?_
              rotate_left
              · (intro w_ hS_; obtain _s := hS_; go_simp; try with_reducible rfl)
              refine wpAnyH_take (i := 12) (v := (.bool false)) rfl (by kernel_rfl) (by kernel_rfl) (by kernel_rfl) (fun _ _ _ h => h) (Or.inl ⟨by kernel_rfl, ?_⟩) hS0 ?_
              · (intro w_ hS_; go_simp; try simp [htS3, hO2])
              refine wpAnyH_take (i := 13) (v := ?_) rfl (by kernel_rfl) (by kernel_rfl) (by kernel_rfl) (fun _ _ _ h => h) (Or.inl ⟨by kernel_rfl, ?_⟩) hS0 ?_
              rotate_left
              · (intro w_ hS_; obtain _s := hS_; go_simp; try with_reducible rfl)
              refine wpAnyH_take (i := 14) (v := ?_) rfl (by kernel_rfl) (by kernel_rfl) (by kernel_rfl) (fun _ _ _ h => h) (Or.inl ⟨by rfl, ?_⟩) hS0 ?_
              rotate_left
              · (intro w_ hS_; obtain _s := hS_; go_simp; try with_reducible rfl)
              refine wpAnyH_take (i := 15) (v := ?_) rfl (by kernel_rfl) (by kernel_rfl) (by kernel_rfl) (fun _ _ _ h => h) (Or.inl ⟨by rfl, ?_⟩) hS0 ?_
              rotate_left
              · (intro w_ hS_; obtain _s := hS_; go_simp; try with_reducible rfl)
              refine wpAnyH_take (i := 16) (v := undef) rfl (by kernel_rfl) (by kernel_rfl) (by kernel_rfl) (fun _ _ _ h => h) (Or.inr ⟨by kernel_rfl, rfl⟩) hS0 ?_
              refine wpAnyH_take (i := 17) (v := undef) rfl (by kernel_rfl) (by kernel_rfl) (by kernel_rfl) (fun _ _ _ h => h) (Or.inr ⟨by kernel_rfl, rfl⟩) hS0 ?_
              refine wpAnyH_take (i := 18) (v := undef) rfl (by kernel_rfl) (by kernel_rfl) (by kernel_rfl) (fun _ _ _ h => h) (Or.inr ⟨by kernel_rfl, rfl⟩) hS0 ?_
              refine wpAnyH_take (i := 19) (v := ?_) rfl (by kernel_rfl) (by kernel_rfl) (by kernel_rfl) (fun _ _ _ h => h) (Or.inl ⟨by rfl, ?_⟩) hS0 ?_
              rotate_left
              · (intro w_ hS_; obtain _s := hS_; go_simp; try with_reducible rfl)
              have hS9 := El2.fill7 ST6.out.two (R := w.heap.size + 1) (by omega) (by have := ST6.out.hl; omega) (.int .i64 3) (.string ⟨#[]⟩) (.string (bs S)) (.string ⟨#[]⟩) (.bool false) (.string ⟨#[]⟩) (.slice none 0 0)
              have r0 := ST6.out.hR.cell 0
              have r1 := ST6.out.hR.cell 1
              have r2 := ST6.out.hR.cell 2
              have r3 := ST6.out.hR.cell 3
              have r4 := ST6.out.hR.cell 4
              have r5 := ST6.out.hR.cell 5
              have r6 := ST6.out.hR.cell 6
              have f0 := ST6.out.hR.frozen 0
              have f1 := ST6.out.hR.frozen 1
              have f2 := ST6.out.hR.frozen 2
              have f3 := ST6.out.hR.frozen 3
              have f4 := ST6.out.hR.frozen 4
              have f5 := ST6.out.hR.frozen 5
              have f6 := ST6.out.hR.frozen 6
              refine wpAnyH_ready (rs := [20]) (by kernel_rfl) (by simp) ?_
              refine AllReadyH.cons rfl (fun K_ hK_ => ?_) AllReadyH.nil
              go_simp
              refine hK_.out _ _ hS9.drew fun _ => ?_
              clear hK_ K_ r0 r1 r2 r3 r4 r5 r6 f0 f1 f2 f3 f4 f5 f6
              refine wpAnyH_ready (rs := [21]) (by kernel_rfl) (by simp) ?_
              refine AllReadyH.cons rfl (fun K_ hK_ => ?_) AllReadyH.nil
              go_simp
              refine hK_.out _ _ hS9.drew fun _ => ?_
              clear hK_ K_
              refine wpAnyH_done (by kernel_rfl) ?_ _
              go_wp2_with fail
              refine bodyPost_ret (elem15_results rfl rfl (fill7_blk ST6.out.hR (.int .i64 3) (.string ⟨#[]⟩) (.string (bs S)) (.string ⟨#[]⟩) (.bool false) (.string ⟨#[]⟩) (.slice none 0 0)).drew) rfl ?_
              rw [EPost, HR.out]
              exact ⟨rfl, (fill7_below ST6.out.hb (Nat.le_succ _) (.int .i64 3) (.string ⟨#[]⟩) (.string (bs S)) (.string ⟨#[]⟩) (.bool false) (.string ⟨#[]⟩) (.slice none 0 0)).drew⟩
    · rw [if_neg h3] at HEL
      have hk3 : (K == 3) = false := beq_eq_false_iff_ne.2 h3
      by_cases h12 : K = 12
      · subst h12
        rw [if_pos rfl] at HEL
        clear hk2 h2 hk3 h3
        have hk2 : ((12:Int) == 2) = false := rfl
        have hk3 : ((12:Int) == 3) = false := rfl
        have hk12 : ((12:Int) == 12) = true := rfl
        go_wp2_with fail
        refine (rattr_calls kd tx (bs nText) _ l F _ (HV.out.below ST1.out.hb)).mono ?_
        rw [L_bs]
        rintro e w4 ⟨rfl, hb4⟩
        have ST4 := Lib.hid (ST1.out.step hb4)
        clear hb4 t0 t1 t2
        have t0 := ST4.out.hT.cell 0
        have t1 := ST4.out.hT.cell 1
        have t2 := ST4.out.hT.cell 2
        have q2 := ST4.out.hE.frozen 1
        have d2 := ST4.out.hE.cell 1
        generalize valA l nText = S at *
        generalize hasA l nText = H3 at *
        go_upto_region 19 with (fail)
        have ST5 := Lib.hid (ST4.out.set 1 (.string (bs S)))
        generalize w4.setCell ⟨w1.heap.size, 1, none⟩ (.string (bs S)) = W5 at ST5 ⊢
        clear t0 t1 t2 d2 q2 ST4
        have ST6 : Hid (ElSt w W5 w1.heap.size #[.int .i64 kd, .string tx, .slice A l.length c] #[.int .i64 12, .string (bs S), .string ⟨#[]⟩, .string ⟨#[]⟩, .bool false, .string ⟨#[]⟩, .slice none 0 0]) := ⟨ST5.out.hT, ST5.out.hR, ST5.out.hE, ST5.out.hb, ST5.out.hl⟩
        clear ST5
        cases H3 with
        | false =>
          have hS0 : El2 (World.drew W5) w.heap.size w1.heap.size #[.int .i64 kd, .string tx, .slice A l.length c] #[.int .i64 12, .string (bs S), .string ⟨#[]⟩, .string ⟨#[]⟩, .bool false, .string ⟨#[]⟩, .slice none 0 0] := ⟨ST6.out.hT, ST6.out.hE⟩
          refine wp_region_held (S := (fun w' => El2 w' w.heap.size w1.heap.size #[.int .i64 kd, .string tx, .slice A l.length c] #[.int .i64 12, .string (bs S), .string ⟨#[]⟩, .string ⟨#[]⟩, .bool false, .string ⟨#[]⟩, .slice none 0 0])) (by kernel_rfl) ?_
          change wpAnyH _ _ _ _ _ _ _ _ (World.drew _)
          refine wpAnyH_take (i := 0) (v := ?_) rfl (by kernel_rfl) (by kernel_rfl) (by kernel_rfl) (fun _ _ _ h => h) (Or.inl ⟨by rfl, ?_⟩) hS0 ?_
          rotate_left
          · (intro w_ hS_; have s0 := hS_.hE.cell 0; have s1 := hS_.hE.cell 1; have s2 := hS_.hE.cell 2; have s3 := hS_.hE.cell 3; have s4 := hS_.hE.cell 4; have s5 := hS_.hE.cell 5; have s6 := hS_.hE.cell 6; go_simp; try with_reducible rfl)
          have HR : Hid (RR = (.mk 12 S [] [] false [] [], false)) := HEL.out
          refine wpAnyH_take (i := 1) (v := ?_) rfl (by kernel_rfl) (by kernel_rfl) (by kernel_rfl) (fun _ _ _ h => h) (Or.inl ⟨by rfl, ?_⟩) hS0 ?_
          rotate_left
          · (intro w_ hS_; obtain _s := hS_; go_simp; try with_reducible rfl)
          refine wpAnyH_take (i := 2) (v := ?_) rfl (by kernel_rfl) (by kernel_rfl) (by kernel_rfl) (fun _ _ _ h => h) (Or.inl ⟨by rfl, ?_⟩) hS0 ?_
          rotate_left
          · (intro w_ hS_; obtain _s := hS_; go_simp; try with_reducible rfl)
          refine wpAnyH_take (i := 3) (v := undef) rfl (by kernel_rfl) (by kernel_rfl) (by kernel_rfl) (fun _ _ _ h => h) (Or.inr ⟨by kernel_rfl, rfl⟩) hS0 ?_
          refine wpAnyH_take (i := 4) (v := undef) rfl (by kernel_rfl) (by kernel_rfl) (by kernel_rfl) (fun _ _ _ h => h) (Or.inr ⟨by kernel_rfl, rfl⟩) hS0 ?_
          refine wpAnyH_take (i := 5) (v := undef) rfl (by kernel_rfl) (by kernel_rfl) (by kernel_rfl) (fun _ _ _ h => h) (Or.inr ⟨by kernel_rfl, rfl⟩) hS0 ?_
          refine wpAnyH_take (i := 6) (v := ?_) rfl (by kernel_rfl) (by kernel_rfl) (by kernel_rfl) (fun _ _ _ h => h) (Or.inl ⟨by rfl, ?_⟩) hS0 ?_
          rotate_left
          · (intro w_ hS_; obtain _s := hS_; go_simp; try with_reducible rfl)
          have hS9 := El2.fill7 ST6.out.two (R := w.heap.size + 1) (by omega) (by have := ST6.out.hl; omega) (.int .i64 12) (.string (bs S)) (.string ⟨#[]⟩) (.string ⟨#[]⟩) (.bool false) (.string ⟨#[]⟩) (.slice none 0 0)
          have r0 := ST6.out.hR.cell 0
          have r1 := ST6.out.hR.cell 1
          have r2 := ST6.out.hR.cell 2
          have r3 := ST6.out.hR.cell 3
          have r4 := ST6.out.hR.cell 4
          have r5 := ST6.out.hR.cell 5
          have r6 := ST6.out.hR.cell 6
          have f0 := ST6.out.hR.frozen 0
          have f1 := ST6.out.hR.frozen 1
          have f2 := ST6.out.hR.frozen 2
          have f3 := ST6.out.hR.frozen 3
          have f4 := ST6.out.hR.frozen 4
          have f5 := ST6.out.hR.frozen 5
          have f6 := ST6.out.hR.frozen 6
          refine wpAnyH_ready (rs := [7]) (by kernel_rfl) (by simp) ?_
          refine AllReadyH.cons rfl (fun K_ hK_ => ?_) AllReadyH.nil
          go_simp
          refine hK_.out _ _ hS9.drew fun _ => ?_
          clear hK_ K_ r0 r1 r2 r3 r4 r5 r6 f0 f1 f2 f3 f4 f5 f6
          refine wpAnyH_ready (rs := [8]) (by kernel_rfl) (by simp) ?_
          refine AllReadyH.cons rfl (fun K_ hK_ => ?_) AllReadyH.nil
          go_simp
          refine hK_.out _ _ hS9.drew fun _ => ?_
          clear hK_ K_
          refine wpAnyH_done (by kernel_rfl) ?_ _
          go_wp2_with fail
          refine bodyPost_ret (elem15_results rfl rfl (fill7_blk ST6.out.hR (.int .i64 12) (.string (bs S)) (.string ⟨#[]⟩) (.string ⟨#[]⟩) (.bool false) (.string ⟨#[]⟩) (.slice none 0 0)).drew) rfl ?_
          rw [EPost, HR.out]
          exact ⟨rfl, (fill7_below ST6.out.hb (Nat.le_succ _) (.int .i64 12) (.string (bs S)) (.string ⟨#[]⟩) (.string ⟨#[]⟩) (.bool false) (.string ⟨#[]⟩) (.slice none 0 0)).drew⟩
        | true =>
          have hS0 : El2 (World.drew W5) w.heap.size w1.heap.size #[.int .i64 kd, .string tx, .slice A l.length c] #[.int .i64 12, .string (bs S), .string ⟨#[]⟩, .string ⟨#[]⟩, .bool false, .string ⟨#[]⟩, .slice none 0 0] := ⟨ST6.out.hT, ST6.out.hE⟩
          refine wp_region_held (S := (fun w' => El2 w' w.heap.size w1.heap.size #[.int .i64 kd, .string tx, .slice A l.length c] #[.int .i64 12, .string (bs S), .string ⟨#[]⟩, .string ⟨#[]⟩, .bool false, .string ⟨#[]⟩, .slice none 0 0])) (by kernel_rfl) ?_
          change wpAnyH _ _ _ _ _ _ _ _ (World.drew _)
          refine wpAnyH_take (i := 0) (v := ?_) rfl (by kernel_rfl) (by kernel_rfl) (by kernel_rfl) (fun _ _ _ h => h) (Or.inl ⟨by rfl, ?_⟩) hS0 ?_
          rotate_left
          · (intro w_ hS_; have s0 := hS_.hE.cell 0; have s1 := hS_.hE.cell 1; have s2 := hS_.hE.cell 2; have s3 := hS_.hE.cell 3; have s4 := hS_.hE.cell 4; have s5 := hS_.hE.cell 5; have s6 := hS_.hE.cell 6; go_simp; try with_reducible rfl)
          have HR : Hid (RR = (.mk 12 S [] [] false [] [], onlyF [nText] [] l)) := HEL.out
          refine wpAnyH_take (i := 1) (v := ?_) rfl (by kernel_rfl) (by kernel_rfl) (by kernel_rfl) (fun _ _ _ h => h) (Or.inl ⟨by rfl, ?_⟩) hS0 ?_
          rotate_left
          · (intro w_ hS_; obtain _s := hS_; go_simp; try with_reducible rfl)
          refine wpAnyH_take (i := 2) (v := ?_) rfl (by kernel_rfl) (by kernel_rfl) (by kernel_rfl) (fun _ _ _ h => h) (Or.inl ⟨by rfl, ?_⟩) hS0 ?_
          rotate_left
          · (intro w_ hS_; obtain _s := hS_; go_simp; try with_reducible rfl)
          refine wpAnyH_take (i := 3) (v := ?_) rfl (by kernel_rfl) (by kernel_rfl) (by kernel_rfl) (fun _ _ _ h => h) (Or.inl ⟨by kernel_rfl, ?_⟩) hS0 ?_
          rotate_left
          · (intro w_ hS_; have s0 := hS_.hT.cell 0; have s1 := hS_.hT.cell 1; have s2 := hS_.hT.cell 2; go_simp; try with_reducible rfl)
          have hbn := ((Below.refl W5.heap.size W5).alloc (Nat.le_refl _) (.cells #[.string (bs nText)] 9)).drew
          have ST7 := Lib.hid (ST6.out.step hbn)
          have HGN := Lib.hid ((gr_strs (F := fun _ => True) (ns := [nText]) (Blk.new W5 9 #[.string (bs nText)]) trivial (by simp [maxLen])).below ((Below.refl _ _).drew))
          refine wpAnyH_ready (rs := [4]) (by kernel_rfl) (by simp) ?_
          refine AllReadyH.cons rfl (fun K_ hK_ => ?_) AllReadyH.nil
          go_simp
          refine hK_.out _ _ ST7.out.two fun _ => ?_
          clear hK_ K_
          refine wpAnyH_ready (rs := [5]) (by kernel_rfl) (by simp) ?_
          refine AllReadyH.cons rfl (fun K_ hK_ => ?_) AllReadyH.nil
          go_simp
          refine (only_calls kd tx _ _ l [nText] (fun _ => True) _ ((HV.out.below ST7.out.hb).weaken (fun _ _ => trivial)) HGN.out).mono ?_
          rintro e w8 ⟨rfl, hb8⟩
          have ST8 := Lib.hid (ST7.out.step hb8)
          refine hK_.out _ _ ST8.out.two fun _ => ?_
          clear hK_ K_ hbn hb8 ST7 HGN
          have hS1 := ST8.out.two
          refine wpAnyH_take (i := 6) (v := ?_) rfl (by kernel_rfl) (by kernel_rfl) (by kernel_rfl) (fun _ _ _ h => h) (Or.inl ⟨by rfl, ?_⟩) hS1 ?_
          rotate_left
          · (intro w_ hS_; obtain _s := hS_; go_simp; try with_reducible rfl)
          have hS9 := El2.fill7 ST8.out.two (R := w.heap.size + 1) (by omega) (by have := ST8.out.hl; omega) (.int .i64 12) (.string (bs S)) (.string ⟨#[]⟩) (.string ⟨#[]⟩) (.bool false) (.string ⟨#[]⟩) (.slice none 0 0)
          have r0 := ST8.out.hR.cell 0
          have r1 := ST8.out.hR.cell 1
          have r2 := ST8.out.hR.cell 2
          have r3 := ST8.out.hR.cell 3
          have r4 := ST8.out.hR.cell 4
          have r5 := ST8.out.hR.cell 5
          have r6 := ST8.out.hR.cell 6
          have f0 := ST8.out.hR.frozen 0
          have f1 := ST8.out.hR.frozen 1
          have f2 := ST8.out.hR.frozen 2
          have f3 := ST8.out.hR.frozen 3
          have f4 := ST8.out.hR.frozen 4
          have f5 := ST8.out.hR.frozen 5
          have f6 := ST8.out.hR.frozen 6
          refine wpAnyH_ready (rs := [7]) (by kernel_rfl) (by simp) ?_
          refine AllReadyH.cons rfl (fun K_ hK_ => ?_) AllReadyH.nil
          go_simp
          refine hK_.out _ _ hS9 fun _ => ?_
          clear hK_ K_ r0 r1 r2 r3 r4 r5 r6 f0 f1 f2 f3 f4 f5 f6
          refine wpAnyH_ready (rs := [8]) (by kernel_rfl) (by simp) ?_
          refine AllReadyH.cons rfl (fun K_ hK_ => ?_) AllReadyH.nil
          go_simp
          refine hK_.out _ _ hS9 fun _ => ?_
          clear hK_ K_
          refine wpAnyH_done (by kernel_rfl) ?_ _
          go_wp2_with fail
          refine bodyPost_ret (elem15_results rfl rfl (fill7_blk ST8.out.hR (.int .i64 12) (.string (bs S)) (.string ⟨#[]⟩) (.string ⟨#[]⟩) (.bool false) (.string ⟨#[]⟩) (.slice none 0 0))) rfl ?_
          rw [EPost, HR.out]
          exact ⟨rfl, (fill7_below ST8.out.hb (Nat.le_succ _) (.int .i64 12) (.string (bs S)) (.string ⟨#[]⟩) (.string ⟨#[]⟩) (.bool false) (.string ⟨#[]⟩) (.slice none 0 0))⟩
      · rw [if_neg h12] at HEL
        have hk12 : (K == 12) = false := beq_eq_false_iff_ne.2 h12
        by_cases h8 : K = 8
        · subst h8
          rw [if_pos rfl] at HEL
          clear hk2 h2 hk3 h3 hk12 h12
          have hk2 : ((8:Int) == 2) = false := rfl
          have hk3 : ((8:Int) == 3) = false := rfl
          have hk12 : ((8:Int) == 12) = false := rfl
          have hk8 : ((8:Int) == 8) = true := rfl
          go_wp2_with fail
          refine (rattr_calls kd tx (bs nTest) _ l F _ (HV.out.below ST1.out.hb)).mono ?_
          rw [L_bs]
          rintro e w4 ⟨rfl, hb4⟩
          have ST4 := Lib.hid (ST1.out.step hb4)
          clear hb4 t0 t1 t2
          have t0 := ST4.out.hT.cell 0
          have t1 := ST4.out.hT.cell 1
          have t2 := ST4.out.hT.cell 2
          have q2 := ST4.out.hE.frozen 5
          have d2 := ST4.out.hE.cell 5
          generalize valA l nTest = S at *
          generalize hasA l nTest = H3 at *
          go_upto_region 23 with (fail)
          have ST5 := Lib.hid (ST4.out.set 5 (.string (bs S)))
          generalize w4.setCell ⟨w1.heap.size, 5, none⟩ (.string (bs S)) = W5 at ST5 ⊢
          clear t0 t1 t2 d2 q2 ST4
          have ST6 : Hid (ElSt w W5 w1.heap.size #[.int .i64 kd, .string tx, .slice A l.length c] #[.int .i64 8, .string ⟨#[]⟩, .string ⟨#[]⟩, .string ⟨#[]⟩, .bool false, .string (bs S), .slice none 0 0]) := ⟨ST5.out.hT, ST5.out.hR, ST5.out.hE, ST5.out.hb, ST5.out.hl⟩
          clear ST5
          cases H3 with
          | false =>
            have hS0 : El2 (World.drew W5) w.heap.size w1.heap.size #[.int .i64 kd, .string tx, .slice A l.length c] #[.int .i64 8, .string ⟨#[]⟩, .string ⟨#[]⟩, .string ⟨#[]⟩, .bool false, .string (bs S), .slice none 0 0] := ⟨ST6.out.hT, ST6.out.hE⟩
            refine wp_region_held (S := (fun w' => El2 w' w.heap.size w1.heap.size #[.int .i64 kd, .string tx, .slice A l.length c] #[.int .i64 8, .string ⟨#[]⟩, .string ⟨#[]⟩, .string ⟨#[]⟩, .bool false, .string (bs S), .slice none 0 0])) (by kernel_rfl) ?_
            change wpAnyH _ _ _ _ _ _ _ _ (World.drew _)
            refine wpAnyH_take (i := 0) (v := ?_) rfl (by kernel_rfl) (by kernel_rfl) (by kernel_rfl) (fun _ _ _ h => h) (Or.inl ⟨by rfl, ?_⟩) hS0 ?_
            rotate_left
            · (intro w_ hS_; have s0 := hS_.hE.cell 0; have s1 := hS_.hE.cell 1; have s2 := hS_.hE.cell 2; have s3 := hS_.hE.cell 3; have s4 := hS_.hE.cell 4; have s5 := hS_.hE.cell 5; have s6 := hS_.hE.cell 6; go_simp; try with_reducible rfl)
            have HR : Hid (RR = (.mk 8 [] [] [] false S [], false)) := HEL.out
            refine wpAnyH_take (i := 1) (v := ?_) rfl (by kernel_rfl) (by kernel_rfl) (by kernel_rfl) (fun _ _ _ h => h) (Or.inl ⟨by rfl, ?_⟩) hS0 ?_
            rotate_left
            · (intro w_ hS_; obtain _s := hS_; go_simp; try with_reducible rfl)
            refine wpAnyH_take (i := 2) (v := ?_) rfl (by kernel_rfl) (by kernel_rfl) (by kernel_rfl) (fun _ _ _ h => h) (Or.inl ⟨by rfl, ?_⟩) hS0 ?_
            rotate_left
            · (intro w_ hS_; obtain _s := hS_; go_simp; try with_reducible rfl)
            refine wpAnyH_take (i := 3) (v := undef) rfl (by kernel_rfl) (by kernel_rfl) (by kernel_rfl) (fun _ _ _ h => h) (Or.inr ⟨by kernel_rfl, rfl⟩) hS0 ?_
            refine wpAnyH_take (i := 4) (v := undef) rfl (by kernel_rfl) (by kernel_rfl) (by kernel_rfl) (fun _ _ _ h => h) (Or.inr ⟨by kernel_rfl, rfl⟩) hS0 ?_
            refine wpAnyH_take (i := 5) (v := undef) rfl (by kernel_rfl) (by kernel_rfl) (by kernel_rfl) (fun _ _ _ h => h) (Or.inr ⟨by kernel_rfl, rfl⟩) hS0 ?_
            refine wpAnyH_take (i := 6) (v := ?_) rfl (by kernel_rfl) (by kernel_rfl) (by kernel_rfl) (fun _ _ _ h => h) (Or.inl ⟨by rfl, ?_⟩) hS0 ?_
            rotate_left
            · (intro w_ hS_; obtain _s := hS_; go_simp; try with_reducible rfl)
            have hS9 := El2.fill7 ST6.out.two (R := w.heap.size + 1) (by omega) (by have := ST6.out.hl; omega) (.int .i64 8) (.string ⟨#[]⟩) (.string ⟨#[]⟩) (.string ⟨#[]⟩) (.bool false) (.string (bs S)) (.slice none 0 0)
            have r0 := ST6.out.hR.cell 0
            have r1 := ST6.out.hR.cell 1
            have r2 := ST6.out.hR.cell 2
            have r3 := ST6.out.hR.cell 3
            have r4 := ST6.out.hR.cell 4
            have r5 := ST6.out.hR.cell 5
            have r6 := ST6.out.hR.cell 6
            have f0 := ST6.out.hR.frozen 0
            have f1 := ST6.out.hR.frozen 1
            have f2 := ST6.out.hR.frozen 2
            have f3 := ST6.out.hR.frozen 3
            have f4 := ST6.out.hR.frozen 4
            have f5 := ST6.out.hR.frozen 5
            have f6 := ST6.out.hR.frozen 6
            refine wpAnyH_ready (rs := [7]) (by kernel_rfl) (by simp) ?_
            refine AllReadyH.cons rfl (fun K_ hK_ => ?_) AllReadyH.nil
            go_simp
            refine hK_.out _ _ hS9.drew fun _ => ?_
            clear hK_ K_ r0 r1 r2 r3 r4 r5 r6 f0 f1 f2 f3 f4 f5 f6
            refine wpAnyH_ready (rs := [8]) (by kernel_rfl) (by simp) ?_
            refine AllReadyH.cons rfl (fun K_ hK_ => ?_) AllReadyH.nil
            go_simp
            refine hK_.out _ _ hS9.drew fun _ => ?_
            clear hK_ K_
            refine wpAnyH_done (by kernel_rfl) ?_ _
            go_wp2_with fail
            refine bodyPost_ret (elem15_results rfl rfl (fill7_blk ST6.out.hR (.int .i64 8) (.string ⟨#[]⟩) (.string ⟨#[]⟩) (.string ⟨#[]⟩) (.bool false) (.string (bs S)) (.slice none 0 0)).drew) rfl ?_
            rw [EPost, HR.out]
            exact ⟨rfl, (fill7_below ST6.out.hb (Nat.le_succ _) (.int .i64 8) (.string ⟨#[]⟩) (.string ⟨#[]⟩) (.string ⟨#[]⟩) (.bool false) (.string (bs S)) (.slice none 0 0)).drew⟩
          | true =>
            have hS0 : El2 (World.drew W5) w.heap.size w1.heap.size #[.int .i64 kd, .string tx, .slice A l.length c] #[.int .i64 8, .string ⟨#[]⟩, .string ⟨#[]⟩, .string ⟨#[]⟩, .bool false, .string (bs S), .slice none 0 0] := ⟨ST6.out.hT, ST6.out.hE⟩
            refine wp_region_held (S := (fun w' => El2 w' w.heap.size w1.heap.size #[.int .i64 kd, .string tx, .slice A l.length c] #[.int .i64 8, .string ⟨#[]⟩, .string ⟨#[]⟩, .string ⟨#[]⟩, .bool false, .string (bs S), .slice none 0 0])) (by kernel_rfl) ?_
            change wpAnyH _ _ _ _ _ _ _ _ (World.drew _)
            refine wpAnyH_take (i := 0) (v := ?_) rfl (by kernel_rfl) (by kernel_rfl) (by kernel_rfl) (fun _ _ _ h => h) (Or.inl ⟨by rfl, ?_⟩) hS0 ?_
            rotate_left
            · (intro w_ hS_; have s0 := hS_.hE.cell 0; have s1 := hS_.hE.cell 1; have s2 := hS_.hE.cell 2; have s3 := hS_.hE.cell 3; have s4 := hS_.hE.cell 4; have s5 := hS_.hE.cell 5; have s6 := hS_.hE.cell 6; go_simp; try with_reducible rfl)
            have HR : Hid (RR = (.mk 8 [] [] [] false S [], onlyF [nTest] [] l)) := HEL.out
            refine wpAnyH_take (i := 1) (v := ?_) rfl (by kernel_rfl) (by kernel_rfl) (by kernel_rfl) (fun _ _ _ h => h) (Or.inl ⟨by rfl, ?_⟩) hS0 ?_
            rotate_left
            · (intro w_ hS_; obtain _s := hS_; go_simp; try with_reducible rfl)
            refine wpAnyH_take (i := 2) (v := ?_) rfl (by kernel_rfl) (by kernel_rfl) (by kernel_rfl) (fun _ _ _ h => h) (Or.inl ⟨by rfl, ?_⟩) hS0 ?_
            rotate_left
            · (intro w_ hS_; obtain _s := hS_; go_simp; try with_reducible rfl)
            refine wpAnyH_take (i := 3) (v := ?_) rfl (by kernel_rfl) (by kernel_rfl) (by kernel_rfl) (fun _ _ _ h => h) (Or.inl ⟨by kernel_rfl, ?_⟩) hS0 ?_
            rotate_left
            · (intro w_ hS_; have s0 := hS_.hT.cell 0; have s1 := hS_.hT.cell 1; have s2 := hS_.hT.cell 2; go_simp; try with_reducible rfl)
            have hbn := ((Below.refl W5.heap.size W5).alloc (Nat.le_refl _) (.cells #[.string (bs nTest)] 9)).drew
            have ST7 := Lib.hid (ST6.out.step hbn)
            have HGN := Lib.hid ((gr_strs (F := fun _ => True) (ns := [nTest]) (Blk.new W5 9 #[.string (bs nTest)]) trivial (by simp [maxLen])).below ((Below.refl _ _).drew))
            refine wpAnyH_ready (rs := [4]) (by kernel_rfl) (by simp) ?_
            refine AllReadyH.cons rfl (fun K_ hK_ => ?_) AllReadyH.nil
            go_simp
            refine hK_.out _ _ ST7.out.two fun _ => ?_
            clear hK_ K_
            refine wpAnyH_ready (rs := [5]) (by kernel_rfl) (by simp) ?_
            refine AllReadyH.cons rfl (fun K_ hK_ => ?_) AllReadyH.nil
            go_simp
            refine (only_calls kd tx _ _ l [nTest] (fun _ => True) _ ((HV.out.below ST7.out.hb).weaken (fun _ _ => trivial)) HGN.out).mono ?_
            rintro e w8 ⟨rfl, hb8⟩
            have ST8 := Lib.hid (ST7.out.step hb8)
            refine hK_.out _ _ ST8.out.two fun _ => ?_
            clear hK_ K_ hbn hb8 ST7 HGN
            have hS1 := ST8.out.two
            refine wpAnyH_take (i := 6) (v := ?_) rfl (by kernel_rfl) (by kernel_rfl) (by kernel_rfl) (fun _ _ _ h => h) (Or.inl ⟨by rfl, ?_⟩) hS1 ?_
            rotate_left
            · (intro w_ hS_; obtain _s := hS_; go_simp; try with_reducible rfl)
            have hS9 := El2.fill7 ST8.out.two (R := w.heap.size + 1) (by omega) (by have := ST8.out.hl; omega) (.int .i64 8) (.string ⟨#[]⟩) (.string ⟨#[]⟩) (.string ⟨#[]⟩) (.bool false) (.string (bs S)) (.slice none 0 0)
            have r0 := ST8.out.hR.cell 0
            have r1 := ST8.out.hR.cell 1
            have r2 := ST8.out.hR.cell 2
            have r3 := ST8.out.hR.cell 3
            have r4 := ST8.out.hR.cell 4
            have r5 := ST8.out.hR.cell 5
            have r6 := ST8.out.hR.cell 6
            have f0 := ST8.out.hR.frozen 0
            have f1 := ST8.out.hR.frozen 1
            have f2 := ST8.out.hR.frozen 2
            have f3 := ST8.out.hR.frozen 3
            have f4 := ST8.out.hR.frozen 4
            have f5 := ST8.out.hR.frozen 5
            have f6 := ST8.out.hR.frozen 6
            refine wpAnyH_ready (rs := [7]) (by kernel_rfl) (by simp) ?_
            refine AllReadyH.cons rfl (fun K_ hK_ => ?_) AllReadyH.nil
            go_simp
            refine hK_.out _ _ hS9 fun _ => ?_
            clear hK_ K_ r0 r1 r2 r3 r4 r5 r6 f0 f1 f2 f3 f4 f5 f6
            refine wpAnyH_ready (rs := [8]) (by kernel_rfl) (by simp) ?_
            refine AllReadyH.cons rfl (fun K_ hK_ => ?_) AllReadyH.nil
            go_simp
            refine hK_.out _ _ hS9 fun _ => ?_
            clear hK_ K_
            refine wpAnyH_done (by kernel_rfl) ?_ _
            go_wp2_with fail
            refine bodyPost_ret (elem15_results rfl rfl (fill7_blk ST8.out.hR (.int .i64 8) (.string ⟨#[]⟩) (.string ⟨#[]⟩) (.string ⟨#[]⟩) (.bool false) (.string (bs S)) (.slice none 0 0))) rfl ?_
            rw [EPost, HR.out]
            exact ⟨rfl, (fill7_below ST8.out.hb (Nat.le_succ _) (.int .i64 8) (.string ⟨#[]⟩) (.string ⟨#[]⟩) (.string ⟨#[]⟩) (.bool false) (.string (bs S)) (.slice none 0 0))⟩
        · rw [if_neg h8] at HEL
          have hk8 : (K == 8) = false := beq_eq_false_iff_ne.2 h8
          have HR : Hid (RR = (elem0 K, ((l.length : Int) == 0))) := HEL.out.trans (by congr 1; rw [Bool.eq_iff_iff, decide_eq_true_eq, beq_iff_eq]; omega)
          clear h2 h3 h12 h8
          go_upto_region 24 with (fail)
          have ST6 := ST1
          generalize (w1.alloc (.cells #[.int .i64 K, .string ⟨#[]⟩, .string ⟨#[]⟩, .string ⟨#[]⟩, .bool false, .string ⟨#[]⟩, .slice none 0 0] 74)) = W5 at ST6 ⊢
          clear t0 t1 t2 ST1
          have hS0 : El2 (World.drew W5) w.heap.size w1.heap.size #[.int .i64 kd, .string tx, .slice A l.length c] #[.int .i64 K, .string ⟨#[]⟩, .string ⟨#[]⟩, .string ⟨#[]⟩, .bool false, .string ⟨#[]⟩, .slice none 0 0] := ⟨ST6.out.hT, ST6.out.hE⟩
          refine wp_region_held (S := (fun w' => El2 w' w.heap.size w1.heap.size #[.int .i64 kd, .string tx, .slice A l.length c] #[.int .i64 K, .string ⟨#[]⟩, .string ⟨#[]⟩, .string ⟨#[]⟩, .bool false, .string ⟨#[]⟩, .slice none 0 0])) (by kernel_rfl) ?_
          change wpAnyH _ _ _ _ _ _ _ _ (World.drew _)
          refine wpAnyH_take (i := 0) (v := ?_) rfl (by kernel_rfl) (by kernel_rfl) (by kernel_rfl) (fun _ _ _ h => h) (Or.inl ⟨by rfl, ?_⟩) hS0 ?_
          rotate_left
          · (intro w_ hS_; have s0 := hS_.hE.cell 0; have s1 := hS_.hE.cell 1; have s2 := hS_.hE.cell 2; have s3 := hS_.hE.cell 3; have s4 := hS_.hE.cell 4; have s5 := hS_.hE.cell 5; have s6 := hS_.hE.cell 6; go_simp; try with_reducible rfl)
          refine wpAnyH_take (i := 1) (v := ?_) rfl (by kernel_rfl) (by kernel_rfl) (by kernel_rfl) (fun _ _ _ h => h) (Or.inl ⟨by rfl, ?_⟩) hS0 ?_
          rotate_left
          · (intro w_ hS_; obtain _s := hS_; go_simp; try with_reducible rfl)
          refine wpAnyH_take (i := 2) (v := ?_) rfl (by kernel_rfl) (by kernel_rfl) (by kernel_rfl) (fun _ _ _ h => h) (Or.inl ⟨by rfl, ?_⟩) hS0 ?_
          rotate_left
          · (intro w_ hS_; have s0 := hS_.hT.cell 0; have s1 := hS_.hT.cell 1; have s2 := hS_.hT.cell 2; go_simp; try with_reducible rfl)
          refine wpAnyH_take (i := 3) (v := ?_) rfl (by kernel_rfl) (by kernel_rfl) (by kernel_rfl) (fun _ _ _ h => h) (Or.inl ⟨by rfl, ?_⟩) hS0 ?_
          rotate_left
          · (intro w_ hS_; obtain _s := hS_; go_simp; try with_reducible rfl)
          refine wpAnyH_take (i := 4) (v := ?_) rfl (by kernel_rfl) (by kernel_rfl) (by kernel_rfl) (fun _ _ _ h => h) (Or.inl ⟨by rfl, ?_⟩) hS0 ?_
          rotate_left
          · (intro w_ hS_; obtain _s := hS_; go_simp; try with_reducible rfl)
          have hS9 := El2.fill7 ST6.out.two (R := w.heap.size + 1) (by omega) (by have := ST6.out.hl; omega) (.int .i64 K) (.string ⟨#[]⟩) (.string ⟨#[]⟩) (.string ⟨#[]⟩) (.bool false) (.string ⟨#[]⟩) (.slice none 0 0)
          have r0 := ST6.out.hR.cell 0
          have r1 := ST6.out.hR.cell 1
          have r2 := ST6.out.hR.cell 2
          have r3 := ST6.out.hR.cell 3
          have r4 := ST6.out.hR.cell 4
          have r5 := ST6.out.hR.cell 5
          have r6 := ST6.out.hR.cell 6
          have f0 := ST6.out.hR.frozen 0
          have f1 := ST6.out.hR.frozen 1
          have f2 := ST6.out.hR.frozen 2
          have f3 := ST6.out.hR.frozen 3
          have f4 := ST6.out.hR.frozen 4
          have f5 := ST6.out.hR.frozen 5
          have f6 := ST6.out.hR.frozen 6
          refine wpAnyH_ready (rs := [5]) (by kernel_rfl) (by simp) ?_
          refine AllReadyH.cons rfl (fun K_ hK_ => ?_) AllReadyH.nil
          go_simp
          refine hK_.out _ _ hS9.drew fun _ => ?_
          clear hK_ K_ r0 r1 r2 r3 r4 r5 r6 f0 f1 f2 f3 f4 f5 f6
          refine wpAnyH_ready (rs := [6]) (by kernel_rfl) (by simp) ?_
          refine AllReadyH.cons rfl (fun K_ hK_ => ?_) AllReadyH.nil
          go_simp
          refine hK_.out _ _ hS9.drew fun _ => ?_
          clear hK_ K_
          refine wpAnyH_done (by kernel_rfl) ?_ _
          go_wp2_with fail
          refine bodyPost_ret (elem15_results rfl rfl (fill7_blk ST6.out.hR (.int .i64 K) (.string ⟨#[]⟩) (.string ⟨#[]⟩) (.string ⟨#[]⟩) (.bool false) (.string ⟨#[]⟩) (.slice none 0 0)).drew) rfl ?_
          rw [EPost, HR.out]
          exact ⟨rfl, (fill7_below ST6.out.hb (Nat.le_succ _) (.int .i64 K) (.string ⟨#[]⟩) (.string ⟨#[]⟩) (.string ⟨#[]⟩) (.bool false) (.string ⟨#[]⟩) (.slice none 0 0)).drew⟩
end Go.Proofs.YtijpfcjlochahaaGreatDoor
