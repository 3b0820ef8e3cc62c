/- The walk of the reference's within (layer 15). -/
import Derived.Test.YtijpfcjlochahaaGreatDoorRefV
import Derived.Test.YtijpfcjlochahaaGreatDoorCntR
namespace Go.Proofs.YtijpfcjlochahaaGreatDoor
open Go Go.RowKit
set_option linter.unusedVariables false
set_option linter.unusedSimpArgs false

theorem begin_le {sub : Int → List UInt8 → Nat → List Elem × Int × Nat} (hs : ∀ k n i, i ≤ (sub k n i).2.2) (room : Bool) (t : Token) (inn : Int) (out : List Elem) (i : Nat) : i ≤ (beginR sub room t inn out i).2.2 := by
  unfold beginR
  repeat' split
  all_goals first
    | exact Nat.le_refl _
    | exact hs _ _ _
theorem loop_le {sub : Int → List UInt8 → Nat → List Elem × Int × Nat} (hs : ∀ k n i, i ≤ (sub k n i).2.2) (room : Bool) (l : List Token) (inn : Int) (name : List UInt8) : ∀ (n i : Nat) (out : List Elem), i ≤ (loopR sub room l inn name n i out).2.2
  | 0, i, out => by rw [loopR]; exact Nat.le_refl _
  | n + 1, i, out => by
    rw [loopR]
    split
    · exact Nat.le_refl _
    · rename_i t _
      split
      · exact Nat.le_refl _
      · split
        · exact Nat.le_succ _
        · split
          · have h1 := begin_le hs room t inn out (i + 1)
            split
            · exact Nat.le_trans (by omega) (loop_le hs room l inn name n _ _)
            · show i ≤ (beginR sub room t inn out (i + 1)).2.2
              omega
          · split
            · split
              · exact Nat.le_trans (by omega) (loop_le hs room l inn name n _ _)
              · exact Nat.le_succ _
            · exact Nat.le_trans (by omega) (loop_le hs room l inn name n _ _)
theorem within_le (l : List Token) : ∀ (d : Nat) (inn : Int) (name : List UInt8) (i : Nat), i ≤ (withinR l d inn name i).2.2
  | 0, inn, name, i => loop_le (fun _ _ i => Nat.le_refl i) false l inn name _ i []
  | d + 1, inn, name, i => loop_le (within_le l d) true l inn name _ i []
structure WSt (w W : World) (b : Nat) (Al : Option Addr) (nl cl : Nat) (i : Nat) (z : Int) (vo : Value) (o : List Elem) : Prop where
  hB : Blk W b 112 #[.slice Al nl cl, .int .i64 i, .int .i64 z]
  own : OwnR W w.heap.size 74 7 (fun g => w.heap.size ≤ g) vo (o.map Elem.gv)
  hg : w.grownBy W (some b)
  hb : b < w.heap.size
section
variable {w W W' : World} {b : Nat} {Al : Option Addr} {nl cl : Nat} {i : Nat} {z : Int} {vo : Value} {o : List Elem}
theorem WSt.below (h : WSt w W b Al nl cl i z vo o) (hb : Below W.heap.size W W') : WSt w W' b Al nl cl i z vo o :=
  ⟨h.hB.below hb h.hB.lt, h.own.below hb, grown_below h.hg hb, h.hb⟩
theorem WSt.drewN (h : WSt w W b Al nl cl i z vo o) (k : Nat) : WSt w (W.drewN k) b Al nl cl i z vo o := h.below (below_drewN (Below.refl _ _) _)
theorem WSt.grown (h : WSt w W b Al nl cl i z vo o) (hg : W.grownBy W' (some b)) {i' : Nat} {z' : Int} (hB : Blk W' b 112 #[.slice Al nl cl, .int .i64 i', .int .i64 z']) : WSt w W' b Al nl cl i' z' vo o :=
  have h1 := h.hb
  ⟨hB, h.own.kept hg (.inr (fun e => by have := (h.own.lt b e).1; omega)) (fun k hk e => by injection e with e; have hk2 : w.heap.size ≤ k := hk; omega), grown_grown h.hg hg (fun k hk => .inl hk), h1⟩
theorem WSt.setI (h : WSt w W b Al nl cl i z vo o) (i' : Nat) : WSt w (W.setCell ⟨b, 1, none⟩ (.int .i64 i')) b Al nl cl i' z vo o :=
  h.grown (grown_setCell (grown_refl _ _) (.inl rfl) _) (h.hB.set_ 1 _)
theorem WSt.setZ (h : WSt w W b Al nl cl i z vo o) (z' : Int) : WSt w (W.setCell ⟨b, 2, none⟩ (.int .i64 z')) b Al nl cl i z' vo o :=
  h.grown (grown_setCell (grown_refl _ _) (.inl rfl) _) (h.hB.set_ 2 _)
theorem WSt.push (h : WSt w W b Al nl cl i z vo o) {vo' : Value} {x : Elem} (hg : W.grownBy W' vo.ownBlock) (ho : OwnR W' w.heap.size 74 7 (fun g => w.heap.size ≤ g) vo' (o.map Elem.gv ++ [x.gv])) : WSt w W' b Al nl cl i z vo' (o ++ [x]) :=
  have h1 := h.hb
  ⟨h.hB.grown hg (fun e => by have := (h.own.lt b e.symm).1; omega), by rw [List.map_append]; exact ho, grown_grown h.hg hg (fun k hk => .inr (h.own.lt k hk).1), h1⟩
theorem WSt.post {q : List Elem × Int × Nat} {A : Option Addr} {c : Nat} (h : WSt w W b Al nl cl i z (.slice A o.length c) o) (hq : q = (o, z, i)) :
    WPost b (.slice Al nl cl) w q (.returned (.slice A o.length c)) W := by
  subst hq
  exact ⟨⟨A, c, rfl, h.own.gr (fun _ h => h) (fun k hk => (h.own.lt k hk).1)⟩, h.hB, h.hg⟩
theorem app_elem {e : Elem} {kv : Value} {Gk : Nat → Prop} {N : Nat} (h : WSt w W b Al nl cl i z vo o) (hk : GR W Gk (.row 7 (e.kids.map Elem.gv)) [kv]) (hG : ∀ k, Gk k → w.heap.size ≤ k ∧ some k ≠ vo.ownBlock) (hN : N = o.length) (hlen : o.length ≤ 99999) (C : Array Value) (hC : C = (eCells e kv).toArray) :
    App ((W.alloc (.cells C 74)).alloc (.cells C 74)) w.heap.size 74 7 104 (fun g => w.heap.size ≤ g) vo (o.map Elem.gv) (some ⟨W.heap.size + 1, 0, none⟩) 1 [e.gv] (eCells e kv) (N + 1) := by
  subst hC hN
  have hb1 : Below W.heap.size W ((W.alloc (.cells (eCells e kv).toArray 74)).alloc (.cells (eCells e kv).toArray 74)) :=
    ((Below.refl _ _).alloc (Nat.le_refl _) _).alloc (by simp) _
  have hB := Blk.new (W.alloc (.cells (eCells e kv).toArray 74)) 74 (eCells e kv).toArray
  rw [size_alloc] at hB
  have hs := h.hg.size
  have key := App.of_new (bytes := 104) (size := 7) (h.own.below hb1) hB (GR.mono (F' := fun k => w.heap.size ≤ k ∧ some k ≠ vo.ownBlock) hG (fun x _ hlt => hb1.block x hlt) _ _ (cells_elem hk)) rfl (by rw [List.length_map]; omega) (by omega) (by rw [size_alloc, size_alloc]; omega)
  rw [List.length_map] at key
  exact key
theorem app_text {N : Nat} (h : WSt w W b Al nl cl i z vo o) (hN : N = o.length) (hlen : o.length ≤ 99999) (tx : List UInt8) :
    App (W.alloc (.cells #[.int .i64 1, .string (bs tx), .string ⟨#[]⟩, .string ⟨#[]⟩, .bool false, .string ⟨#[]⟩, .slice none 0 0] 74)) w.heap.size 74 7 104 (fun g => w.heap.size ≤ g) vo (o.map Elem.gv) (some ⟨W.heap.size, 0, none⟩) 1 [(textEl tx).gv] (eCells (textEl tx) (.slice none 0 0)) (N + 1) := by
  subst hN
  have hb1 : Below W.heap.size W (W.alloc (.cells (eCells (textEl tx) (.slice none 0 0)).toArray 74)) := (Below.refl _ _).alloc (Nat.le_refl _) _
  have hB := Blk.new W 74 (eCells (textEl tx) (.slice none 0 0)).toArray
  have hs := h.hg.size
  have key := App.of_new (bytes := 104) (size := 7) (h.own.below hb1) hB (cells_elem (F := fun k => w.heap.size ≤ k ∧ some k ≠ vo.ownBlock) (e := textEl tx) gr_nil) rfl (by rw [List.length_map]; omega) (by omega) (by rw [size_alloc]; omega)
  rw [List.length_map] at key
  exact key
end
def wMeas (b n : Nat) (W : World) : Nat :=
  match W.cell? ⟨b, 1, none⟩ with
  | some (.int _ k) => n - k.toNat
  | _ => 0
theorem wMeas_eq {w W : World} {b : Nat} {Al : Option Addr} {nl cl : Nat} {i : Nat} {z : Int} {vo : Value} {o : List Elem} (h : WSt w W b Al nl cl i z vo o) (n : Nat) : wMeas b n W = n - i := by
  unfold wMeas
  rw [show W.cell? ⟨b, 1, none⟩ = some (.int .i64 i) from h.hB.cell 1]
  simp
set_option maxRecDepth 20000 in
set_option maxHeartbeats 4000000 in
theorem within_loop (b : Nat) (l : List Token) (Al : Option Addr) (cl : Nat) (inn : Int) (name : ByteArray) (dn : Nat) (i0 : Nat) (sub : Int → List UInt8 → Nat → List Elem × Int × Nat) (F : Nat → Prop) (w : World)
    (hd : dn ≤ 16) (hle : ∀ k n i, i ≤ (sub k n i).2.2) (hb : Blk w b 112 #[.slice Al l.length cl, .int .i64 i0, .int .i64 0]) (hv : GR w F (.row 3 (l.map Token.gv)) [.slice Al l.length cl]) (hF : ∀ g, F g → g ≠ b)
    (hlen : l.length ≤ 4000000) (htx : ∀ t ∈ l, t.text.length ≤ 100000000)
    (hsub : dn < 16 → ∀ (W : World) (k : Int) (tx : ByteArray) (i : Nat), w.grownBy W (some b) → Blk W b 112 #[.slice Al l.length cl, .int .i64 i, .int .i64 0] → SubAt b (.slice Al l.length cl) (dn + 1) sub k tx i W) :
    Calls Tryz.prog 59 #[.pointer (some ⟨b, 0, none⟩), .int .i64 inn, .string name, .int .i64 dn] w (WPost b (.slice Al l.length cl) w (loopR sub (decide (dn < 16)) l inn (L name) (l.length + 1) i0 [])) := by
  obtain ⟨A, c, hv1, hlc, hcm, hop⟩ := toks_open (GR.lt_heap _ _ hv)
  injection hv1 with e1 e2 e3
  subst e1 e3
  have HOP := Lib.hid hop
  unfold maxLen at hcm
  have hb0 : Below w.heap.size w (w.alloc (.cells #[] 74)) := (Below.refl _ _).alloc (Nat.le_refl _) _
  have ST0 : Hid (WSt w (w.alloc (.cells #[] 74)) b Al l.length cl i0 0 (.slice (some ⟨w.heap.size, 0, none⟩) 0 0) []) :=
    ⟨hb.below hb0 hb.lt, ⟨[], World.ownsRow_lit w #[] 0 (Nat.le_refl _) (by simp [maxLen]) (by simp), GRl_nil.2 rfl⟩, grown_of_below hb0 _, hb.lt⟩
  have HR0 : Hid (loopR sub (decide (dn < 16)) l inn (L name) (l.length + 1) i0 [] = loopR sub (decide (dn < 16)) l inn (L name) (l.length + 1) i0 []) := rfl
  obtain ⟨RR, hRR⟩ : ∃ RR, RR = loopR sub (decide (dn < 16)) l inn (L name) (l.length + 1) i0 [] := ⟨_, rfl⟩
  rw [← hRR]
  have HRR := Lib.hid hRR
  have HSUB := Lib.hid hsub
  have HLE := Lib.hid hle
  have HTX := Lib.hid htx
  have HFN := Lib.hid hF
  clear hop hv hb hb0 HR0 hRR hsub hle htx hF
  go_enter Tryz.func59, Tryz.ntmps59
  go_wp2_with fail
  go_loopw [9, 10, 11] (fun vo _ _ wr => ∃ (A : Option Addr) (c : Nat) (o : List Elem) (n i : Nat) (z : Int), vo = .slice A o.length c ∧ o.length ≤ 401 ∧ Hid (WSt w wr b Al l.length cl i z vo o) ∧
      (z = 0 → Hid (RR = loopR sub (decide (dn < 16)) l inn (L name) n i o) ∧ l.length < n + i ∧ o.length ≤ i ∧ o.length ≤ 400) ∧ (z ≠ 0 → Hid (RR = (o, z, i))))
     (fun _ _ _ wr => wMeas b (l.length + 1) wr)
  case atStart => exact ⟨_, 0, [], l.length + 1, i0, 0, rfl, by simp, ST0.out, fun _ => ⟨HRR.out, by omega, Nat.zero_le _, by simp⟩, fun h => absurd rfl h⟩
  case round =>
    clear ST0 HRR
    obtain ⟨A, c, o, n, i, z, rfl, ho1, ST, hz0, hz1⟩ := hrel
    have HME := Lib.hid (wMeas_eq ST.out (l.length + 1))
    have c0 := ST.out.hB.cell 0
    have c1 := ST.out.hB.cell 1
    have c2 := ST.out.hB.cell 2
    by_cases hz : z = 0
    · subst hz
      obtain ⟨HR, hn, hoi, ho4⟩ := hz0 rfl
      clear hz0 hz1
      by_cases hi : i < l.length
      · obtain ⟨bb, off, rfl, ⟨hFb, hbl⟩, hop2⟩ := HOP.out (by rintro rfl; simp at hi)
        obtain ⟨va, k0, k1, k2, hva⟩ := hop2 i hi
        have hbn : some bb ≠ some b := fun e => HFN.out bb hFb (Option.some.inj e)
        have e0 : wr.cell? ⟨bb, off + i * 3, none⟩ = some (.int .i64 l[i].kind) := (World.cell?_of_block (w := w) (a := ⟨bb, off + i * 3, none⟩) (ST.out.hg.block bb hbl hbn)).trans k0
        have e1 : wr.cell? ⟨bb, off + i * 3 + 1, none⟩ = some (.string (bs l[i].text)) := (World.cell?_of_block (w := w) (a := ⟨bb, off + i * 3 + 1, none⟩) (ST.out.hg.block bb hbl hbn)).trans k1
        have e2 : wr.cell? ⟨bb, off + i * 3 + 2, none⟩ = some va := (World.cell?_of_block (w := w) (a := ⟨bb, off + i * 3 + 2, none⟩) (ST.out.hg.block bb hbl hbn)).trans k2
        have hln : l[i]? = some l[i] := List.getElem?_eq_getElem hi
        have HTL : Hid (l[i].text.length ≤ 100000000) := HTX.out _ (List.getElem_mem hi)
        obtain ⟨n, rfl⟩ : ∃ n', n = n' + 1 := ⟨n - 1, by have := loop_le HLE.out; omega⟩
        rw [loopR, hln] at HR
        simp only at HR
        obtain ⟨Av, cv, rfl, -, -, -⟩ := pairs_open hva
        have HVA := Lib.hid hva
        have hii : decide (i < l.length) = true := decide_eq_true hi
        have hi1 : (0 : Int) ≤ (i : Int) := by omega
        have hi2 : (i : Int) < (l.length : Int) := by omega
        have hi3 : (i : Int) ≤ 4000000 := by omega
        clear hop2 k0 k1 k2 hva hbn hFb hbl hln
        generalize l[i] = t at *
        go_upto_region 3 with (go_quiet (fail))
        have ST1 := Lib.hid (ST.out.drewN nq)
        have e3 : (wr.drewN nq).cell? ⟨bb, off + i * 3, none⟩ = some (.int .i64 t.kind) := e0
        have e4 : (wr.drewN nq).cell? ⟨bb, off + i * 3 + 1, none⟩ = some (.string (bs t.text)) := e1
        have e5 : (wr.drewN nq).cell? ⟨bb, off + i * 3 + 2, none⟩ = some (.slice Av t.attrs.length cv) := e2
        clear e0 e1 e2 c0 c1 c2
        generalize wr.drewN nq = W1 at ST1 e3 e4 e5 ⊢
        have c0 : W1.cell? ⟨b, 0, none⟩ = some (.slice (some ⟨bb, off, none⟩) l.length cl) := ST1.out.hB.cell 0
        have c1 : W1.cell? ⟨b, 1, none⟩ = some (.int .i64 i) := ST1.out.hB.cell 1
        have hA : Below W1.heap.size W1 (W1.alloc (.cells #[.int .i64 0, .string ⟨#[]⟩, .slice none 0 0] 80)) := (Below.refl _ _).alloc (Nat.le_refl _) _
        have g0 := (hA.cell (p := ⟨b, 0, none⟩) ST1.out.hB.lt).trans c0
        have g1 := (hA.cell (p := ⟨b, 1, none⟩) ST1.out.hB.lt).trans c1
        have g3 := (hA.cell (p := ⟨bb, off + i * 3, none⟩) (World.block_lt_of_cell? W1 _ e3)).trans e3
        have g4 := (hA.cell (p := ⟨bb, off + i * 3 + 1, none⟩) (World.block_lt_of_cell? W1 _ e4)).trans e4
        have g5 := (hA.cell (p := ⟨bb, off + i * 3 + 2, none⟩) (World.block_lt_of_cell? W1 _ e5)).trans e5
        clear hA
        go_region
        have hT0 := Blk.new W1 80 #[.int .i64 t.kind, .string (bs t.text), .slice Av t.attrs.length cv]
        have HT2 : Hid (Blk (W1.alloc (.cells #[.int .i64 t.kind, .string (bs t.text), .slice Av t.attrs.length cv] 80)).drew W1.heap.size 80 #[.int .i64 t.kind, .string (bs t.text), .slice Av t.attrs.length cv]) := hT0.drew
        have ST2 := Lib.hid (ST1.out.below (((Below.refl _ _).alloc (Nat.le_refl _) (.cells #[.int .i64 t.kind, .string (bs t.text), .slice Av t.attrs.length cv] 80)).drew))
        have HTB : Hid (W1.heap.size ≠ b) := fun e => by have := ST1.out.hB.lt; omega
        clear g0 g1 g3 g4 g5 c0 c1 e3 e4 e5 hT0 ST1 ST
        generalize (W1.alloc (.cells #[.int .i64 t.kind, .string (bs t.text), .slice Av t.attrs.length cv] 80)).drew = W2 at HT2 ST2 ⊢
        generalize W1.heap.size = T at HT2 HTB ⊢
        have c1 : W2.cell? ⟨b, 1, none⟩ = some (.int .i64 i) := ST2.out.hB.cell 1
        have c2 := ST2.out.hB.cell 2
        have f1 := ST2.out.hB.frozen 1
        have f2 := ST2.out.hB.frozen 2
        by_cases h4 : 400 ≤ i
        · have h4i : (400 : Int) ≤ (i : Int) := by omega
          rw [if_pos h4] at HR
          clear h4
          go_wp2_with fail
          go_ret
          exact (ST2.out.setZ 4).post HR.out
        · have h4i : ¬ (400 : Int) ≤ (i : Int) := by omega
          rw [if_neg h4] at HR
          go_upto_region 8 with (fail)
          have ST3 : Hid (WSt w (W2.setCell ⟨b, 1, none⟩ (.int .i64 ((i : Int) + 1))) b (some ⟨bb, off, none⟩) l.length cl (i + 1) 0 (.slice A o.length c) o) := ST2.out.setI (i + 1)
          have HT3 : Hid (Blk (W2.setCell ⟨b, 1, none⟩ (.int .i64 ((i : Int) + 1))) T 80 #[.int .i64 t.kind, .string (bs t.text), .slice Av t.attrs.length cv]) := HT2.out.far HTB.out _
          clear ST2 HT2 c1 c2 f1 f2
          generalize W2.setCell ⟨b, 1, none⟩ (.int .i64 ((i : Int) + 1)) = W3 at ST3 HT3 ⊢
          have HI : Hid (i < 400) := by rw [Hid]; omega
          have t0 := HT3.out.cell 0
          have t1 := HT3.out.cell 1
          have t2 := HT3.out.cell 2
          clear h4 h4i
          by_cases hk2 : t.kind = 2
          · have hk2b : (t.kind == 2) = true := by rw [hk2]; rfl
            rw [if_pos hk2] at HR
            clear hk2
            go_wp2_with fail
            refine (ends_calls b (some ⟨bb, off, none⟩) l.length cl ((i + 1 : Nat) : Int) t.kind (bs t.text) Av t.attrs.length cv inn name A o.length c W3 (by omega) ST3.out.hB).mono ?_
            rw [L_bs]
            rintro e w4 ⟨rfl, hb4, hg4⟩
            have ST4 := Lib.hid (ST3.out.grown hg4 hb4)
            clear hb4 hg4
            go_wp2_with fail
            go_ret
            exact ST4.out.post HR.out
          · have hk2b : (t.kind == 2) = false := beq_eq_false_iff_ne.2 hk2
            rw [if_neg hk2] at HR
            clear hk2
            by_cases hk1 : t.kind = 1 ∨ t.kind = 3
            · rw [if_pos hk1] at HR
              have hk13 : (t.kind == 1) = true ∨ (t.kind == 1) = false ∧ (t.kind == 3) = true := by
                rcases hk1 with h | h
                · exact .inl (by rw [h]; rfl)
                · exact .inr ⟨by rw [h]; rfl, by rw [h]; rfl⟩
              clear hk1
              have hva3 : GR W3 (fun g => F g ∧ g < w.heap.size) (.row 2 (t.attrs.map Pair.gv)) [.slice Av t.attrs.length cv] :=
                GR.mono (fun _ h => h) (fun g hg hlt => ST3.out.hg.block g hlt (fun e => HFN.out g hg.1 (Option.some.inj e))) _ _ HVA.out
              have HBC := Lib.hid (begin15_calls b (some ⟨bb, off, none⟩) l.length cl (i + 1) t.kind (bs t.text) t.attrs _ inn o _ dn sub _ _ W3 hd ST3.out.hB hva3 (ST3.out.own.gr (F := fun g => w.heap.size ≤ g) (fun _ h => h) (fun k hk => (ST3.out.own.lt k hk).1))
                (fun hdn W k hgW hBW => HSUB.out hdn W k (bs t.text) (i + 1) (grown_grown ST3.out.hg hgW (fun k hk => .inl hk)) hBW))
              rw [L_bs] at HBC
              have HBL := Lib.hid (begin_le HLE.out (decide (dn < 16)) t inn o (i + 1))
              rw [show (⟨t.kind, t.text, t.attrs⟩ : Token) = t from rfl] at HBC
              have HMS : Hid (wMeas b (l.length + 1) wr = l.length + 1 - i) := HME.out
              generalize beginR sub (decide (dn < 16)) t inn o (i + 1) = q at *
              obtain ⟨x, zx, ix⟩ := q
              clear hva3
              rcases hk13 with hk1b | ⟨hk1b, hk3b⟩
              all_goals
                go_wp2_with fail
                refine HBC.out.mono ?_
                rintro e w4 ⟨⟨A4, c4, rfl, hg4⟩, hb4, hgr4⟩
                simp only at hg4 hb4 HR HBL ⊢
                have ST4 := Lib.hid (ST3.out.grown hgr4 hb4)
                have hG : ∀ k, W3.heap.size ≤ k → w.heap.size ≤ k ∧ some k ≠ (Value.slice A o.length c).ownBlock := fun k hk => ⟨Nat.le_trans ST3.out.hg.size hk, fun e => by have := (ST3.out.own.lt k e.symm).2; omega⟩
                have HA := Lib.hid (app_elem ST4.out hg4 hG rfl (by omega) #[.int .i64 x.kind, .string (bs x.text), .string (bs x.src), .string (bs x.alt), .bool x.soft, .string (bs x.test), .slice A4 x.kids.length c4] rfl)
                have ST5 := Lib.hid (ST4.out.below (((Below.refl _ _).alloc (Nat.le_refl _) (.cells #[.int .i64 x.kind, .string (bs x.text), .string (bs x.src), .string (bs x.alt), .bool x.soft, .string (bs x.test), .slice A4 x.kids.length c4] 74)).alloc (by rw [size_alloc]; omega) (.cells #[.int .i64 x.kind, .string (bs x.text), .string (bs x.src), .string (bs x.alt), .bool x.soft, .string (bs x.test), .slice A4 x.kids.length c4] 74)))
                clear hg4 hb4 hgr4 hG HBC t0 t1 t2
                simp only [eCells]
                go_wp2_with (at_builtin; go_loud (refine HA.out.plain rfl _ _ _ rfl elemTy2 rfl rfl ?_); intro A6 c6 w6 hown hgr hor; have ST6 : Hid (WSt w w6 b (some ⟨bb, off, none⟩) l.length cl ix zx (.slice A6 (o.length + 1) c6) (o ++ [x])) := ST5.out.push hgr hown; clear hown hgr hor)
                go_roundw
                case rel =>
                  refine ⟨A6, c6, o ++ [x], n, ix, zx, by rw [List.length_append]; rfl, by rw [List.length_append]; simp only [List.length_cons, List.length_nil]; omega, ST6.out, fun hz => ?_, fun hz => ?_⟩
                  · rw [if_pos hz] at HR
                    have := HBL.out
                    exact ⟨HR.out, by omega, by rw [List.length_append]; simp only [List.length_cons, List.length_nil]; omega, by rw [List.length_append]; simp only [List.length_cons, List.length_nil]; have := HI.out; omega⟩
                  · rw [if_neg hz] at HR
                    exact HR.out
                case measure =>
                  rw [wMeas_eq ST6.out, HMS.out]
                  have := HBL.out
                  omega
            · have hk1b : (t.kind == 1) = false := beq_eq_false_iff_ne.2 (fun h => hk1 (.inl h))
              have hk3b : (t.kind == 3) = false := beq_eq_false_iff_ne.2 (fun h => hk1 (.inr h))
              rw [if_neg hk1] at HR
              have HMS : Hid (wMeas b (l.length + 1) wr = l.length + 1 - i) := HME.out
              clear hk1
              by_cases hin : inn = 4 ∨ inn = 7
              · rw [if_pos hin] at HR
                have hin2 : (inn == 4) = true ∨ (inn == 4) = false ∧ (inn == 7) = true := by
                  rcases hin with h | h
                  · exact .inl (by rw [h]; rfl)
                  · exact .inr ⟨by rw [h]; rfl, by rw [h]; rfl⟩
                have HBK := Lib.hid (blank15_calls (bs t.text) W3 (by rw [size_bs]; exact HTL.out))
                rw [L_bs] at HBK
                clear hin
                generalize t.text.all blankB = bk at *
                have c2 := ST3.out.hB.cell 2
                have f2 := ST3.out.hB.frozen 2
                rcases hin2 with h4b | ⟨h4b, h7b⟩
                all_goals
                  go_wp2_with fail
                  refine HBK.out.mono ?_
                  rintro e w4 ⟨rfl, rfl⟩
                  cases bk with
                  | true =>
                    go_wp2_with fail
                    go_roundw
                    case rel => exact ⟨_, c, o, n, i + 1, 0, rfl, ho1, ST3.out, fun _ => ⟨HR.out, by omega, by omega, ho4⟩, fun h => absurd rfl h⟩
                    case measure =>
                      rw [wMeas_eq ST3.out, HMS.out]
                      omega
                  | false =>
                    go_wp2_with fail
                    go_roundw
                    case rel => exact ⟨_, c, o, n, i + 1, 42, rfl, ho1, ST3.out.setZ 42, fun h => absurd h (by decide), fun _ => HR.out⟩
                    case measure =>
                      rw [wMeas_eq (ST3.out.setZ 42), HMS.out]
                      omega
              · rw [if_neg hin] at HR
                have h4b : (inn == 4) = false := beq_eq_false_iff_ne.2 (fun h => hin (.inl h))
                have h7b : (inn == 7) = false := beq_eq_false_iff_ne.2 (fun h => hin (.inr h))
                have HA := Lib.hid (app_text ST3.out rfl (by omega) t.text)
                have ST5 := Lib.hid (ST3.out.below ((Below.refl _ _).alloc (Nat.le_refl _) (.cells #[.int .i64 1, .string (bs t.text), .string ⟨#[]⟩, .string ⟨#[]⟩, .bool false, .string ⟨#[]⟩, .slice none 0 0] 74)))
                clear hin
                go_wp2_with (at_builtin; go_loud (refine HA.out.plain rfl _ _ _ rfl elemTy2 rfl rfl ?_); intro A6 c6 w6 hown hgr hor; have ST6 : Hid (WSt w w6 b (some ⟨bb, off, none⟩) l.length cl (i + 1) 0 (.slice A6 (o.length + 1) c6) (o ++ [textEl t.text])) := ST5.out.push hgr hown; clear hown hgr hor)
                go_roundw
                case rel =>
                  have := HI.out
                  exact ⟨A6, c6, o ++ [textEl t.text], n, i + 1, 0, by rw [List.length_append]; rfl, by rw [List.length_append]; simp only [List.length_cons, List.length_nil]; omega, ST6.out, fun _ => ⟨HR.out, by omega, by rw [List.length_append]; simp only [List.length_cons, List.length_nil]; omega, by rw [List.length_append]; simp only [List.length_cons, List.length_nil]; omega⟩, fun h => absurd rfl h⟩
                case measure =>
                  rw [wMeas_eq ST6.out, HMS.out]
                  omega
      · have HEND : Hid (RR = (o, if L name ≠ [] then 42 else 0, i)) := by
          have h1 : l[i]? = none := List.getElem?_eq_none (by omega)
          rw [Hid, HR.out]
          cases n with
          | zero => rw [loopR]
          | succ n => rw [loopR, h1]
        have hii : decide (i < l.length) = false := decide_eq_false hi
        have hnt : name.toList = L name := toList_L name
        clear HR hn hi
        cases hne : (L name).isEmpty with
        | true =>
          have HE2 : Hid (RR = (o, 0, i)) := HEND.out.trans (by rw [List.isEmpty_iff.1 hne]; rfl)
          clear HEND
          go_wp2_with (go_quiet (fail))
          go_ret
          exact (ST.out.drewN _).post HE2.out
        | false =>
          have HE2 : Hid (RR = (o, 42, i)) := HEND.out.trans (by rw [if_pos (fun h => by rw [h] at hne; cases hne)])
          clear HEND
          have f2 := ST.out.hB.frozen 2
          go_wp2_with (go_quiet (fail))
          go_ret
          exact ((ST.out.drewN _).setZ 42).post HE2.out
    · have HE2 := hz1 hz
      have hzb : (z == 0) = false := beq_eq_false_iff_ne.2 hz
      clear hz0 hz1 hz
      go_wp2_with (go_quiet (fail))
      go_ret
      exact (ST.out.drewN _).post HE2.out
/-- within, at any depth. -/
theorem within_calls (b : Nat) (l : List Token) (Al : Option Addr) (cl : Nat) (F : Nat → Prop) (w0 : World) (hlen : l.length ≤ 4000000) (htx : ∀ t ∈ l, t.text.length ≤ 100000000) (hF : ∀ g, F g → g ≠ b)
    (hv : GR w0 F (.row 3 (l.map Token.gv)) [.slice Al l.length cl]) : ∀ (d : Nat) (inn : Int) (name : ByteArray) (i : Nat) (w : World), d ≤ 16 → w0.grownBy w (some b) → Blk w b 112 #[.slice Al l.length cl, .int .i64 i, .int .i64 0] →
      Calls Tryz.prog 59 #[.pointer (some ⟨b, 0, none⟩), .int .i64 inn, .string name, .int .i64 ((16 - d : Nat) : Int)] w (WPost b (.slice Al l.length cl) w (withinR l d inn (L name) i))
  | 0, inn, name, i, w, _, hg, hb => by
    have h := within_loop b l Al cl inn name 16 i (fun _ _ i => ([], 0, i)) (fun g => F g ∧ g < w0.heap.size) w (Nat.le_refl _) (fun _ _ i => Nat.le_refl i) hb (GR.mono (fun _ h => h) (fun g hg2 hlt => hg.block g hlt (fun e => hF g hg2.1 (Option.some.inj e))) _ _ (GR.lt_heap _ _ hv)) (fun g hg2 => hF g hg2.1) hlen htx (fun h => absurd h (Nat.lt_irrefl _))
    exact h
  | d + 1, inn, name, i, w, hd, hg, hb => by
    have h := within_loop b l Al cl inn name (16 - (d + 1)) i (withinR l d) (fun g => F g ∧ g < w0.heap.size) w (Nat.sub_le _ _) (within_le l d) hb (GR.mono (fun _ h => h) (fun g hg2 hlt => hg.block g hlt (fun e => hF g hg2.1 (Option.some.inj e))) _ _ (GR.lt_heap _ _ hv)) (fun g hg2 => hF g hg2.1) hlen htx
      (fun _ W k tx j hgW hbW => by
        have ih := within_calls b l Al cl F w0 hlen htx hF hv d k tx j W (by omega) (grown_grown hg hgW (fun k hk => .inl hk)) hbW
        rw [show ((16 - d : Nat) : Int) = ((16 - (d + 1) : Nat) : Int) + 1 by omega] at ih
        exact ih)
    rw [decide_eq_true (show 16 - (d + 1) < 16 by omega)] at h
    exact h
end Go.Proofs.YtijpfcjlochahaaGreatDoor
