/- The walks of the reference's ends and begin (layer 15). The walk of the reference's begin (layer 15), where what it calls is within. -/
import Derived.Test.YtijpfcjlochahaaGreatDoorRefT
namespace Go.Proofs.YtijpfcjlochahaaGreatDoor
open Go Go.RowKit
set_option linter.unusedVariables false
set_option linter.unusedSimpArgs false

def endsN (tx : List UInt8) (inn : Int) (name : List UInt8) (n : Nat) : Int :=
  if kindF tx = 0 ∨ kindF tx = 2 ∨ kindF tx = 12 then 40 else if tx ≠ name ∨ inn = 4 ∧ n ≠ 2 ∨ inn = 7 ∧ n = 0 then 42 else 0
def EndsPost (b : Nat) (ls : Value) (i : Int) (z : Int) (w : World) (e : Ending) (w' : World) : Prop :=
  e = .returned (.tuple #[]) ∧ Blk w' b 112 #[ls, .int .i64 i, .int .i64 z] ∧ w.grownBy w' (some b)
set_option maxRecDepth 20000 in
set_option maxHeartbeats 4000000 in
theorem ends_calls (b : Nat) (Al : Option Addr) (nl cl : Nat) (i kd : Int) (tx : ByteArray) (Av : Option Addr) (nv cv : Nat) (inn : Int) (name : ByteArray) (Ao : Option Addr) (n co : Nat) (w : World) (hn : n ≤ 100000)
    (hb : Blk w b 112 #[.slice Al nl cl, .int .i64 i, .int .i64 0]) :
    Calls Tryz.prog 90 #[.pointer (some ⟨b, 0, none⟩), .agg #[.int .i64 kd, .string tx, .slice Av nv cv], .int .i64 inn, .string name, .slice Ao n co] w
      (EndsPost b (.slice Al nl cl) i (endsN (L tx) inn (L name) n) w) := by
  have HEN : Hid (endsN (L tx) inn (L name) n = if kindF (L tx) = 0 ∨ kindF (L tx) = 2 ∨ kindF (L tx) = 12 then 40 else if L tx ≠ L name ∨ inn = 4 ∧ n ≠ 2 ∨ inn = 7 ∧ n = 0 then 42 else 0) := rfl
  generalize endsN (L tx) inn (L name) n = EN at *
  have hlt := hb.lt
  have hb0 := (Below.refl w.heap.size w).alloc (Nat.le_refl _) (.cells #[.int .i64 kd, .string tx, .slice Av nv cv] 80)
  have hT := Blk.new w 80 #[.int .i64 kd, .string tx, .slice Av nv cv]
  have HT0 := Lib.hid hT
  have HB0 := Lib.hid hb
  have HBB := Lib.hid hb0
  have HLT := Lib.hid hlt
  clear hb hb0 hT hlt
  go_enter Tryz.func90, Tryz.ntmps90
  go_wp2_with fail
  refine (kind_calls tx _).mono ?_
  rintro e w1 ⟨rfl, hb1⟩
  have HB1 := Lib.hid ((HB0.out.alloc (.cells #[.int .i64 kd, .string tx, .slice Av nv cv] 80)).below hb1 (HB0.out.alloc _).lt)
  have HT1 := Lib.hid (HT0.out.below hb1 HT0.out.lt)
  have HG1 := Lib.hid (grown_of_below (HBB.out.trans (hb1.mono HBB.out.size)) (some b))
  generalize kindF (L tx) = K at *
  clear hb1 HT0 HB0 HBB
  have t1 := HT1.out.cell 1
  have c2 := HB1.out.cell 2
  have f2 := HB1.out.frozen 2
  have htl : tx.toList = L tx := toList_L tx
  have hnl : name.toList = L name := toList_L name
  by_cases hK : K = 0 ∨ K = 2 ∨ K = 12
  · rw [if_pos hK] at HEN
    rcases hK with rfl | rfl | rfl
    all_goals
      go_wp2_with fail
      go_end0
      exact ⟨rfl, by rw [HEN.out]; exact HB1.out.set_ 2 _, grown_setCell HG1.out (.inl rfl) _⟩
  · rw [if_neg hK] at HEN
    have hk0 : (K == 0) = false := beq_eq_false_iff_ne.2 (fun h => hK (.inl h))
    have hk2 : (K == 2) = false := beq_eq_false_iff_ne.2 (fun h => hK (.inr (.inl h)))
    have hk12 : (K == 12) = false := beq_eq_false_iff_ne.2 (fun h => hK (.inr (.inr h)))
    clear hK
    cases hx : (L tx == L name) with
    | false =>
      have hne : L tx ≠ L name := beq_eq_false_iff_ne.1 hx
      rw [if_pos (Or.inl hne)] at HEN
      clear hne
      go_wp2_with fail
      go_end0
      exact ⟨rfl, by rw [HEN.out]; exact HB1.out.set_ 2 _, grown_setCell HG1.out (.inl rfl) _⟩
    | true =>
      have he : L tx = L name := beq_iff_eq.1 hx
      simp only [he, ne_eq, not_true_eq_false, false_or] at HEN
      clear he
      by_cases h4 : inn = 4
      · subst h4
        have h47 : ((4:Int) == 7) = false := rfl
        have h44 : ((4:Int) == 4) = true := rfl
        by_cases h2 : n = 2
        · subst h2
          have HE2 : Hid (EN = 0) := HEN.out.trans (if_neg (by omega))
          clear HEN
          go_wp2_with fail
          go_end0
          exact ⟨rfl, by rw [HE2.out]; exact HB1.out, HG1.out⟩
        · have h22 : ((n : Int) == 2) = false := beq_eq_false_iff_ne.2 (by omega)
          have h23 : ((n : Int) != 2) = true := by rw [bne, h22]; rfl
          have HE2 : Hid (EN = 42) := HEN.out.trans (if_pos (.inl ⟨rfl, h2⟩))
          clear HEN h2 h22
          go_wp2_with fail
          go_end0
          exact ⟨rfl, by rw [HE2.out]; exact HB1.out.set_ 2 _, grown_setCell HG1.out (.inl rfl) _⟩
      · have h44 : (inn == 4) = false := beq_eq_false_iff_ne.2 h4
        by_cases h7 : inn = 7
        · subst h7
          have h77 : ((7:Int) == 7) = true := rfl
          by_cases h0 : n = 0
          · subst h0
            have HE2 : Hid (EN = 42) := HEN.out.trans (if_pos (.inr ⟨rfl, rfl⟩))
            clear HEN
            go_wp2_with fail
            go_end0
            exact ⟨rfl, by rw [HE2.out]; exact HB1.out.set_ 2 _, grown_setCell HG1.out (.inl rfl) _⟩
          · have h00 : ((n : Int) == 0) = false := beq_eq_false_iff_ne.2 (by omega)
            have HE2 : Hid (EN = 0) := HEN.out.trans (if_neg (by omega))
            clear HEN h0
            go_wp2_with fail
            go_end0
            exact ⟨rfl, by rw [HE2.out]; exact HB1.out, HG1.out⟩
        · have h77 : (inn == 7) = false := beq_eq_false_iff_ne.2 h7
          have HE2 : Hid (EN = 0) := HEN.out.trans (if_neg (by omega))
          clear HEN h4 h7
          go_wp2_with fail
          go_end0
          exact ⟨rfl, by rw [HE2.out]; exact HB1.out, HG1.out⟩
theorem elemR_kids (t : Token) : (elemR t).1.kids = [] ∧ (elemR t).1.kind = kindF t.text := by
  unfold elemR
  by_cases e2 : kindF t.text = 2
  · rw [if_pos e2]; exact ⟨rfl, e2.symm⟩
  · rw [if_neg e2]
    by_cases e3 : kindF t.text = 3
    · rw [if_pos e3]; exact ⟨rfl, e3.symm⟩
    · rw [if_neg e3]
      by_cases e12 : kindF t.text = 12
      · rw [if_pos e12]; exact ⟨rfl, e12.symm⟩
      · rw [if_neg e12]
        by_cases e8 : kindF t.text = 8
        · rw [if_pos e8]; exact ⟨rfl, e8.symm⟩
        · rw [if_neg e8]; exact ⟨rfl, rfl⟩
/-- What within answers. -/
def WPost (b : Nat) (ls : Value) (w : World) (z : List Elem × Int × Nat) (e : Ending) (w' : World) : Prop :=
  (∃ A c, e = .returned (.slice A z.1.length c) ∧ GR w' (fun g => w.heap.size ≤ g) (.row 7 (z.1.map Elem.gv)) [.slice A z.1.length c]) ∧ Blk w' b 112 #[ls, .int .i64 z.2.2, .int .i64 z.2.1] ∧ w.grownBy w' (some b)
/-- What begin answers. -/
def BPost (b : Nat) (ls : Value) (w : World) (z : Elem × Int × Nat) (e : Ending) (w' : World) : Prop :=
  (∃ A c, e = .returned (.agg (eCells z.1 (.slice A z.1.kids.length c)).toArray) ∧ GR w' (fun g => w.heap.size ≤ g) (.row 7 (z.1.kids.map Elem.gv)) [.slice A z.1.kids.length c]) ∧ Blk w' b 112 #[ls, .int .i64 z.2.2, .int .i64 z.2.1] ∧ w.grownBy w' (some b)
theorem begin15_results {w : World} {R : Nat} {tmps : Array Value} {x0 x1 x2 x3 x4 x5 x6 : Value} (h2 : tmps[10]?.getD undef = .pointer (some ⟨R, 0, none⟩)) (B0 : Blk w R 74 #[x0, x1, x2, x3, x4, x5, x6]) :
    (results Tryz.f91 tmps).run Tryz.prog w = .ok (.agg #[x0, x1, x2, x3, x4, x5, x6]) w := by
  have a0 := B0.cell 0
  have a1 := B0.cell 1
  have a2 := B0.cell 2
  have a3 := B0.cell 3
  have a4 := B0.cell 4
  have a5 := B0.cell 5
  have a6 := B0.cell 6
  simp [results, Tryz.results91, go_sem, h2, a0, a1, a2, a3, a4, a5, a6]
/-- The blocks of begin: the tag, what is returned, the element, and the reader. -/
structure BgSt (w W : World) (b E : Nat) (tok ec : Array Value) (bc : Array Value) : Prop where
  hT : Blk W w.heap.size 80 tok
  hR : Blk W (w.heap.size + 1) 74 #[.int .i64 0, .string ⟨#[]⟩, .string ⟨#[]⟩, .string ⟨#[]⟩, .bool false, .string ⟨#[]⟩, .slice none 0 0]
  hE : Blk W E 74 ec
  hB : Blk W b 112 bc
  hg : w.grownBy W (some b)
  hl : w.heap.size + 2 ≤ E
  hb : b < w.heap.size
section
variable {w W W' : World} {b E : Nat} {tok ec bc : Array Value}
theorem BgSt.setB (h : BgSt w W b E tok ec bc) (i : Nat) (u : Value) : BgSt w (W.setCell ⟨b, i, none⟩ u) b E tok ec (bc.setIfInBounds i u) :=
  have h1 := h.hb
  have h2 := h.hl
  ⟨h.hT.far (by show w.heap.size ≠ b; omega) u, h.hR.far (by show w.heap.size + 1 ≠ b; omega) u, h.hE.far (by show E ≠ b; omega) u, h.hB.set_ i u, grown_setCell h.hg (.inl rfl) u, h2, h1⟩
theorem BgSt.setE (h : BgSt w W b E tok ec bc) (i : Nat) (u : Value) : BgSt w (W.setCell ⟨E, i, none⟩ u) b E tok (ec.setIfInBounds i u) bc :=
  have h1 := h.hb
  have h2 := h.hl
  ⟨h.hT.far (by show w.heap.size ≠ E; omega) u, h.hR.far (by show w.heap.size + 1 ≠ E; omega) u, h.hE.set_ i u, h.hB.far (by show b ≠ E; omega) u, grown_setCell h.hg (.inr (by show w.heap.size ≤ E; omega)) u, h2, h1⟩
theorem BgSt.step (h : BgSt w W b E tok ec bc) (hg : W.grownBy W' (some b)) {bc' : Array Value} (hB : Blk W' b 112 bc') : BgSt w W' b E tok ec bc' :=
  have h1 := h.hb
  have h2 := h.hl
  have ne : ∀ {g : Nat}, w.heap.size ≤ g → some g ≠ some b := fun {g} hg e => by injection e with e; omega
  ⟨h.hT.grown hg (ne (Nat.le_refl _)), h.hR.grown hg (ne (Nat.le_succ _)), h.hE.grown hg (ne (by omega)), hB, grown_grown h.hg hg (fun k hk => .inl hk), h2, h1⟩
theorem Blk.far7 {g R : Nat} {t : TypeId} {cs : Array Value} (h : Blk W g t cs) (hne : g ≠ R) (x0 x1 x2 x3 x4 x5 x6 : Value) : Blk (fill7 W R x0 x1 x2 x3 x4 x5 x6) g t cs :=
  ((((((h.far (p := ⟨R, 0, none⟩) hne x0).far (p := ⟨R, 1, none⟩) hne x1).far (p := ⟨R, 2, none⟩) hne x2).far (p := ⟨R, 3, none⟩) hne x3).far (p := ⟨R, 4, none⟩) hne x4).far (p := ⟨R, 5, none⟩) hne x5).far (p := ⟨R, 6, none⟩) hne x6
theorem grown7 {a : World} {row : Option Nat} {R : Nat} (h : a.grownBy W row) (hR : some R = row ∨ a.heap.size ≤ R) (x0 x1 x2 x3 x4 x5 x6 : Value) : a.grownBy (fill7 W R x0 x1 x2 x3 x4 x5 x6) row := by
  have h0 := grown_setCell h (p := ⟨R, 0, none⟩) hR x0
  have h1 := grown_setCell h0 (p := ⟨R, 1, none⟩) hR x1
  have h2 := grown_setCell h1 (p := ⟨R, 2, none⟩) hR x2
  have h3 := grown_setCell h2 (p := ⟨R, 3, none⟩) hR x3
  have h4 := grown_setCell h3 (p := ⟨R, 4, none⟩) hR x4
  have h5 := grown_setCell h4 (p := ⟨R, 5, none⟩) hR x5
  exact grown_setCell h5 (p := ⟨R, 6, none⟩) hR x6
/-- The element is laid into what is returned. -/
theorem BgSt.fin {x0 x1 x2 x3 x4 x5 x6 : Value} (h : BgSt w W b E tok #[x0, x1, x2, x3, x4, x5, x6] bc) :
    Blk (fill7 W (w.heap.size + 1) x0 x1 x2 x3 x4 x5 x6) (w.heap.size + 1) 74 #[x0, x1, x2, x3, x4, x5, x6] ∧ Blk (fill7 W (w.heap.size + 1) x0 x1 x2 x3 x4 x5 x6) b 112 bc ∧ w.grownBy (fill7 W (w.heap.size + 1) x0 x1 x2 x3 x4 x5 x6) (some b) ∧
      W.grownBy (fill7 W (w.heap.size + 1) x0 x1 x2 x3 x4 x5 x6) (some (w.heap.size + 1)) :=
  have h1 := h.hb
  ⟨fill7_blk h.hR _ _ _ _ _ _ _,
   h.hB.far7 (by omega) _ _ _ _ _ _ _,
   grown7 h.hg (.inr (Nat.le_succ _)) _ _ _ _ _ _ _, grown7 (grown_refl _ _) (.inl rfl) _ _ _ _ _ _ _⟩
end
end Go.Proofs.YtijpfcjlochahaaGreatDoor
namespace Go.Proofs.YtijpfcjlochahaaGreatDoor
set_option linter.unusedVariables false
set_option linter.unusedSimpArgs false
open Go Go.RowKit

/-- What begin asks of within. -/
def SubAt (b : Nat) (ls : Value) (deep : Int) (sub : Int → List UInt8 → Nat → List Elem × Int × Nat) (inn : Int) (name : ByteArray) (i : Nat) (w : World) : Prop :=
  Calls Tryz.prog 59 #[.pointer (some ⟨b, 0, none⟩), .int .i64 inn, .string name, .int .i64 deep] w (WPost b ls w (sub inn (L name) i))
set_option maxRecDepth 20000 in
set_option maxHeartbeats 4000000 in
theorem begin15_calls (b : Nat) (Al : Option Addr) (nl cl : Nat) (i : Nat) (kd : Int) (tx : ByteArray) (attrs : List Pair) (va : Value) (inn : Int) (out : List Elem) (vo : Value) (dn : Nat) (sub : Int → List UInt8 → Nat → List Elem × Int × Nat) (F G : Nat → Prop) (w : World)
    (hd : dn ≤ 16) (hb : Blk w b 112 #[.slice Al nl cl, .int .i64 i, .int .i64 0]) (hv : GR w F (.row 2 (attrs.map Pair.gv)) [va]) (ho : GR w G (.row 7 (out.map Elem.gv)) [vo])
    (hsub : dn < 16 → ∀ (W : World) (k : Int), w.grownBy W (some b) → Blk W b 112 #[.slice Al nl cl, .int .i64 i, .int .i64 0] → SubAt b (.slice Al nl cl) (dn + 1) sub k tx i W) :
    Calls Tryz.prog 91 #[.pointer (some ⟨b, 0, none⟩), .agg #[.int .i64 kd, .string tx, va], .int .i64 inn, vo, .int .i64 dn] w
      (BPost b (.slice Al nl cl) w (beginR sub (decide (dn < 16)) ⟨kd, L tx, attrs⟩ inn out i)) := by
  obtain ⟨Av, cv, rfl, -, -, -⟩ := pairs_open hv
  obtain ⟨Ao, co, rfl, -, -, -⟩ := elems_open ho
  have hlt := hb.lt
  have hb0 := ((Below.refl w.heap.size w).alloc (Nat.le_refl _) (.cells #[.int .i64 kd, .string tx, .slice Av attrs.length cv] 80))
  have hb1 := hb0.alloc hb0.size (.cells #[.int .i64 0, .string ⟨#[]⟩, .string ⟨#[]⟩, .string ⟨#[]⟩, .bool false, .string ⟨#[]⟩, .slice none 0 0] 74)
  have HT0 := Lib.hid ((Blk.new w 80 #[.int .i64 kd, .string tx, .slice Av attrs.length cv]).alloc (.cells #[.int .i64 0, .string ⟨#[]⟩, .string ⟨#[]⟩, .string ⟨#[]⟩, .bool false, .string ⟨#[]⟩, .slice none 0 0] 74))
  have hr := Blk.new (w.alloc (.cells #[.int .i64 kd, .string tx, .slice Av attrs.length cv] 80)) 74 #[.int .i64 0, .string ⟨#[]⟩, .string ⟨#[]⟩, .string ⟨#[]⟩, .bool false, .string ⟨#[]⟩, .slice none 0 0]
  rw [size_alloc] at hr
  have HR0 := Lib.hid hr
  have HB0 := Lib.hid (hb.below hb1 hlt)
  have HBB := Lib.hid hb1
  have HV := Lib.hid hv
  have HO := Lib.hid ho
  have HSUB := Lib.hid hsub
  have HLT := Lib.hid hlt
  have hdd : (dn : Int) ≤ 16 := by omega
  have HEL : Hid (beginR sub (decide (dn < 16)) ⟨kd, L tx, attrs⟩ inn out i =
    if kindF (L tx) = 0 ∨ aloneF (kindF (L tx)) ≠ decide (kd = 3) then ((elemR ⟨kd, L tx, attrs⟩).1, 40, i)
    else if (elemR ⟨kd, L tx, attrs⟩).2 = false then ((elemR ⟨kd, L tx, attrs⟩).1, 41, i)
    else if mayF inn out (kindF (L tx)) = false then ((elemR ⟨kd, L tx, attrs⟩).1, 42, i)
    else if aloneF (kindF (L tx)) = true then ((elemR ⟨kd, L tx, attrs⟩).1, 0, i)
    else if decide (dn < 16) = false then ((elemR ⟨kd, L tx, attrs⟩).1, 5, i)
    else ((elemR ⟨kd, L tx, attrs⟩).1.setKids (if kindF (L tx) = 11 then [] else (sub (kindF (L tx)) (L tx) i).1), (sub (kindF (L tx)) (L tx) i).2.1, (sub (kindF (L tx)) (L tx) i).2.2)) := rfl
  have HEC := Lib.hid (elem15_calls kd tx _ attrs F _ (hv.below hb1))
  have hke := elemR_kids ⟨kd, L tx, attrs⟩
  have HKE := Lib.hid hke
  generalize beginR sub (decide (dn < 16)) ⟨kd, L tx, attrs⟩ inn out i = BR at *
  generalize elemR ⟨kd, L tx, attrs⟩ = RR at *
  obtain ⟨⟨xk, xt, xs, xa, xb, xu, xl⟩, ok⟩ := RR
  simp only [Elem.kids, Elem.kind] at hke
  obtain ⟨rfl, hxk⟩ := hke
  rw [← hxk] at HEL
  simp only [Elem.setKids] at HEL
  have HXK := Lib.hid hxk
  clear hb hv ho hsub hb0 hb1 hr hlt hxk HKE
  go_enter Tryz.func91, Tryz.ntmps91
  go_wp2_with fail
  refine HEC.out.mono ?_
  rintro e w1 ⟨he, hb1⟩
  simp only [Elem.kind, Elem.text, Elem.src, Elem.alt, Elem.soft, Elem.test] at he
  subst he
  clear HEC
  have hbe := (Below.refl w1.heap.size w1).alloc (Nat.le_refl _) (.cells #[.int .i64 xk, .string (bs xt), .string (bs xs), .string (bs xa), .bool xb, .string (bs xu), .slice none 0 0] 74)
  have ST : Hid (BgSt w (w1.alloc (.cells #[.int .i64 xk, .string (bs xt), .string (bs xs), .string (bs xa), .bool xb, .string (bs xu), .slice none 0 0] 74)) b w1.heap.size #[.int .i64 kd, .string tx, .slice Av attrs.length cv]
      #[.int .i64 xk, .string (bs xt), .string (bs xs), .string (bs xa), .bool xb, .string (bs xu), .slice none 0 0] #[.slice Al nl cl, .int .i64 i, .int .i64 0]) :=
    ⟨(HT0.out.below hb1 HT0.out.lt).alloc _, (HR0.out.below hb1 HR0.out.lt).alloc _, Blk.new w1 _ _, (HB0.out.below hb1 HB0.out.lt).alloc _,
      grown_of_below ((HBB.out.trans (hb1.mono HBB.out.size)).trans (hbe.mono (HBB.out.trans (hb1.mono HBB.out.size)).size)) _, by have := hb1.size; rw [size_alloc, size_alloc] at this; omega, HLT.out⟩
  have HO1 := Lib.hid (HO.out.below ((HBB.out.trans (hb1.mono HBB.out.size)).trans (hbe.mono (HBB.out.trans (hb1.mono HBB.out.size)).size)))
  clear hb1 hbe HT0 HR0 HB0 HBB
  go_upto_region 2 with (fail)
  generalize hW : w1.alloc (.cells #[.int .i64 xk, .string (bs xt), .string (bs xs), .string (bs xa), .bool xb, .string (bs xu), .slice none 0 0] 74) = W at ST HO1 ⊢
  generalize w1.heap.size = E at ST ⊢
  clear hW
  have e0 := ST.out.hE.cell 0
  have e1 := ST.out.hE.cell 1
  have e2 := ST.out.hE.cell 2
  have e3 := ST.out.hE.cell 3
  have e4 := ST.out.hE.cell 4
  have e5 := ST.out.hE.cell 5
  have e6 := ST.out.hE.cell 6
  have r0 := ST.out.hR.cell 0
  have r1 := ST.out.hR.cell 1
  have r2 := ST.out.hR.cell 2
  have r3 := ST.out.hR.cell 3
  have r4 := ST.out.hR.cell 4
  have r5 := ST.out.hR.cell 5
  have r6 := ST.out.hR.cell 6
  have q0 := ST.out.hR.frozen 0
  have q1 := ST.out.hR.frozen 1
  have q2 := ST.out.hR.frozen 2
  have q3 := ST.out.hR.frozen 3
  have q4 := ST.out.hR.frozen 4
  have q5 := ST.out.hR.frozen 5
  have q6 := ST.out.hR.frozen 6
  have t0 := ST.out.hT.cell 0
  have t1 := ST.out.hT.cell 1
  have t2 := ST.out.hT.cell 2
  have c2 := ST.out.hB.cell 2
  have f2 := ST.out.hB.frozen 2
  by_cases hx0 : xk = 0
  · have HR : Hid (BR = (.mk xk xt xs xa xb xu [], 40, i)) := by rw [Hid, HEL.out]; exact if_pos (.inl hx0)
    subst hx0
    go_upto_region 5 with (fail)
    have ST2 := Lib.hid (ST.out.setB 2 (.int .i64 40))
    generalize W.setCell ⟨b, 2, none⟩ (.int .i64 40) = W2 at ST2 ⊢
    clear e0 e1 e2 e3 e4 e5 e6 r0 r1 r2 r3 r4 r5 r6 q0 q1 q2 q3 q4 q5 q6 t0 t1 t2 c2 f2
    have e0 := ST2.out.hE.cell 0
    have e1 := ST2.out.hE.cell 1
    have e2 := ST2.out.hE.cell 2
    have e3 := ST2.out.hE.cell 3
    have e4 := ST2.out.hE.cell 4
    have e5 := ST2.out.hE.cell 5
    have e6 := ST2.out.hE.cell 6
    have r0 := ST2.out.hR.cell 0
    have r1 := ST2.out.hR.cell 1
    have r2 := ST2.out.hR.cell 2
    have r3 := ST2.out.hR.cell 3
    have r4 := ST2.out.hR.cell 4
    have r5 := ST2.out.hR.cell 5
    have r6 := ST2.out.hR.cell 6
    have q0 := ST2.out.hR.frozen 0
    have q1 := ST2.out.hR.frozen 1
    have q2 := ST2.out.hR.frozen 2
    have q3 := ST2.out.hR.frozen 3
    have q4 := ST2.out.hR.frozen 4
    have q5 := ST2.out.hR.frozen 5
    have q6 := ST2.out.hR.frozen 6
    go_wp2_with fail
    refine bodyPost_ret (begin15_results rfl ST2.out.fin.1) rfl ?_
    rw [HR.out]
    exact ⟨⟨none, 0, rfl, gr_nil⟩, ST2.out.fin.2.1, ST2.out.fin.2.2.1⟩
  · have hk0 : (xk == 0) = false := beq_eq_false_iff_ne.2 hx0
    have HAL : Hid (aloneF xk = (xk == 2 || xk == 12)) := by rw [Hid, aloneF, Bool.eq_iff_iff]; simp
    obtain ⟨al, hal⟩ : ∃ al, aloneF xk = al := ⟨_, rfl⟩
    obtain ⟨k3, hk3⟩ : ∃ k3, decide (kd = 3) = k3 := ⟨_, rfl⟩
    rw [hal, hk3] at HEL
    have hk3b : (kd == 3) = k3 := by rw [← hk3, Bool.eq_iff_iff]; simp
    have hcase : (xk == 2) = true ∧ al = true ∨ (xk == 2) = false ∧ (xk == 12) = al := by
      rw [← hal, HAL.out]
      cases (xk == 2) <;> simp
    have HAK := Lib.hid hal
    clear hk3 hal HAL hx0
    rcases hcase with ⟨hx2, rfl⟩ | ⟨hx2, hx12⟩
    · cases k3 with
      | false =>
        have HR : Hid (BR = (.mk xk xt xs xa xb xu [], 40, i)) := HEL.out.trans (if_pos (.inr (by decide)))
        go_upto_region 5 with (fail)
        have ST2 := Lib.hid (ST.out.setB 2 (.int .i64 40))
        generalize W.setCell ⟨b, 2, none⟩ (.int .i64 40) = W2 at ST2 ⊢
        clear e0 e1 e2 e3 e4 e5 e6 r0 r1 r2 r3 r4 r5 r6 q0 q1 q2 q3 q4 q5 q6 t0 t1 t2 c2 f2
        have e0 := ST2.out.hE.cell 0
        have e1 := ST2.out.hE.cell 1
        have e2 := ST2.out.hE.cell 2
        have e3 := ST2.out.hE.cell 3
        have e4 := ST2.out.hE.cell 4
        have e5 := ST2.out.hE.cell 5
        have e6 := ST2.out.hE.cell 6
        have r0 := ST2.out.hR.cell 0
        have r1 := ST2.out.hR.cell 1
        have r2 := ST2.out.hR.cell 2
        have r3 := ST2.out.hR.cell 3
        have r4 := ST2.out.hR.cell 4
        have r5 := ST2.out.hR.cell 5
        have r6 := ST2.out.hR.cell 6
        have q0 := ST2.out.hR.frozen 0
        have q1 := ST2.out.hR.frozen 1
        have q2 := ST2.out.hR.frozen 2
        have q3 := ST2.out.hR.frozen 3
        have q4 := ST2.out.hR.frozen 4
        have q5 := ST2.out.hR.frozen 5
        have q6 := ST2.out.hR.frozen 6
        go_wp2_with fail
        refine bodyPost_ret (begin15_results rfl ST2.out.fin.1) rfl ?_
        rw [HR.out]
        exact ⟨⟨none, 0, rfl, gr_nil⟩, ST2.out.fin.2.1, ST2.out.fin.2.2.1⟩
      | true =>
        have hn1 : ¬ (xk = 0 ∨ true ≠ true) := fun h => h.elim (fun h => by rw [h] at hk0; cases hk0) (fun h => h rfl)
        rw [if_neg hn1] at HEL
        cases ok with
        | false =>
          have HR : Hid (BR = (.mk xk xt xs xa xb xu [], 41, i)) := HEL.out.trans (if_pos rfl)
          go_upto_region 8 with (fail)
          have ST2 := Lib.hid (ST.out.setB 2 (.int .i64 41))
          generalize W.setCell ⟨b, 2, none⟩ (.int .i64 41) = W2 at ST2 ⊢
          clear e0 e1 e2 e3 e4 e5 e6 r0 r1 r2 r3 r4 r5 r6 q0 q1 q2 q3 q4 q5 q6 t0 t1 t2 c2 f2
          have e0 := ST2.out.hE.cell 0
          have e1 := ST2.out.hE.cell 1
          have e2 := ST2.out.hE.cell 2
          have e3 := ST2.out.hE.cell 3
          have e4 := ST2.out.hE.cell 4
          have e5 := ST2.out.hE.cell 5
          have e6 := ST2.out.hE.cell 6
          have r0 := ST2.out.hR.cell 0
          have r1 := ST2.out.hR.cell 1
          have r2 := ST2.out.hR.cell 2
          have r3 := ST2.out.hR.cell 3
          have r4 := ST2.out.hR.cell 4
          have r5 := ST2.out.hR.cell 5
          have r6 := ST2.out.hR.cell 6
          have q0 := ST2.out.hR.frozen 0
          have q1 := ST2.out.hR.frozen 1
          have q2 := ST2.out.hR.frozen 2
          have q3 := ST2.out.hR.frozen 3
          have q4 := ST2.out.hR.frozen 4
          have q5 := ST2.out.hR.frozen 5
          have q6 := ST2.out.hR.frozen 6
          go_wp2_with fail
          refine bodyPost_ret (begin15_results rfl ST2.out.fin.1) rfl ?_
          rw [HR.out]
          exact ⟨⟨none, 0, rfl, gr_nil⟩, ST2.out.fin.2.1, ST2.out.fin.2.2.1⟩
        | true =>
          rw [if_neg (show ¬ (true = false) by decide)] at HEL
          go_wp2_with fail
          refine (may_calls inn xk out _ _ W HO1.out).mono ?_
          rintro e w3 ⟨rfl, rfl⟩
          obtain ⟨mm, hmm⟩ : ∃ mm, mayF inn out xk = mm := ⟨_, rfl⟩
          rw [hmm] at HEL ⊢
          clear hmm
          cases mm with
          | false =>
            have HR : Hid (BR = (.mk xk xt xs xa xb xu [], 42, i)) := HEL.out.trans (if_pos rfl)
            go_upto_region 11 with (fail)
            have ST2 := Lib.hid (ST.out.setB 2 (.int .i64 42))
            generalize W.setCell ⟨b, 2, none⟩ (.int .i64 42) = W2 at ST2 ⊢
            clear e0 e1 e2 e3 e4 e5 e6 r0 r1 r2 r3 r4 r5 r6 q0 q1 q2 q3 q4 q5 q6 t0 t1 t2 c2 f2
            have e0 := ST2.out.hE.cell 0
            have e1 := ST2.out.hE.cell 1
            have e2 := ST2.out.hE.cell 2
            have e3 := ST2.out.hE.cell 3
            have e4 := ST2.out.hE.cell 4
            have e5 := ST2.out.hE.cell 5
            have e6 := ST2.out.hE.cell 6
            have r0 := ST2.out.hR.cell 0
            have r1 := ST2.out.hR.cell 1
            have r2 := ST2.out.hR.cell 2
            have r3 := ST2.out.hR.cell 3
            have r4 := ST2.out.hR.cell 4
            have r5 := ST2.out.hR.cell 5
            have r6 := ST2.out.hR.cell 6
            have q0 := ST2.out.hR.frozen 0
            have q1 := ST2.out.hR.frozen 1
            have q2 := ST2.out.hR.frozen 2
            have q3 := ST2.out.hR.frozen 3
            have q4 := ST2.out.hR.frozen 4
            have q5 := ST2.out.hR.frozen 5
            have q6 := ST2.out.hR.frozen 6
            go_wp2_with fail
            refine bodyPost_ret (begin15_results rfl ST2.out.fin.1) rfl ?_
            rw [HR.out]
            exact ⟨⟨none, 0, rfl, gr_nil⟩, ST2.out.fin.2.1, ST2.out.fin.2.2.1⟩
          | true =>
            rw [if_neg (show ¬ (true = false) by decide)] at HEL
            have HR : Hid (BR = (.mk xk xt xs xa xb xu [], 0, i)) := HEL.out.trans (by first | exact if_pos rfl | exact if_pos trivial | simp)
            go_wp2_with fail
            refine bodyPost_ret (begin15_results rfl ST.out.fin.1) rfl ?_
            rw [HR.out]
            exact ⟨⟨none, 0, rfl, gr_nil⟩, ST.out.fin.2.1, ST.out.fin.2.2.1⟩
    · cases al with
      | true =>
        cases k3 with
        | false =>
          have HR : Hid (BR = (.mk xk xt xs xa xb xu [], 40, i)) := HEL.out.trans (if_pos (.inr (by decide)))
          go_upto_region 5 with (fail)
          have ST2 := Lib.hid (ST.out.setB 2 (.int .i64 40))
          generalize W.setCell ⟨b, 2, none⟩ (.int .i64 40) = W2 at ST2 ⊢
          clear e0 e1 e2 e3 e4 e5 e6 r0 r1 r2 r3 r4 r5 r6 q0 q1 q2 q3 q4 q5 q6 t0 t1 t2 c2 f2
          have e0 := ST2.out.hE.cell 0
          have e1 := ST2.out.hE.cell 1
          have e2 := ST2.out.hE.cell 2
          have e3 := ST2.out.hE.cell 3
          have e4 := ST2.out.hE.cell 4
          have e5 := ST2.out.hE.cell 5
          have e6 := ST2.out.hE.cell 6
          have r0 := ST2.out.hR.cell 0
          have r1 := ST2.out.hR.cell 1
          have r2 := ST2.out.hR.cell 2
          have r3 := ST2.out.hR.cell 3
          have r4 := ST2.out.hR.cell 4
          have r5 := ST2.out.hR.cell 5
          have r6 := ST2.out.hR.cell 6
          have q0 := ST2.out.hR.frozen 0
          have q1 := ST2.out.hR.frozen 1
          have q2 := ST2.out.hR.frozen 2
          have q3 := ST2.out.hR.frozen 3
          have q4 := ST2.out.hR.frozen 4
          have q5 := ST2.out.hR.frozen 5
          have q6 := ST2.out.hR.frozen 6
          go_wp2_with fail
          refine bodyPost_ret (begin15_results rfl ST2.out.fin.1) rfl ?_
          rw [HR.out]
          exact ⟨⟨none, 0, rfl, gr_nil⟩, ST2.out.fin.2.1, ST2.out.fin.2.2.1⟩
        | true =>
          have hn1 : ¬ (xk = 0 ∨ true ≠ true) := fun h => h.elim (fun h => by rw [h] at hk0; cases hk0) (fun h => h rfl)
          rw [if_neg hn1] at HEL
          cases ok with
          | false =>
            have HR : Hid (BR = (.mk xk xt xs xa xb xu [], 41, i)) := HEL.out.trans (if_pos rfl)
            go_upto_region 8 with (fail)
            have ST2 := Lib.hid (ST.out.setB 2 (.int .i64 41))
            generalize W.setCell ⟨b, 2, none⟩ (.int .i64 41) = W2 at ST2 ⊢
            clear e0 e1 e2 e3 e4 e5 e6 r0 r1 r2 r3 r4 r5 r6 q0 q1 q2 q3 q4 q5 q6 t0 t1 t2 c2 f2
            have e0 := ST2.out.hE.cell 0
            have e1 := ST2.out.hE.cell 1
            have e2 := ST2.out.hE.cell 2
            have e3 := ST2.out.hE.cell 3
            have e4 := ST2.out.hE.cell 4
            have e5 := ST2.out.hE.cell 5
            have e6 := ST2.out.hE.cell 6
            have r0 := ST2.out.hR.cell 0
            have r1 := ST2.out.hR.cell 1
            have r2 := ST2.out.hR.cell 2
            have r3 := ST2.out.hR.cell 3
            have r4 := ST2.out.hR.cell 4
            have r5 := ST2.out.hR.cell 5
            have r6 := ST2.out.hR.cell 6
            have q0 := ST2.out.hR.frozen 0
            have q1 := ST2.out.hR.frozen 1
            have q2 := ST2.out.hR.frozen 2
            have q3 := ST2.out.hR.frozen 3
            have q4 := ST2.out.hR.frozen 4
            have q5 := ST2.out.hR.frozen 5
            have q6 := ST2.out.hR.frozen 6
            go_wp2_with fail
            refine bodyPost_ret (begin15_results rfl ST2.out.fin.1) rfl ?_
            rw [HR.out]
            exact ⟨⟨none, 0, rfl, gr_nil⟩, ST2.out.fin.2.1, ST2.out.fin.2.2.1⟩
          | true =>
            rw [if_neg (show ¬ (true = false) by decide)] at HEL
            go_wp2_with fail
            refine (may_calls inn xk out _ _ W HO1.out).mono ?_
            rintro e w3 ⟨rfl, rfl⟩
            obtain ⟨mm, hmm⟩ : ∃ mm, mayF inn out xk = mm := ⟨_, rfl⟩
            rw [hmm] at HEL ⊢
            clear hmm
            cases mm with
            | false =>
              have HR : Hid (BR = (.mk xk xt xs xa xb xu [], 42, i)) := HEL.out.trans (if_pos rfl)
              go_upto_region 11 with (fail)
              have ST2 := Lib.hid (ST.out.setB 2 (.int .i64 42))
              generalize W.setCell ⟨b, 2, none⟩ (.int .i64 42) = W2 at ST2 ⊢
              clear e0 e1 e2 e3 e4 e5 e6 r0 r1 r2 r3 r4 r5 r6 q0 q1 q2 q3 q4 q5 q6 t0 t1 t2 c2 f2
              have e0 := ST2.out.hE.cell 0
              have e1 := ST2.out.hE.cell 1
              have e2 := ST2.out.hE.cell 2
              have e3 := ST2.out.hE.cell 3
              have e4 := ST2.out.hE.cell 4
              have e5 := ST2.out.hE.cell 5
              have e6 := ST2.out.hE.cell 6
              have r0 := ST2.out.hR.cell 0
              have r1 := ST2.out.hR.cell 1
              have r2 := ST2.out.hR.cell 2
              have r3 := ST2.out.hR.cell 3
              have r4 := ST2.out.hR.cell 4
              have r5 := ST2.out.hR.cell 5
              have r6 := ST2.out.hR.cell 6
              have q0 := ST2.out.hR.frozen 0
              have q1 := ST2.out.hR.frozen 1
              have q2 := ST2.out.hR.frozen 2
              have q3 := ST2.out.hR.frozen 3
              have q4 := ST2.out.hR.frozen 4
              have q5 := ST2.out.hR.frozen 5
              have q6 := ST2.out.hR.frozen 6
              go_wp2_with fail
              refine bodyPost_ret (begin15_results rfl ST2.out.fin.1) rfl ?_
              rw [HR.out]
              exact ⟨⟨none, 0, rfl, gr_nil⟩, ST2.out.fin.2.1, ST2.out.fin.2.2.1⟩
            | true =>
              rw [if_neg (show ¬ (true = false) by decide)] at HEL
              have HR : Hid (BR = (.mk xk xt xs xa xb xu [], 0, i)) := HEL.out.trans (by first | exact if_pos rfl | exact if_pos trivial | simp)
              go_wp2_with fail
              refine bodyPost_ret (begin15_results rfl ST.out.fin.1) rfl ?_
              rw [HR.out]
              exact ⟨⟨none, 0, rfl, gr_nil⟩, ST.out.fin.2.1, ST.out.fin.2.2.1⟩
      | false =>
        cases k3 with
        | true =>
          have HR : Hid (BR = (.mk xk xt xs xa xb xu [], 40, i)) := HEL.out.trans (if_pos (.inr (by decide)))
          go_upto_region 5 with (fail)
          have ST2 := Lib.hid (ST.out.setB 2 (.int .i64 40))
          generalize W.setCell ⟨b, 2, none⟩ (.int .i64 40) = W2 at ST2 ⊢
          clear e0 e1 e2 e3 e4 e5 e6 r0 r1 r2 r3 r4 r5 r6 q0 q1 q2 q3 q4 q5 q6 t0 t1 t2 c2 f2
          have e0 := ST2.out.hE.cell 0
          have e1 := ST2.out.hE.cell 1
          have e2 := ST2.out.hE.cell 2
          have e3 := ST2.out.hE.cell 3
          have e4 := ST2.out.hE.cell 4
          have e5 := ST2.out.hE.cell 5
          have e6 := ST2.out.hE.cell 6
          have r0 := ST2.out.hR.cell 0
          have r1 := ST2.out.hR.cell 1
          have r2 := ST2.out.hR.cell 2
          have r3 := ST2.out.hR.cell 3
          have r4 := ST2.out.hR.cell 4
          have r5 := ST2.out.hR.cell 5
          have r6 := ST2.out.hR.cell 6
          have q0 := ST2.out.hR.frozen 0
          have q1 := ST2.out.hR.frozen 1
          have q2 := ST2.out.hR.frozen 2
          have q3 := ST2.out.hR.frozen 3
          have q4 := ST2.out.hR.frozen 4
          have q5 := ST2.out.hR.frozen 5
          have q6 := ST2.out.hR.frozen 6
          go_wp2_with fail
          refine bodyPost_ret (begin15_results rfl ST2.out.fin.1) rfl ?_
          rw [HR.out]
          exact ⟨⟨none, 0, rfl, gr_nil⟩, ST2.out.fin.2.1, ST2.out.fin.2.2.1⟩
        | false =>
          have hn1 : ¬ (xk = 0 ∨ false ≠ false) := fun h => h.elim (fun h => by rw [h] at hk0; cases hk0) (fun h => h rfl)
          rw [if_neg hn1] at HEL
          cases ok with
          | false =>
            have HR : Hid (BR = (.mk xk xt xs xa xb xu [], 41, i)) := HEL.out.trans (if_pos rfl)
            go_upto_region 8 with (fail)
            have ST2 := Lib.hid (ST.out.setB 2 (.int .i64 41))
            generalize W.setCell ⟨b, 2, none⟩ (.int .i64 41) = W2 at ST2 ⊢
            clear e0 e1 e2 e3 e4 e5 e6 r0 r1 r2 r3 r4 r5 r6 q0 q1 q2 q3 q4 q5 q6 t0 t1 t2 c2 f2
            have e0 := ST2.out.hE.cell 0
            have e1 := ST2.out.hE.cell 1
            have e2 := ST2.out.hE.cell 2
            have e3 := ST2.out.hE.cell 3
            have e4 := ST2.out.hE.cell 4
            have e5 := ST2.out.hE.cell 5
            have e6 := ST2.out.hE.cell 6
            have r0 := ST2.out.hR.cell 0
            have r1 := ST2.out.hR.cell 1
            have r2 := ST2.out.hR.cell 2
            have r3 := ST2.out.hR.cell 3
            have r4 := ST2.out.hR.cell 4
            have r5 := ST2.out.hR.cell 5
            have r6 := ST2.out.hR.cell 6
            have q0 := ST2.out.hR.frozen 0
            have q1 := ST2.out.hR.frozen 1
            have q2 := ST2.out.hR.frozen 2
            have q3 := ST2.out.hR.frozen 3
            have q4 := ST2.out.hR.frozen 4
            have q5 := ST2.out.hR.frozen 5
            have q6 := ST2.out.hR.frozen 6
            go_wp2_with fail
            refine bodyPost_ret (begin15_results rfl ST2.out.fin.1) rfl ?_
            rw [HR.out]
            exact ⟨⟨none, 0, rfl, gr_nil⟩, ST2.out.fin.2.1, ST2.out.fin.2.2.1⟩
          | true =>
            rw [if_neg (show ¬ (true = false) by decide)] at HEL
            go_wp2_with fail
            refine (may_calls inn xk out _ _ W HO1.out).mono ?_
            rintro e w3 ⟨rfl, rfl⟩
            obtain ⟨mm, hmm⟩ : ∃ mm, mayF inn out xk = mm := ⟨_, rfl⟩
            rw [hmm] at HEL ⊢
            clear hmm
            cases mm with
            | false =>
              have HR : Hid (BR = (.mk xk xt xs xa xb xu [], 42, i)) := HEL.out.trans (if_pos rfl)
              go_upto_region 11 with (fail)
              have ST2 := Lib.hid (ST.out.setB 2 (.int .i64 42))
              generalize W.setCell ⟨b, 2, none⟩ (.int .i64 42) = W2 at ST2 ⊢
              clear e0 e1 e2 e3 e4 e5 e6 r0 r1 r2 r3 r4 r5 r6 q0 q1 q2 q3 q4 q5 q6 t0 t1 t2 c2 f2
              have e0 := ST2.out.hE.cell 0
              have e1 := ST2.out.hE.cell 1
              have e2 := ST2.out.hE.cell 2
              have e3 := ST2.out.hE.cell 3
              have e4 := ST2.out.hE.cell 4
              have e5 := ST2.out.hE.cell 5
              have e6 := ST2.out.hE.cell 6
              have r0 := ST2.out.hR.cell 0
              have r1 := ST2.out.hR.cell 1
              have r2 := ST2.out.hR.cell 2
              have r3 := ST2.out.hR.cell 3
              have r4 := ST2.out.hR.cell 4
              have r5 := ST2.out.hR.cell 5
              have r6 := ST2.out.hR.cell 6
              have q0 := ST2.out.hR.frozen 0
              have q1 := ST2.out.hR.frozen 1
              have q2 := ST2.out.hR.frozen 2
              have q3 := ST2.out.hR.frozen 3
              have q4 := ST2.out.hR.frozen 4
              have q5 := ST2.out.hR.frozen 5
              have q6 := ST2.out.hR.frozen 6
              go_wp2_with fail
              refine bodyPost_ret (begin15_results rfl ST2.out.fin.1) rfl ?_
              rw [HR.out]
              exact ⟨⟨none, 0, rfl, gr_nil⟩, ST2.out.fin.2.1, ST2.out.fin.2.2.1⟩
            | true =>
              rw [if_neg (show ¬ (true = false) by decide)] at HEL
              rw [if_neg (show ¬ (false = true) by decide)] at HEL
              by_cases hdn : dn = 16
              · have HR : Hid (BR = (.mk xk xt xs xa xb xu [], 5, i)) := HEL.out.trans (if_pos (decide_eq_false (by omega)))
                have hd16 : ((dn : Int) == 16) = true := by rw [hdn]; rfl
                clear hdn
                go_upto_region 16 with (fail)
                have ST2 := Lib.hid (ST.out.setB 2 (.int .i64 5))
                generalize W.setCell ⟨b, 2, none⟩ (.int .i64 5) = W2 at ST2 ⊢
                clear e0 e1 e2 e3 e4 e5 e6 r0 r1 r2 r3 r4 r5 r6 q0 q1 q2 q3 q4 q5 q6 t0 t1 t2 c2 f2
                have e0 := ST2.out.hE.cell 0
                have e1 := ST2.out.hE.cell 1
                have e2 := ST2.out.hE.cell 2
                have e3 := ST2.out.hE.cell 3
                have e4 := ST2.out.hE.cell 4
                have e5 := ST2.out.hE.cell 5
                have e6 := ST2.out.hE.cell 6
                have r0 := ST2.out.hR.cell 0
                have r1 := ST2.out.hR.cell 1
                have r2 := ST2.out.hR.cell 2
                have r3 := ST2.out.hR.cell 3
                have r4 := ST2.out.hR.cell 4
                have r5 := ST2.out.hR.cell 5
                have r6 := ST2.out.hR.cell 6
                have q0 := ST2.out.hR.frozen 0
                have q1 := ST2.out.hR.frozen 1
                have q2 := ST2.out.hR.frozen 2
                have q3 := ST2.out.hR.frozen 3
                have q4 := ST2.out.hR.frozen 4
                have q5 := ST2.out.hR.frozen 5
                have q6 := ST2.out.hR.frozen 6
                go_wp2_with fail
                refine bodyPost_ret (begin15_results rfl ST2.out.fin.1) rfl ?_
                rw [HR.out]
                exact ⟨⟨none, 0, rfl, gr_nil⟩, ST2.out.fin.2.1, ST2.out.fin.2.2.1⟩
              · have hd16 : ((dn : Int) == 16) = false := beq_eq_false_iff_ne.2 (by omega)
                rw [if_neg (by rw [decide_eq_true (show dn < 16 by omega)]; decide)] at HEL
                have hs := HSUB.out (by omega) W xk ST.out.hg ST.out.hB
                unfold SubAt at hs
                have HS := Lib.hid hs
                clear hs hdn
                generalize sub xk (L tx) i = z at *
                obtain ⟨zl, ze, zi⟩ := z
                go_wp2_with fail
                refine HS.out.mono ?_
                rintro e w4 ⟨⟨A4, c4, rfl, hg4⟩, hb4, hgr4⟩
                simp only at hg4 hb4 ⊢
                have ST4 := Lib.hid (ST.out.step hgr4 hb4)
                have HG4 := Lib.hid hg4
                have HSZ : Hid (E < W.heap.size) := ST.out.hE.lt
                have HSR : Hid (w.heap.size + 1 < W.heap.size) := ST.out.hR.lt
                have HWS : Hid (w.heap.size ≤ W.heap.size) := ST.out.hg.size
                clear hg4 hb4 hgr4 HS
                clear e0 e1 e2 e3 e4 e5 e6 r0 r1 r2 r3 r4 r5 r6 q0 q1 q2 q3 q4 q5 q6 t0 t1 t2 c2 f2
                have e6 := ST4.out.hE.cell 6
                have q6 := ST4.out.hE.frozen 6
                go_upto_region 18 with (fail)
                have ST5 := Lib.hid (ST4.out.setE 6 (.slice A4 zl.length c4))
                have hg45 := grown_setCell (grown_refl w4 (some E)) (p := ⟨E, 6, none⟩) (.inl rfl) (.slice A4 zl.length c4)
                generalize w4.setCell ⟨E, 6, none⟩ (.slice A4 zl.length c4) = W5 at ST5 hg45 ⊢
                have ST6 : Hid (BgSt w W5 b E #[.int .i64 kd, .string tx, .slice Av attrs.length cv] #[.int .i64 xk, .string (bs xt), .string (bs xs), .string (bs xa), .bool xb, .string (bs xu), .slice A4 zl.length c4] #[.slice Al nl cl, .int .i64 zi, .int .i64 ze]) :=
                  ⟨ST5.out.hT, ST5.out.hR, ST5.out.hE, ST5.out.hB, ST5.out.hg, ST5.out.hl, ST5.out.hb⟩
                have HG45 := Lib.hid hg45
                clear ST4 ST5 e6 q6 hg45
                have e6 := ST6.out.hE.cell 6
                have q6 := ST6.out.hE.frozen 6
                have e0 := ST6.out.hE.cell 0
                by_cases h11 : xk = 11
                · have hx11 : (xk == 11) = true := by rw [h11]; rfl
                  have HR : Hid (BR = (.mk xk xt xs xa xb xu [], ze, zi)) := by rw [Hid, HEL.out, if_pos h11]
                  clear h11
                  go_upto_region 20 with (fail)
                  have ST7 := Lib.hid (ST6.out.setE 6 (.slice none 0 0))
                  generalize W5.setCell ⟨E, 6, none⟩ (.slice none 0 0) = W6 at ST7 ⊢
                  have ST8 : Hid (BgSt w W6 b E #[.int .i64 kd, .string tx, .slice Av attrs.length cv] #[.int .i64 xk, .string (bs xt), .string (bs xs), .string (bs xa), .bool xb, .string (bs xu), .slice none 0 0] #[.slice Al nl cl, .int .i64 zi, .int .i64 ze]) :=
                    ⟨ST7.out.hT, ST7.out.hR, ST7.out.hE, ST7.out.hB, ST7.out.hg, ST7.out.hl, ST7.out.hb⟩
                  clear ST6 ST7 e0 e6 q6
                  have e0 := ST8.out.hE.cell 0
                  have e1 := ST8.out.hE.cell 1
                  have e2 := ST8.out.hE.cell 2
                  have e3 := ST8.out.hE.cell 3
                  have e4 := ST8.out.hE.cell 4
                  have e5 := ST8.out.hE.cell 5
                  have e6 := ST8.out.hE.cell 6
                  have r0 := ST8.out.hR.cell 0
                  have r1 := ST8.out.hR.cell 1
                  have r2 := ST8.out.hR.cell 2
                  have r3 := ST8.out.hR.cell 3
                  have r4 := ST8.out.hR.cell 4
                  have r5 := ST8.out.hR.cell 5
                  have r6 := ST8.out.hR.cell 6
                  have q0 := ST8.out.hR.frozen 0
                  have q1 := ST8.out.hR.frozen 1
                  have q2 := ST8.out.hR.frozen 2
                  have q3 := ST8.out.hR.frozen 3
                  have q4 := ST8.out.hR.frozen 4
                  have q5 := ST8.out.hR.frozen 5
                  have q6 := ST8.out.hR.frozen 6
                  go_wp2_with fail
                  refine bodyPost_ret (begin15_results rfl ST8.out.fin.1) rfl ?_
                  rw [HR.out]
                  exact ⟨⟨none, 0, rfl, gr_nil⟩, ST8.out.fin.2.1, ST8.out.fin.2.2.1⟩
                · have hx11 : (xk == 11) = false := beq_eq_false_iff_ne.2 h11
                  have HR : Hid (BR = (.mk xk xt xs xa xb xu zl, ze, zi)) := by rw [Hid, HEL.out, if_neg h11]
                  clear h11 e0 e6 q6
                  have e0 := ST6.out.hE.cell 0
                  have e1 := ST6.out.hE.cell 1
                  have e2 := ST6.out.hE.cell 2
                  have e3 := ST6.out.hE.cell 3
                  have e4 := ST6.out.hE.cell 4
                  have e5 := ST6.out.hE.cell 5
                  have e6 := ST6.out.hE.cell 6
                  have r0 := ST6.out.hR.cell 0
                  have r1 := ST6.out.hR.cell 1
                  have r2 := ST6.out.hR.cell 2
                  have r3 := ST6.out.hR.cell 3
                  have r4 := ST6.out.hR.cell 4
                  have r5 := ST6.out.hR.cell 5
                  have r6 := ST6.out.hR.cell 6
                  have q0 := ST6.out.hR.frozen 0
                  have q1 := ST6.out.hR.frozen 1
                  have q2 := ST6.out.hR.frozen 2
                  have q3 := ST6.out.hR.frozen 3
                  have q4 := ST6.out.hR.frozen 4
                  have q5 := ST6.out.hR.frozen 5
                  have q6 := ST6.out.hR.frozen 6
                  go_wp2_with fail
                  refine bodyPost_ret (begin15_results rfl ST6.out.fin.1) rfl ?_
                  rw [HR.out]
                  refine ⟨⟨A4, c4, rfl, ?_⟩, ST6.out.fin.2.1, ST6.out.fin.2.2.1⟩
                  have hg5 : GR W5 (fun g => W.heap.size ≤ g) (.row 7 (zl.map Elem.gv)) [.slice A4 zl.length c4] :=
                    GR.mono (fun _ h => h) (fun g hg hlt => HG45.out.block g hlt (fun e => by injection e with e; have := HSZ.out; omega)) _ _ HG4.out
                  exact GR.mono (fun g hg => Nat.le_trans HWS.out hg) (fun g hg hlt => ST6.out.fin.2.2.2.block g hlt (fun e => by injection e with e; have := HSR.out; omega)) _ _ hg5
end Go.Proofs.YtijpfcjlochahaaGreatDoor
