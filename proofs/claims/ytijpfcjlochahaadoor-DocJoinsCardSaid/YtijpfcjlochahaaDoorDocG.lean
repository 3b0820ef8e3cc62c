/- The walk of word. -/
import Derived.Test.YtijpfcjlochahaaDoorDocD
import Derived.Test.YtijpfcjlochahaaDoorShelf
import Derived.Shelf.Strings.SlTrimAscii
namespace Go.Proofs.YtijpfcjlochahaaDoor
open Go Go.RowKit

/-- What a step of a builder leaves: its answer, and its stack. -/
def StepPost (base B : Nat) (v : Value) (own : Nat → Option Nat) (p : List Level × Int) (w : World) (en : Ending) (w' : World) : Prop :=
  en = .returned (.int .i64 p.2) ∧ (∃ v' kvs' own', Bld w' base B v' p.1.reverse kvs' own' ∧ Fr w w' B v own v' own' (fun _ => False)) ∧ Below base w w'
/-- An error: the stack is as it was. -/
theorem step_same {base B : Nat} {v : Value} {r : List Level} {u : Level} {kvs : List Value} {own : Nat → Option Nat} {w w1 w2 : World} {z : Int} (h : Bld w1 base B v (r.reverse ++ [u]) kvs own) (hb : Below w1.heap.size w1 w2) (hb0 : Below w.heap.size w w1) (hbase : base ≤ w.heap.size) :
    StepPost base B v own (u :: r, z) w (.returned (.int .i64 z)) w2 :=
  have hb2 := hb0.trans (hb.mono hb0.size)
  ⟨rfl, ⟨v, kvs, own, by rw [List.reverse_cons]; exact ⟨⟨h.blk.below hb h.blk.lt, h.stk.below hb, h.free, h.ne⟩, fr_below hb2⟩⟩, hb2.mono hbase⟩
theorem all_dropWhile {p : UInt8 → Bool} : ∀ {l : List UInt8}, l.dropWhile p = [] ↔ l.all p = true
  | [] => by simp
  | a :: l => by
    by_cases h : p a = true
    · simp only [List.dropWhile_cons, h, if_true, List.all_cons, Bool.true_and]
      exact all_dropWhile
    · simp [List.dropWhile_cons, h]
theorem all_dropWhile2 {p : UInt8 → Bool} : ∀ {l : List UInt8}, (l.dropWhile p).all p = l.all p
  | [] => rfl
  | a :: l => by
    by_cases h : p a = true
    · simp only [List.dropWhile_cons, h, if_true, List.all_cons, Bool.true_and]
      exact all_dropWhile2
    · simp [List.dropWhile_cons, h]
theorem trim_nil (l : List UInt8) : (Lib.trimS l [32, 9, 10, 13] = []) ↔ l.all blankB = true := by
  have hb : (fun b => [32, 9, 10, 13].contains b) = blankB := by
    funext b
    simp only [blankB, List.contains_cons, List.contains_nil, Bool.or_false]
    cases b == 32 <;> cases b == 9 <;> cases b == 10 <;> cases b == 13 <;> rfl
  unfold Lib.trimS Lib.trimLeftS Lib.trimRightS
  rw [hb, all_dropWhile, List.all_reverse, all_dropWhile2, List.all_reverse]

theorem Bld.below {w w' : World} {base B : Nat} {v : Value} {st : List Level} {kvs : List Value} {own : Nat → Option Nat} (h : Bld w base B v st kvs own) (hb : Below w.heap.size w w') : Bld w' base B v st kvs own :=
  ⟨h.blk.below hb h.blk.lt, h.stk.below hb, h.free, h.ne⟩
theorem putF_rev {u : Level} {r : List Level} {e : Elem} : (putF (u :: r) e).reverse = r.reverse ++ [⟨putK u.e e, u.name⟩] := by simp [putF]

set_option maxRecDepth 20000 in
set_option maxHeartbeats 4000000 in
theorem word_calls {base B : Nat} {v : Value} {r : List Level} {u : Level} {kvs : List Value} {own : Nat → Option Nat} (t : Token) (av : Value) (w : World) (h : Bld w base B v (r.reverse ++ [u]) kvs own) (hr : r.length ≤ 100)
    (hk : u.e.kids.length ≤ 10000) (hB : base ≤ B) (ht : t.text.length ≤ 100000000) :
    Calls Tryd.prog 42 #[.pointer (some ⟨B, 0, none⟩), .agg #[.int .i64 t.kind, .string (bs t.text), av]] w (StepPost base B v own (wordF (u :: r) t) w) := by
  obtain ⟨sb, cap, rfl, hcap, hcm, hsb, hbs⟩ := h.form
  obtain ⟨kvr, kv, rfl, hkr⟩ := h.kid
  rw [List.length_reverse] at *
  have hrow := h.stk.row
  rw [List.length_append, List.length_singleton, List.length_reverse] at hrow
  have hat : ∀ j, j < 8 → w.cell? ⟨sb, r.length * 8 + j, none⟩ = (levCells u kv)[j]? := fun j hj => by
    rw [hrow.cellAt _ (by omega)]
    exact stk_at r.length j hj (by simp) (by rw [← hkr]; simp)
  have hal := (Below.refl w.heap.size w).alloc (Nat.le_refl _) (.cells #[.int .i64 t.kind, .string (bs t.text), av] 30)
  have b0 : (w.alloc (.cells #[.int .i64 t.kind, .string (bs t.text), av] 30)).cell? ⟨B, 0, none⟩ = some (.slice (some ⟨sb, 0, none⟩) (r.length + 1) cap) := (h.blk.below hal h.blk.lt).cell 0
  have k0 := hat 0 (by omega)
  go_enter Tryd.func42, Tryd.ntmps42
  go_wp2_with fail
  refine (top_calls _ b0 hcap (by omega)).mono ?_
  rintro en w2 ⟨rfl, m, rfl⟩
  have hbW : Below w.heap.size w ((w.alloc (.cells #[.int .i64 t.kind, .string (bs t.text), av] 30)).drewN m) := below_drewN hal m
  obtain ⟨W, hW⟩ : ∃ W, W = (w.alloc (.cells #[.int .i64 t.kind, .string (bs t.text), av] 30)).drewN m := ⟨_, rfl⟩
  have hx : Blk W w.heap.size 30 #[.int .i64 t.kind, .string (bs t.text), av] := by rw [hW]; exact Blk.new w _ _
  rw [← hW] at hbW ⊢
  have x1 := hx.cell 1
  have k0 : W.cell? ⟨sb, r.length * 8, none⟩ = some (.int .i64 u.e.kind) := (World.cell?_of_block (hbW.block sb hsb)).trans k0
  have HB := Lib.hid (h.below hbW)
  have HBW := Lib.hid hbW
  have hbase : base ≤ w.heap.size := by omega
  clear hW b0 hal hat h hbW hx
  by_cases h4 : u.e.kind = 4 ∨ u.e.kind = 7
  · have hb : (u.e.kind == 4) = true ∨ (u.e.kind == 4) = false ∧ (u.e.kind == 7) = true := by
      rcases h4 with h4 | h4
      · exact .inl (by rw [h4]; rfl)
      · exact .inr ⟨by rw [h4]; rfl, by rw [h4]; rfl⟩
    have hF : Hid (wordF (u :: r) t = (u :: r, if t.text.all blankB then 0 else 42)) := by unfold Hid wordF; exact if_pos h4
    clear h4
    have hT := fun W => Any.strings_Trim_laid Tryd.lays160 (by kernel_rfl) (bs t.text) ⟨#[32, 9, 10, 13]⟩ W (by rw [size_bs]; omega) (by decide) (ascii_of_all (by decide))
    have hZ := trim_nil t.text
    have e1 : (bs t.text).data.toList = t.text := by simp [bs]
    rw [e1] at hT
    obtain ⟨Z, hZ2⟩ : ∃ Z, Z = Lib.trimS t.text [32, 9, 10, 13] := ⟨_, rfl⟩
    have hT2 : ∀ W, Calls Tryd.prog 64 #[.string (bs t.text), .string ⟨#[32, 9, 10, 13]⟩] W fun e w' => e = .returned (.string (bs Z)) ∧ Below W.heap.size W w' := fun W => by rw [hZ2]; exact hT W
    rw [← hZ2] at hZ
    have HT := Lib.hid hT2
    have HZ := Lib.hid hZ
    clear hT hT2 hZ hZ2 e1
    rcases hb with hb | ⟨hb, hb7⟩
    · go_wp2_with fail
      refine (HT.out W).mono ?_
      rintro en w3 ⟨rfl, h3⟩
      have HB3 := Lib.hid (HB.out.below h3)
      have HBW3 : Hid (Below w.heap.size w w3) := HBW.out.trans (h3.mono HBW.out.size)
      clear h3
      by_cases hz : Z = []
      · have hq : (bs Z).toList.isEmpty = true := by rw [toList_bs, hz]; rfl
        have hal : t.text.all blankB = true := HZ.out.1 hz
        have hF2 := Lib.hid (hF.out.trans (by rw [if_pos hal] : _ = (u :: r, (0 : Int))))
        clear hz hal
        go_wp2_with fail
        go_ret
        rw [hF2.out]
        exact step_same HB3.out (Below.refl _ _) HBW3.out hbase
      · have hq : (bs Z).toList.isEmpty = false := by rw [toList_bs]; simpa using hz
        have hal : ¬ t.text.all blankB = true := fun e => hz (HZ.out.2 e)
        have hF2 := Lib.hid (hF.out.trans (by rw [if_neg hal] : _ = (u :: r, (42 : Int))))
        clear hz hal
        go_wp2_with fail
        go_ret
        rw [hF2.out]
        exact step_same HB3.out (Below.refl _ _) HBW3.out hbase
    · go_wp2_with fail
      refine (HT.out W).mono ?_
      rintro en w3 ⟨rfl, h3⟩
      have HB3 := Lib.hid (HB.out.below h3)
      have HBW3 : Hid (Below w.heap.size w w3) := HBW.out.trans (h3.mono HBW.out.size)
      clear h3
      by_cases hz : Z = []
      · have hq : (bs Z).toList.isEmpty = true := by rw [toList_bs, hz]; rfl
        have hal : t.text.all blankB = true := HZ.out.1 hz
        have hF2 := Lib.hid (hF.out.trans (by rw [if_pos hal] : _ = (u :: r, (0 : Int))))
        clear hz hal
        go_wp2_with fail
        go_ret
        rw [hF2.out]
        exact step_same HB3.out (Below.refl _ _) HBW3.out hbase
      · have hq : (bs Z).toList.isEmpty = false := by rw [toList_bs]; simpa using hz
        have hal : ¬ t.text.all blankB = true := fun e => hz (HZ.out.2 e)
        have hF2 := Lib.hid (hF.out.trans (by rw [if_neg hal] : _ = (u :: r, (42 : Int))))
        clear hz hal
        go_wp2_with fail
        go_ret
        rw [hF2.out]
        exact step_same HB3.out (Below.refl _ _) HBW3.out hbase
  · have hb4 : (u.e.kind == 4) = false := by rw [beq_eq_false_iff_ne]; exact fun e => h4 (.inl e)
    have hb7 : (u.e.kind == 7) = false := by rw [beq_eq_false_iff_ne]; exact fun e => h4 (.inr e)
    have hF : Hid (wordF (u :: r) t = (putF (u :: r) (textEl t.text), 0)) := by unfold Hid wordF; exact if_neg h4
    clear h4
    go_wp2_with fail
    refine (put_calls (textEl t.text) (.slice none 0 0) W HB.out (by rw [List.length_reverse]; omega) hk (T := fun _ => False) gr_nil (fun _ h => h.elim) hB).mono ?_
    rintro en w3 ⟨rfl, h1, h2⟩
    go_wp2_with fail
    go_ret
    rw [hF.out]
    refine ⟨rfl, ?_, (HBW.out.mono hbase).trans h2⟩
    rw [putF_rev]
    obtain ⟨v', kvs', own', h3, h4⟩ := h1
    exact ⟨v', kvs', own', h3, (fr_below HBW.out).trans h4 HBW.out.size (fun _ _ h => h)⟩
end Go.Proofs.YtijpfcjlochahaaDoor
