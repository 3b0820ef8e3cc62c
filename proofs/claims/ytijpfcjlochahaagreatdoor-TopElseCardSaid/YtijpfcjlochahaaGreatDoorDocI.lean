/- The walk of word. The walks of slices.ContainsFunc at pairs, at the closure of begin. The walks of end and begin. -/
import Derived.Test.YtijpfcjlochahaaGreatDoorDocD
import Derived.Test.YtijpfcjlochahaaGreatDoorShelf
import Derived.Shelf.Strings.SlTrimAscii
import Derived.Deep.CutRange
import Derived.StillTailTactics
import Derived.BigQuiet
import Derived.IntWalk
set_option linter.unusedVariables false
set_option linter.unusedSimpArgs false
namespace Go.Proofs.YtijpfcjlochahaaGreatDoor
open Go Go.RowKit
set_option linter.unusedVariables false
set_option linter.unusedSimpArgs false

/-- What a step of a builder leaves: its answer, and its stack. -/
def StepPost (base B : Nat) (v : Value) (own : Nat → Option Nat) (p : List Level × Int) (w : World) (en : Ending) (w' : World) : Prop :=
  en = .returned (.int .i64 p.2) ∧ (∃ v' kvs' own', Bld w' base B v' p.1.reverse kvs' own' ∧ Fr w w' B v own v' own' (fun _ => False)) ∧ Below base w w'
/-- An error: the stack is as it was. -/
theorem step_same {base B : Nat} {v : Value} {r : List Level} {u : Level} {kvs : List Value} {own : Nat → Option Nat} {w w1 w2 : World} {z : Int} (h : Bld w1 base B v (r.reverse ++ [u]) kvs own) (hb : Below w1.heap.size w1 w2) (hb0 : Below w.heap.size w w1) (hbase : base ≤ w.heap.size) :
    StepPost base B v own (u :: r, z) w (.returned (.int .i64 z)) w2 :=
  have hb2 := hb0.trans (hb.mono hb0.size)
  ⟨rfl, ⟨v, kvs, own, by rw [List.reverse_cons]; exact ⟨⟨h.blk.below hb h.blk.lt, h.stk.below hb, h.free, h.ne⟩, fr_below hb2⟩⟩, hb2.mono hbase⟩
theorem all_dropWhile {p : UInt8 → Bool} : ∀ {l : List UInt8}, l.dropWhile p = [] ↔ l.all p = true
  | [] => by simp
  | a :: l => by
    by_cases h : p a = true
    · simp only [List.dropWhile_cons, h, if_true, List.all_cons, Bool.true_and]
      exact all_dropWhile
    · simp [List.dropWhile_cons, h]
theorem all_dropWhile2 {p : UInt8 → Bool} : ∀ {l : List UInt8}, (l.dropWhile p).all p = l.all p
  | [] => rfl
  | a :: l => by
    by_cases h : p a = true
    · simp only [List.dropWhile_cons, h, if_true, List.all_cons, Bool.true_and]
      exact all_dropWhile2
    · simp [List.dropWhile_cons, h]
theorem trim_nil (l : List UInt8) : (Lib.trimS l [32, 9, 10, 13] = []) ↔ l.all blankB = true := by
  have hb : (fun b => [32, 9, 10, 13].contains b) = blankB := by
    funext b
    simp only [blankB, List.contains_cons, List.contains_nil, Bool.or_false]
    cases b == 32 <;> cases b == 9 <;> cases b == 10 <;> cases b == 13 <;> rfl
  unfold Lib.trimS Lib.trimLeftS Lib.trimRightS
  rw [hb, all_dropWhile, List.all_reverse, all_dropWhile2, List.all_reverse]

theorem Bld.below {w w' : World} {base B : Nat} {v : Value} {st : List Level} {kvs : List Value} {own : Nat → Option Nat} (h : Bld w base B v st kvs own) (hb : Below w.heap.size w w') : Bld w' base B v st kvs own :=
  ⟨h.blk.below hb h.blk.lt, h.stk.below hb, h.free, h.ne⟩
theorem putF_rev {u : Level} {r : List Level} {e : Elem} : (putF (u :: r) e).reverse = r.reverse ++ [⟨putK u.e e, u.name⟩] := by simp [putF]

set_option maxRecDepth 20000 in
set_option maxHeartbeats 4000000 in
theorem word_calls {base B : Nat} {v : Value} {r : List Level} {u : Level} {kvs : List Value} {own : Nat → Option Nat} (t : Token) (av : Value) (w : World) (h : Bld w base B v (r.reverse ++ [u]) kvs own) (hr : r.length ≤ 100)
    (hk : u.e.kids.length ≤ 10000) (hB : base ≤ B) (ht : t.text.length ≤ 100000000) :
    Calls Tryz.prog 43 #[.pointer (some ⟨B, 0, none⟩), .agg #[.int .i64 t.kind, .string (bs t.text), av]] w (StepPost base B v own (wordF (u :: r) t) w) := by
  obtain ⟨sb, cap, rfl, hcap, hcm, hsb, hbs⟩ := h.form
  obtain ⟨kvr, kv, rfl, hkr⟩ := h.kid
  rw [List.length_reverse] at *
  have hrow := h.stk.row
  rw [List.length_append, List.length_singleton, List.length_reverse] at hrow
  have hat : ∀ j, j < 8 → w.cell? ⟨sb, r.length * 8 + j, none⟩ = (levCells u kv)[j]? := fun j hj => by
    rw [hrow.cellAt _ (by omega)]
    exact stk_at r.length j hj (by simp) (by rw [← hkr]; simp)
  have hal := (Below.refl w.heap.size w).alloc (Nat.le_refl _) (.cells #[.int .i64 t.kind, .string (bs t.text), av] 80)
  have b0 : (w.alloc (.cells #[.int .i64 t.kind, .string (bs t.text), av] 80)).cell? ⟨B, 0, none⟩ = some (.slice (some ⟨sb, 0, none⟩) (r.length + 1) cap) := (h.blk.below hal h.blk.lt).cell 0
  have k0 := hat 0 (by omega)
  go_enter Tryz.func43, Tryz.ntmps43
  go_wp2_with fail
  refine (top_calls _ b0 hcap (by omega)).mono ?_
  rintro en w2 ⟨rfl, m, rfl⟩
  have hbW : Below w.heap.size w ((w.alloc (.cells #[.int .i64 t.kind, .string (bs t.text), av] 80)).drewN m) := below_drewN hal m
  obtain ⟨W, hW⟩ : ∃ W, W = (w.alloc (.cells #[.int .i64 t.kind, .string (bs t.text), av] 80)).drewN m := ⟨_, rfl⟩
  have hx : Blk W w.heap.size 80 #[.int .i64 t.kind, .string (bs t.text), av] := by rw [hW]; exact Blk.new w _ _
  rw [← hW] at hbW ⊢
  have x1 := hx.cell 1
  have k0 : W.cell? ⟨sb, r.length * 8, none⟩ = some (.int .i64 u.e.kind) := (World.cell?_of_block (hbW.block sb hsb)).trans k0
  have HB := Lib.hid (h.below hbW)
  have HBW := Lib.hid hbW
  have hbase : base ≤ w.heap.size := by omega
  clear hW b0 hal hat h hbW hx
  by_cases h4 : u.e.kind = 4 ∨ u.e.kind = 7
  · have hb : (u.e.kind == 4) = true ∨ (u.e.kind == 4) = false ∧ (u.e.kind == 7) = true := by
      rcases h4 with h4 | h4
      · exact .inl (by rw [h4]; rfl)
      · exact .inr ⟨by rw [h4]; rfl, by rw [h4]; rfl⟩
    have hF : Hid (wordF (u :: r) t = (u :: r, if t.text.all blankB then 0 else 42)) := by unfold Hid wordF; exact if_pos h4
    clear h4
    have hT := fun W => Any.strings_Trim_laid Tryz.lays160 (by kernel_rfl) (bs t.text) ⟨#[32, 9, 10, 13]⟩ W (by rw [size_bs]; omega) (by decide) (ascii_of_all (by decide))
    have hZ := trim_nil t.text
    have e1 : (bs t.text).data.toList = t.text := by simp [bs]
    rw [e1] at hT
    obtain ⟨Z, hZ2⟩ : ∃ Z, Z = Lib.trimS t.text [32, 9, 10, 13] := ⟨_, rfl⟩
    have hT2 : ∀ W, Calls Tryz.prog 67 #[.string (bs t.text), .string ⟨#[32, 9, 10, 13]⟩] W fun e w' => e = .returned (.string (bs Z)) ∧ Below W.heap.size W w' := fun W => by rw [hZ2]; exact hT W
    rw [← hZ2] at hZ
    have HT := Lib.hid hT2
    have HZ := Lib.hid hZ
    clear hT hT2 hZ hZ2 e1
    rcases hb with hb | ⟨hb, hb7⟩
    · go_wp2_with fail
      refine (HT.out W).mono ?_
      rintro en w3 ⟨rfl, h3⟩
      have HB3 := Lib.hid (HB.out.below h3)
      have HBW3 : Hid (Below w.heap.size w w3) := HBW.out.trans (h3.mono HBW.out.size)
      clear h3
      by_cases hz : Z = []
      · have hq : (bs Z).toList.isEmpty = true := by rw [toList_bs, hz]; rfl
        have hal : t.text.all blankB = true := HZ.out.1 hz
        have hF2 := Lib.hid (hF.out.trans (by rw [if_pos hal] : _ = (u :: r, (0 : Int))))
        clear hz hal
        go_wp2_with fail
        go_ret
        rw [hF2.out]
        exact step_same HB3.out (Below.refl _ _) HBW3.out hbase
      · have hq : (bs Z).toList.isEmpty = false := by rw [toList_bs]; simpa using hz
        have hal : ¬ t.text.all blankB = true := fun e => hz (HZ.out.2 e)
        have hF2 := Lib.hid (hF.out.trans (by rw [if_neg hal] : _ = (u :: r, (42 : Int))))
        clear hz hal
        go_wp2_with fail
        go_ret
        rw [hF2.out]
        exact step_same HB3.out (Below.refl _ _) HBW3.out hbase
    · go_wp2_with fail
      refine (HT.out W).mono ?_
      rintro en w3 ⟨rfl, h3⟩
      have HB3 := Lib.hid (HB.out.below h3)
      have HBW3 : Hid (Below w.heap.size w w3) := HBW.out.trans (h3.mono HBW.out.size)
      clear h3
      by_cases hz : Z = []
      · have hq : (bs Z).toList.isEmpty = true := by rw [toList_bs, hz]; rfl
        have hal : t.text.all blankB = true := HZ.out.1 hz
        have hF2 := Lib.hid (hF.out.trans (by rw [if_pos hal] : _ = (u :: r, (0 : Int))))
        clear hz hal
        go_wp2_with fail
        go_ret
        rw [hF2.out]
        exact step_same HB3.out (Below.refl _ _) HBW3.out hbase
      · have hq : (bs Z).toList.isEmpty = false := by rw [toList_bs]; simpa using hz
        have hal : ¬ t.text.all blankB = true := fun e => hz (HZ.out.2 e)
        have hF2 := Lib.hid (hF.out.trans (by rw [if_neg hal] : _ = (u :: r, (42 : Int))))
        clear hz hal
        go_wp2_with fail
        go_ret
        rw [hF2.out]
        exact step_same HB3.out (Below.refl _ _) HBW3.out hbase
  · have hb4 : (u.e.kind == 4) = false := by rw [beq_eq_false_iff_ne]; exact fun e => h4 (.inl e)
    have hb7 : (u.e.kind == 7) = false := by rw [beq_eq_false_iff_ne]; exact fun e => h4 (.inr e)
    have hF : Hid (wordF (u :: r) t = (putF (u :: r) (textEl t.text), 0)) := by unfold Hid wordF; exact if_neg h4
    clear h4
    go_wp2_with fail
    refine (put_calls (textEl t.text) (.slice none 0 0) W HB.out (by rw [List.length_reverse]; omega) hk (T := fun _ => False) gr_nil (fun _ h => h.elim) hB).mono ?_
    rintro en w3 ⟨rfl, h1, h2⟩
    go_wp2_with fail
    go_ret
    rw [hF.out]
    refine ⟨rfl, ?_, (HBW.out.mono hbase).trans h2⟩
    rw [putF_rev]
    obtain ⟨v', kvs', own', h3, h4⟩ := h1
    exact ⟨v', kvs', own', h3, (fr_below HBW.out).trans h4 HBW.out.size (fun _ _ h => h)⟩
end Go.Proofs.YtijpfcjlochahaaGreatDoor
namespace Go.Proofs.YtijpfcjlochahaaGreatDoor
set_option linter.unusedVariables false
set_option linter.unusedSimpArgs false
open Go Go.RowKit

theorem name_beq (a b : List UInt8) : ((bs a).toList == (bs b).toList) = (a == b) := by rw [toList_bs, toList_bs]
set_option maxRecDepth 20000 in
set_option maxHeartbeats 1000000 in
theorem begin1_calls (PB : Nat) (p x : Pair) (w : World) (hp : w.cell? ⟨PB, 0, none⟩ = some (.string (bs p.name))) :
    Calls Tryz.prog 71 #[.agg #[.string (bs x.name), .string (bs x.value)], .pointer (some ⟨PB, 0, none⟩)] w fun en w' => en = .returned (.bool (x.name == p.name)) ∧ Below w.heap.size w w' := by
  have hb : Below w.heap.size w (w.alloc (.cells #[.string (bs x.name), .string (bs x.value)] 130)) := (Below.refl _ _).alloc (Nat.le_refl _) _
  have hp1 : (w.alloc (.cells #[.string (bs x.name), .string (bs x.value)] 130)).cell? ⟨PB, 0, none⟩ = some (.string (bs p.name)) := by
    refine (World.cell?_of_block (hb.block PB ?_)).trans hp
    by_cases h : PB < w.heap.size
    · exact h
    · simp [World.cell?, h] at hp
  have HB := Lib.hid hb
  clear hb hp
  obtain ⟨q, hq⟩ : ∃ q, q = (x.name == p.name) := ⟨_, rfl⟩
  have hq2 : ((bs x.name).toList == (bs p.name).toList) = q := by rw [name_beq, hq]
  rw [← hq]
  clear hq
  go_enter Tryz.func71, Tryz.ntmps71
  go_wp2_with fail
  go_ret
  refine ⟨?_, HB.out⟩
  first
    | rfl
    | (show Ending.returned (.bool _) = _; congr 2; try exact hq2)

set_option maxRecDepth 20000 in
set_option maxHeartbeats 2000000 in
theorem indexFunc_calls (PB : Nat) (p : Pair) (l : List Pair) (v : Value) (F : Nat → Prop) (w : World) (hp : w.cell? ⟨PB, 0, none⟩ = some (.string (bs p.name))) (hv : GR w F (.row 2 (l.map Pair.gv)) [v]) (hl : l.length ≤ 100000) :
    Calls Tryz.prog 121 #[v, .func (.func 71) #[] #[.pointer (some ⟨PB, 0, none⟩)]] w fun en w' => ∃ z : Int, en = .returned (.int .i64 z) ∧ decide (0 ≤ z) = l.any (fun x => x.name == p.name) ∧ Below w.heap.size w w' := by
  obtain ⟨A, c, rfl, hlc, hcm, hop⟩ := pairs_open (GR.lt_heap _ _ hv)
  have HOP := Lib.hid hop
  clear hop hv hcm
  go_enter Tryz.func121, Tryz.ntmps121
  go_wp2_with fail
  go_loopw [5, 8] (fun _ i wr => ∃ k : Nat, k ≤ l.length ∧ i = .int .i64 k ∧ Below w.heap.size w wr ∧ Hid ((l.take k).any (fun x => x.name == p.name) = false))
     (fun _ i wr => l.length - (intOf i).toNat)
  case atStart => exact ⟨0, Nat.zero_le _, rfl, Below.refl _ _, rfl⟩
  case round =>
    obtain ⟨k, hk, rfl, hb, HO⟩ := hrel
    by_cases hlt : k < l.length
    · obtain ⟨b, off, rfl, ⟨_, hbw⟩, hop⟩ := HOP.out (by rintro rfl; simp at hlt)
      obtain ⟨c0, c1⟩ := hop k hlt
      have e0 := (hb.cell (p := ⟨b, off + k * 2, none⟩) hbw).trans c0
      have e1 := (hb.cell (p := ⟨b, off + k * 2 + 1, none⟩) hbw).trans c1
      have hPB : PB < w.heap.size := by
        by_cases h : PB < w.heap.size
        · exact h
        · simp [World.cell?, h] at hp
      have ep := (hb.cell (p := ⟨PB, 0, none⟩) hPB).trans hp
      have HST : Hid ((l.take (k + 1)).any (fun x => x.name == p.name) = (l[k].name == p.name)) := by
        rw [Hid, List.take_succ_eq_append_getElem hlt, List.any_append, HO.out]; simp
      have HAN : Hid (l.any (fun x => x.name == p.name) = ((l[k].name == p.name) || (l.drop (k + 1)).any (fun x => x.name == p.name))) := by
        have h1 : l = l.take (k + 1) ++ l.drop (k + 1) := (List.take_append_drop _ _).symm
        rw [Hid, ← HST.out, ← List.any_append, ← h1]
      generalize htk : l[k] = t at *
      have HB := Lib.hid hb
      clear htk c0 c1 hop hb
      go_wp2_with fail
      refine (begin1_calls PB p t wr ep).mono ?_
      rintro en w3 ⟨rfl, h3⟩
      have HB3 := Lib.hid (HB.out.trans (h3.mono HB.out.size))
      clear h3
      by_cases hq : (t.name == p.name) = true
      · rw [hq] at HAN HST ⊢
        go_wp2_with fail
        go_ret
        refine ⟨k, rfl, ?_, HB3.out⟩
        rw [HAN.out]
        simp
      · have hq : (t.name == p.name) = false := by simpa using hq
        rw [hq] at HAN HST ⊢
        go_wp2_with fail
        refine ⟨⟨k + 1, hlt, by simp, HB3.out, HST.out⟩, ?_⟩
        simp [intOf]
        omega
    · have hkl : k = l.length := by omega
      subst hkl
      rw [List.take_length] at HO
      go_wp2_with fail
      go_ret
      refine ⟨-1, rfl, ?_, hb⟩
      rw [HO.out]
      rfl
set_option maxRecDepth 20000 in
set_option maxHeartbeats 2000000 in
theorem containsFunc_calls (PB : Nat) (p : Pair) (l : List Pair) (v : Value) (F : Nat → Prop) (w : World) (hp : w.cell? ⟨PB, 0, none⟩ = some (.string (bs p.name))) (hv : GR w F (.row 2 (l.map Pair.gv)) [v]) (hl : l.length ≤ 100000) :
    Calls Tryz.prog 70 #[v, .func (.func 71) #[] #[.pointer (some ⟨PB, 0, none⟩)]] w fun en w' => en = .returned (.bool (l.any (fun x => x.name == p.name))) ∧ Below w.heap.size w w' := by
  have hI := indexFunc_calls PB p l v F w hp hv hl
  obtain ⟨A, c, rfl, -, -, -⟩ := pairs_open hv
  have HI := Lib.hid hI
  clear hI hv hp
  go_enter Tryz.func70, Tryz.ntmps70
  go_wp2_with fail
  refine HI.out.mono ?_
  rintro en w3 ⟨z, rfl, hz, h3⟩
  have HZ := Lib.hid hz
  clear hz
  have H3 := Lib.hid h3
  clear h3 HI
  go_wp2_with fail
  go_ret
  refine ⟨?_, H3.out⟩
  show Ending.returned (.bool _) = _
  exact congrArg (fun b => Ending.returned (.bool b)) HZ.out
end Go.Proofs.YtijpfcjlochahaaGreatDoor
namespace Go.Proofs.YtijpfcjlochahaaGreatDoor
set_option linter.unusedVariables false
set_option linter.unusedSimpArgs false
open Go Go.RowKit

section
variable {P : Program} {ops : Array Oper} {Q : Exit → Act → World → Prop} {md : Region.Mode} {S S' : World → Prop}
/-- From here on more is known of the world. -/
theorem wpAnyH_more (h : ∀ w, S' w → S w) : ∀ (fuel : Nat) (listed : Array Bool) (a : Act) (w : World), wpAnyH P md ops Q S' fuel listed a w → wpAnyH P md ops Q S fuel listed a w
  | 0, _, _, _, h' => h'
  | fuel + 1, _, _, _, h' => ⟨h'.1, fun i hi => wpOp_mono (fun a' w' h2 => ⟨h w' h2.1, wpAnyH_more h fuel _ a' w' h2.2⟩) (h'.2 i hi)⟩
end

theorem ruleV_form (s : List UInt8) : ∃ (k : Int) (a : Bool) (i : Int) (f g : Value), ruleV s = .agg #[.int .i64 k, .bool a, .int .i64 i, f, g] ∧ f.oneCell' = true ∧ g.oneCell' = true ∧
    ∀ q, ruleF s = some q → k = q.kind ∧ a = q.alone ∧ i = q.inn ∧ f = .func (.func (takesOf q.kind)) #[] #[] ∧ g = .func (.func (needsOf q.kind)) #[] #[] := by
  unfold ruleV
  cases ruleF s with
  | none => exact ⟨_, _, _, _, _, rfl, rfl, rfl, fun q h => by cases h⟩
  | some q => exact ⟨_, _, _, _, _, rfl, rfl, rfl, fun q' h => by injection h with h; subst h; exact ⟨rfl, rfl, rfl, rfl, rfl⟩⟩

def set5 (W : World) (R : Nat) (c0 c1 c2 c3 c4 : Value) : World := ((((W.setCell ⟨R, 0, none⟩ c0).setCell ⟨R, 1, none⟩ c1).setCell ⟨R, 2, none⟩ c2).setCell ⟨R, 3, none⟩ c3).setCell ⟨R, 4, none⟩ c4
theorem set5_far {W : World} {X R : Nat} {ty : TypeId} {cs : Array Value} (h : Blk W X ty cs) (hne : X ≠ R) (c0 c1 c2 c3 c4 : Value) : Blk (set5 W R c0 c1 c2 c3 c4) X ty cs :=
  ((((h.far (p := ⟨R, 0, none⟩) hne c0).far (p := ⟨R, 1, none⟩) hne c1).far (p := ⟨R, 2, none⟩) hne c2).far (p := ⟨R, 3, none⟩) hne c3).far (p := ⟨R, 4, none⟩) hne c4
theorem set5_map {W : World} {M R n : Nat} {D : DataW Value} {P : Program} {k : TypeId} (h : W.ownsMap P k selfR M n D) (hne : M ≠ R) (c0 c1 c2 c3 c4 : Value) : (set5 W R c0 c1 c2 c3 c4).ownsMap P k selfR M n D :=
  ((((h.setCell (a := ⟨R, 0, none⟩) hne c0).setCell (a := ⟨R, 1, none⟩) hne c1).setCell (a := ⟨R, 2, none⟩) hne c2).setCell (a := ⟨R, 3, none⟩) hne c3).setCell (a := ⟨R, 4, none⟩) hne c4
theorem set5_below {B : Nat} {W0 W : World} {R : Nat} (h : Below B W0 W) (hR : B ≤ R) (c0 c1 c2 c3 c4 : Value) : Below B W0 (set5 W R c0 c1 c2 c3 c4) :=
  ((((h.setCell (p := ⟨R, 0, none⟩) hR c0).setCell (p := ⟨R, 1, none⟩) hR c1).setCell (p := ⟨R, 2, none⟩) hR c2).setCell (p := ⟨R, 3, none⟩) hR c3).setCell (p := ⟨R, 4, none⟩) hR c4

set_option maxRecDepth 20000 in
set_option maxHeartbeats 4000000 in
theorem close_calls {base B : Nat} {v : Value} {r : List Level} {u : Level} {kvs : List Value} {own : Nat → Option Nat} (t : Token) (av : Value) (w : World) (h : Bld w base B v (r.reverse ++ [u]) kvs own) (hr : r.length ≤ 100)
    (hk : ∀ x, x ∈ u :: r → x.e.kids.length ≤ 10000) (hB : base ≤ B) (ht : t.text.length ≤ 100000000) :
    Calls Tryz.prog 45 #[.pointer (some ⟨B, 0, none⟩), .agg #[.int .i64 t.kind, .string (bs t.text), av]] w (StepPost base B v own (closeF (u :: r) t) w) := by
  have hs : t.text.length ≤ maxLen := by unfold maxLen; omega
  obtain ⟨rk, ra, ri, rf, rg, hRV, hf1, hg1, hRQ⟩ := ruleV_form t.text
  obtain ⟨w0, hw0⟩ : ∃ w0, w0 = w.alloc (.cells #[.int .i64 t.kind, .string (bs t.text), av] 80) := ⟨_, rfl⟩
  have hx : Blk w0 w.heap.size 80 #[.int .i64 t.kind, .string (bs t.text), av] := by rw [hw0]; exact Blk.new w _ _
  have x1 := hx.cell 1
  have hs0 : w0.heap.size = w.heap.size + 1 := by rw [hw0, size_alloc]
  have HW0 := Lib.hid hw0
  have hx0 := Lib.hid hs0
  have HRQ := Lib.hid hRQ
  have HRV := Lib.hid hRV
  have HH := Lib.hid h
  clear hRQ hRV h
  go_enter Tryz.func45, Tryz.ntmps45
  clear hw0
  go_upto_region 1 with (fail)
  rw [← HW0.out]
  go_cut [5, 6] from 9 to 84 (fun rv iv wx => ∃ R : Nat, rv = .pointer (some ⟨R, 0, none⟩) ∧ iv = .bool (ruleF t.text).isSome ∧ Hid (Blk wx R 125 #[.int .i64 rk, .bool ra, .int .i64 ri, rf, rg]) ∧ Hid (Below w0.heap.size w0 wx))
  case first =>
    have hS0 : Blk w0.drew w.heap.size 80 #[.int .i64 t.kind, .string (bs t.text), av] := hx
    refine wp_region_held (S := (fun w' => Blk w' w.heap.size 80 #[.int .i64 t.kind, .string (bs t.text), av])) (by kernel_rfl) ?_
    change wpAnyH _ _ _ _ _ _ _ _ (World.drew _)
    refine wpAnyH_take (i := 1) (v := ?_) rfl (by kernel_rfl) (by kernel_rfl) (by kernel_rfl) (fun _ _ _ h => h) (Or.inl ⟨by rfl, ?_⟩) hS0 ?_
    rotate_left
    · (intro w_ hS_; have s1 := Blk.cell hS_ 1; go_simp; try with_reducible rfl)
    refine wpAnyH_take (i := 2) (v := ?_) rfl (by kernel_rfl) (by kernel_rfl) (by kernel_rfl) (fun _ _ _ h => h) (Or.inl ⟨by rfl, ?_⟩) hS0 ?_
    rotate_left
    · (intro w_ hS_; have s1 := Blk.cell hS_ 1; go_simp; try with_reducible rfl)
    refine wpAnyH_ready (rs := [0, 7]) (by kernel_rfl) (by simp) ?_
    refine AllReadyH.cons rfl (fun K_ hK_ => ?_) (AllReadyH.cons rfl (fun K_ hK_ => ?_) AllReadyH.nil)
    · go_simp
      refine (rules_calls w0.drew).mono ?_
      rintro en w1 ⟨rfl, hM, h1⟩
      have hs1 : w0.drew.heap.size = w.heap.size + 1 := hx0.out
      rw [hs1] at hM ⊢
      obtain ⟨mb, hmb⟩ : ∃ mb, mb = w.heap.size + 1 := ⟨_, rfl⟩
      rw [← hmb] at hM ⊢
      have hS1 : Blk w1 w.heap.size 80 #[.int .i64 t.kind, .string (bs t.text), av] := Blk.below hS0 h1 (Blk.lt hS0)
      refine hK_.out _ _ (by exact hS1) fun _ => ?_
      clear hK_ K_
      clear hmb
      refine wpAnyH_more (S' := fun w' => Blk w' w.heap.size 80 #[.int .i64 t.kind, .string (bs t.text), av] ∧ w'.ownsMap Tryz.prog 9 selfR mb 11 rulesD) (fun _ h => h.1) _ _ _ _ ?_
      refine wpAnyH_take (i := 3) (v := ?_) rfl (by kernel_rfl) (by kernel_rfl) (by kernel_rfl) (fun _ _ _ h => h) (Or.inl ⟨by rfl, ?_⟩) ⟨hS1, hM⟩ ?_
      rotate_left
      · (intro w_ hS_; have hl : (Instr.lookup 127 (.map (some mb)) (.string (bs t.text)) true).run Tryz.prog w_ = .ok (.tuple #[.agg #[.int .i64 rk, .bool ra, .int .i64 ri, rf, rg], .bool (ruleF t.text).isSome]) w_ := by (rw [← HRV.out]; exact rules_look hS_.2 hs true)
         go_simp; try with_reducible rfl)
      go_simp
      refine wpAnyH_take (i := 4) (v := ?_) rfl (by kernel_rfl) (by kernel_rfl) (by kernel_rfl) (fun _ _ _ h => h) (Or.inl ⟨by rfl, ?_⟩) ⟨hS1, hM⟩ ?_
      rotate_left
      · (intro w_ hS_; obtain _s := hS_; go_simp; try with_reducible rfl)
      refine wpAnyH_take (i := 5) (v := ?_) rfl (by kernel_rfl) (by kernel_rfl) (by kernel_rfl) (fun _ _ _ h => h) (Or.inl ⟨by rfl, ?_⟩) ⟨hS1, hM⟩ ?_
      rotate_left
      · (intro w_ hS_; obtain _s := hS_; go_simp; try with_reducible rfl)
      refine wpAnyH_take (i := 6) (v := ?_) rfl (by kernel_rfl) (by kernel_rfl) (by kernel_rfl) (fun _ _ _ h => h) (Or.inl ⟨by rfl, ?_⟩) ⟨hS1, hM⟩ ?_
      rotate_left
      · (intro w_ hS_; obtain _s := hS_; go_simp; try with_reducible rfl)
      have hal : Below w1.heap.size w1 (w1.alloc (.cells #[.int .i64 0, .bool false, .int .i64 0, .nilFunc, .nilFunc] 125)) := (Below.refl _ _).alloc (Nat.le_refl _) _
      have hS2 := hS1.below hal hS1.lt
      have hM2 := hM.alloc (.cells #[.int .i64 0, .bool false, .int .i64 0, .nilFunc, .nilFunc] 125)
      refine wpAnyH_ready (rs := [7]) (by kernel_rfl) (by simp) ?_
      refine AllReadyH.cons rfl (fun K_ hK_ => ?_) AllReadyH.nil
      go_simp
      refine hK_.out _ _ (by exact ⟨hS2, hM2⟩) fun _ => ?_
      clear hK_ K_
      have zb : Blk (w1.alloc (.cells #[.int .i64 0, .bool false, .int .i64 0, .nilFunc, .nilFunc] 125)) w1.heap.size 125 #[.int .i64 0, .bool false, .int .i64 0, .nilFunc, .nilFunc] := Blk.new w1 _ _
      have sf : ∀ (W : World) (a : Addr) (m : Mode), (store a rf m).run Tryz.prog W = stored Tryz.prog W a rf m := fun W a m => run_store _ W a rf m hf1
      have sg : ∀ (W : World) (a : Addr) (m : Mode), (store a rg m).run Tryz.prog W = stored Tryz.prog W a rg m := fun W a m => run_store _ W a rg m hg1
      have z0 := zb.cell 0
      have z1 := zb.cell 1
      have z2 := zb.cell 2
      have z3 := zb.cell 3
      have z4 := zb.cell 4
      have y0 := zb.frozen 0
      have y1 := zb.frozen 1
      have y2 := zb.frozen 2
      have y3 := zb.frozen 3
      have y4 := zb.frozen 4
      refine wpAnyH_ready (rs := [8]) (by kernel_rfl) (by simp) ?_
      refine AllReadyH.cons rfl (fun K_ hK_ => ?_) AllReadyH.nil
      go_simp
      have hal2 : Below w1.heap.size w1 (w1.alloc (.cells #[.int .i64 rk, .bool ra, .int .i64 ri, rf, rg] 125)) := (Below.refl _ _).alloc (Nat.le_refl _) _
      have hS3 := hS1.below hal2 hS1.lt
      have hM3 := hM.alloc (.cells #[.int .i64 rk, .bool ra, .int .i64 ri, rf, rg] 125)
      refine hK_.out _ _ (by exact ⟨hS3, hM3⟩) fun _ => ?_
      clear hK_ K_
      refine wpAnyH_take (i := 9) (v := ?_) rfl (by kernel_rfl) (by kernel_rfl) (by kernel_rfl) (fun _ _ _ h => h) (Or.inl ⟨by rfl, ?_⟩) (by exact ⟨hS3, hM3⟩) ?_
      rotate_left
      · (intro w_ hS_; clear hS_; go_simp; try with_reducible rfl)
      refine wpAnyH_done (by kernel_rfl) ?_ _
      go_wp2_with fail
      go_meet
      case rel => exact ⟨_, rfl, rfl, Blk.new w1 _ _, (below_drewN (Below.refl _ _) 1).trans ((h1.mono (by rw [hx0.out]; exact Nat.le_of_eq hs1.symm)).trans (hal2.mono (by have := h1.size; omega)))⟩
    · go_simp
      have hal0 : Below w0.heap.size w0 (w0.alloc (.cells #[.int .i64 0, .bool false, .int .i64 0, .nilFunc, .nilFunc] 125)).drew := ((Below.refl _ _).alloc (Nat.le_refl _) _).drew
      have hA := Blk.below (B := w0.heap.size) hx hal0 hx.lt
      have zb0 : Blk (w0.alloc (.cells #[.int .i64 0, .bool false, .int .i64 0, .nilFunc, .nilFunc] 125)).drew (w.heap.size + 1) 125 #[.int .i64 0, .bool false, .int .i64 0, .nilFunc, .nilFunc] := by
        rw [← hx0.out]; exact Blk.new w0 _ _
      have hsz : (w0.alloc (.cells #[.int .i64 0, .bool false, .int .i64 0, .nilFunc, .nilFunc] 125)).drew.heap.size = w.heap.size + 1 + 1 := by
        show (w0.alloc _).heap.size = _
        rw [size_alloc, hx0.out]
      have HSZ := Lib.hid hsz
      clear hsz
      refine hK_.out _ _ (by exact hA) fun _ => ?_
      clear hK_ K_
      generalize (w0.alloc (.cells #[.int .i64 0, .bool false, .int .i64 0, .nilFunc, .nilFunc] 125)).drew = wa at *
      refine wpAnyH_ready (rs := [0]) (by kernel_rfl) (by simp) ?_
      refine AllReadyH.cons rfl (fun K_ hK_ => ?_) AllReadyH.nil
      go_simp
      refine (rules_calls wa).mono ?_
      rintro en w1 ⟨rfl, hM, h1⟩
      obtain ⟨mb, hmb⟩ : ∃ mb, mb = wa.heap.size := ⟨_, rfl⟩
      rw [← hmb] at hM ⊢
      have HMB : Hid (mb ≠ w.heap.size + 1) := by have := HSZ.out; rw [Hid, hmb]; omega
      clear hmb
      have hS1 : Blk w1 w.heap.size 80 #[.int .i64 t.kind, .string (bs t.text), av] := Blk.below hA h1 (Blk.lt hA)
      have zb : Blk w1 (w.heap.size + 1) 125 #[.int .i64 0, .bool false, .int .i64 0, .nilFunc, .nilFunc] := Blk.below zb0 h1 (Blk.lt zb0)
      refine hK_.out _ _ (by exact hS1) fun _ => ?_
      clear hK_ K_
      refine wpAnyH_more (S' := fun w' => Blk w' w.heap.size 80 #[.int .i64 t.kind, .string (bs t.text), av] ∧ w'.ownsMap Tryz.prog 9 selfR mb 11 rulesD) (fun _ h => h.1) _ _ _ _ ?_
      refine wpAnyH_take (i := 3) (v := ?_) rfl (by kernel_rfl) (by kernel_rfl) (by kernel_rfl) (fun _ _ _ h => h) (Or.inl ⟨by rfl, ?_⟩) ⟨hS1, hM⟩ ?_
      rotate_left
      · (intro w_ hS_; have hl : (Instr.lookup 127 (.map (some mb)) (.string (bs t.text)) true).run Tryz.prog w_ = .ok (.tuple #[.agg #[.int .i64 rk, .bool ra, .int .i64 ri, rf, rg], .bool (ruleF t.text).isSome]) w_ := by (rw [← HRV.out]; exact rules_look hS_.2 hs true)
         go_simp; try with_reducible rfl)
      go_simp
      refine wpAnyH_take (i := 4) (v := ?_) rfl (by kernel_rfl) (by kernel_rfl) (by kernel_rfl) (fun _ _ _ h => h) (Or.inl ⟨by rfl, ?_⟩) ⟨hS1, hM⟩ ?_
      rotate_left
      · (intro w_ hS_; obtain _s := hS_; go_simp; try with_reducible rfl)
      refine wpAnyH_take (i := 5) (v := ?_) rfl (by kernel_rfl) (by kernel_rfl) (by kernel_rfl) (fun _ _ _ h => h) (Or.inl ⟨by rfl, ?_⟩) ⟨hS1, hM⟩ ?_
      rotate_left
      · (intro w_ hS_; obtain _s := hS_; go_simp; try with_reducible rfl)
      refine wpAnyH_take (i := 6) (v := ?_) rfl (by kernel_rfl) (by kernel_rfl) (by kernel_rfl) (fun _ _ _ h => h) (Or.inl ⟨by rfl, ?_⟩) ⟨hS1, hM⟩ ?_
      rotate_left
      · (intro w_ hS_; obtain _s := hS_; go_simp; try with_reducible rfl)
      have sf : ∀ (W : World) (a : Addr) (m : Mode), (store a rf m).run Tryz.prog W = stored Tryz.prog W a rf m := fun W a m => run_store _ W a rf m hf1
      have sg : ∀ (W : World) (a : Addr) (m : Mode), (store a rg m).run Tryz.prog W = stored Tryz.prog W a rg m := fun W a m => run_store _ W a rg m hg1
      have z0 := zb.cell 0
      have z1 := zb.cell 1
      have z2 := zb.cell 2
      have z3 := zb.cell 3
      have z4 := zb.cell 4
      have y0 := zb.frozen 0
      have y1 := zb.frozen 1
      have y2 := zb.frozen 2
      have y3 := zb.frozen 3
      have y4 := zb.frozen 4
      refine wpAnyH_ready (rs := [8]) (by kernel_rfl) (by simp) ?_
      refine AllReadyH.cons rfl (fun K_ hK_ => ?_) AllReadyH.nil
      go_simp
      have hS3 : Blk (set5 w1 (w.heap.size + 1) (.int .i64 rk) (.bool ra) (.int .i64 ri) rf rg) w.heap.size 80 #[.int .i64 t.kind, .string (bs t.text), av] := set5_far hS1 (by omega) _ _ _ _ _
      have hM3 : (set5 w1 (w.heap.size + 1) (.int .i64 rk) (.bool ra) (.int .i64 ri) rf rg).ownsMap Tryz.prog 9 selfR mb 11 rulesD := set5_map hM HMB.out _ _ _ _ _
      have hZ3 : Blk (set5 w1 (w.heap.size + 1) (.int .i64 rk) (.bool ra) (.int .i64 ri) rf rg) (w.heap.size + 1) 125 #[.int .i64 rk, .bool ra, .int .i64 ri, rf, rg] := ((((zb.set_ 0 _).set_ 1 _).set_ 2 _).set_ 3 _).set_ 4 _
      have hB3 : Below w0.heap.size w0 (set5 w1 (w.heap.size + 1) (.int .i64 rk) (.bool ra) (.int .i64 ri) rf rg) := set5_below (hal0.trans (h1.mono hal0.size)) (by rw [hx0.out]; omega) _ _ _ _ _
      unfold set5 at hS3 hM3 hZ3 hB3
      refine hK_.out _ _ (by exact ⟨hS3, hM3⟩) fun _ => ?_
      clear hK_ K_ z0 z1 z2 z3 z4 y0 y1 y2 y3 y4
      refine wpAnyH_take (i := 9) (v := ?_) rfl (by kernel_rfl) (by kernel_rfl) (by kernel_rfl) (fun _ _ _ h => h) (Or.inl ⟨by rfl, ?_⟩) (by exact ⟨hS3, hM3⟩) ?_
      rotate_left
      · (intro w_ hS_; clear hS_; go_simp; try with_reducible rfl)
      refine wpAnyH_done (by kernel_rfl) ?_ _
      have HZ3 := Lib.hid hZ3
      have HB3 := Lib.hid hB3
      clear hZ3 hB3 hS3 hM3
      go_wp2_with fail
      go_meet
      case rel => exact ⟨_, rfl, rfl, HZ3.out, HB3.out⟩
  case rest =>
    obtain ⟨R, rfl, rfl, HR, HB⟩ := hcut
    have hw0b : Below w.heap.size w w0 := by rw [HW0.out]; exact (Below.refl _ _).alloc (Nat.le_refl _) _
    have hBw := hw0b.trans (HB.out.mono (by rw [hx0.out]; omega))
    have hX : Blk wc w.heap.size 80 #[.int .i64 t.kind, .string (bs t.text), av] := Blk.below hx HB.out hx.lt
    have hbld := HH.out.below hBw
    have hbase : base ≤ w.heap.size := Nat.le_trans hB (Nat.le_of_lt HH.out.blk.lt)
    have HBW := Lib.hid hBw
    clear x1 hx hs0 hBw hw0b
    cases hq : ruleF t.text with
    | none =>
      have HF : Hid (closeF (u :: r) t = (u :: r, 40)) := by unfold Hid closeF; rw [hq]
      have hsome : (none : Option Rule).isSome = false := rfl
      clear hq hX
      have HBL := Lib.hid hbld
      clear hbld
      go_wp2_with fail
      go_quiet (fail)
      go_wp2_with fail
      go_ret
      rw [HF.out]
      exact step_same HBL.out (below_drewN (Below.refl _ _) _) HBW.out hbase
    | some q =>
      obtain ⟨rfl, rfl, rfl, rfl, rfl⟩ := HRQ.out q hq
      have HF : Hid (closeF (u :: r) t = if q.alone then (u :: r, 40) else if r = [] ∨ u.name ≠ t.text ∨ u.e.kind = 4 ∧ u.e.kids.length ≠ 2 ∨ u.e.kind = 7 ∧ u.e.kids.length = 0 then (u :: r, 42) else (putF r u.e, 0)) := by unfold Hid closeF; rw [hq]
      have hsome : (some q).isSome = true := rfl
      clear hq
      have HBL := Lib.hid hbld
      clear hbld
      go_wp2_with fail
      go_upto_region 3 with (fail)
      go_cut [24] from 16 to 25 (fun v wx => v = .bool q.alone ∧ Hid (Below w.heap.size w wx) ∧ Hid (Blk wx w.heap.size 80 #[.int .i64 t.kind, .string (bs t.text), av]))
      case first =>
        refine wp_region_held (S := (fun w' => Blk w' w.heap.size 80 #[.int .i64 t.kind, .string (bs t.text), av])) (by kernel_rfl) ?_
        change wpAnyH _ _ _ _ _ _ _ _ (World.drew _)
        refine wpAnyH_take (i := 0) (v := ?_) rfl (by kernel_rfl) (by kernel_rfl) (by kernel_rfl) (fun _ _ _ h => h) (Or.inl ⟨by rfl, ?_⟩) hX ?_
        rotate_left
        · (intro w_ hS_; obtain _s := hS_; go_simp; try with_reducible rfl)
        refine wpAnyH_take (i := 1) (v := ?_) rfl (by kernel_rfl) (by kernel_rfl) (by kernel_rfl) (fun _ _ _ h => h) (Or.inl ⟨by rfl, ?_⟩) hX ?_
        rotate_left
        · (intro w_ hS_; obtain _s := hS_; go_simp; try with_reducible rfl)
        refine wpAnyH_take (i := 2) (v := ?_) rfl (by kernel_rfl) (by kernel_rfl) (by kernel_rfl) (fun _ _ _ h => h) (Or.inl ⟨by rfl, ?_⟩) hX ?_
        rotate_left
        · (intro w_ hS_; obtain _s := hS_; go_simp; try with_reducible rfl)
        refine wpAnyH_take (i := 4) (v := ?_) rfl (by kernel_rfl) (by kernel_rfl) (by kernel_rfl) (fun _ _ _ h => h) (Or.inl ⟨by rfl, ?_⟩) hX ?_
        rotate_left
        · (intro w_ hS_; have s1 := Blk.cell hS_ 1; go_simp; try with_reducible rfl)
        refine wpAnyH_take (i := 5) (v := ?_) rfl (by kernel_rfl) (by kernel_rfl) (by kernel_rfl) (fun _ _ _ h => h) (Or.inl ⟨by rfl, ?_⟩) hX ?_
        rotate_left
        · (intro w_ hS_; have s1 := Blk.cell hS_ 1; go_simp; try with_reducible rfl)
        refine wpAnyH_ready (rs := [3]) (by kernel_rfl) (by simp) ?_
        refine AllReadyH.cons rfl (fun K_ hK_ => ?_) AllReadyH.nil
        go_simp
        refine (rules_calls wc.drew).mono ?_
        rintro en w3 ⟨rfl, hM, h3⟩
        obtain ⟨mb, hmb⟩ : ∃ mb, mb = wc.drew.heap.size := ⟨_, rfl⟩
        rw [← hmb] at hM ⊢
        clear hmb
        have hS3 : Blk w3 w.heap.size 80 #[.int .i64 t.kind, .string (bs t.text), av] := Blk.below (show Blk wc.drew _ _ _ from hX) h3 (Blk.lt hX)
        refine hK_.out _ _ (by exact hS3) fun _ => ?_
        clear hK_ K_
        refine wpAnyH_more (S' := fun w' => Blk w' w.heap.size 80 #[.int .i64 t.kind, .string (bs t.text), av] ∧ w'.ownsMap Tryz.prog 9 selfR mb 11 rulesD) (fun _ h => h.1) _ _ _ _ ?_
        refine wpAnyH_take (i := 6) (v := ?_) rfl (by kernel_rfl) (by kernel_rfl) (by kernel_rfl) (fun _ _ _ h => h) (Or.inl ⟨by rfl, ?_⟩) ⟨hS3, hM⟩ ?_
        rotate_left
        · (intro w_ hS_; have hl : (Instr.lookup 127 (.map (some mb)) (.string (bs t.text)) false).run Tryz.prog w_ = .ok (.agg #[.int .i64 q.kind, .bool q.alone, .int .i64 q.inn, .func (.func (takesOf q.kind)) #[] #[], .func (.func (needsOf q.kind)) #[] #[]]) w_ := by (rw [← HRV.out]; exact rules_look hS_.2 hs false)
           go_simp; try with_reducible rfl)
        go_simp
        refine wpAnyH_take (i := 7) (v := ?_) rfl (by kernel_rfl) (by kernel_rfl) (by kernel_rfl) (fun _ _ _ h => h) (Or.inl ⟨by rfl, ?_⟩) ⟨hS3, hM⟩ ?_
        rotate_left
        · (intro w_ hS_; have hfl : (Instr.field 125 (.agg #[.int .i64 q.kind, .bool q.alone, .int .i64 q.inn, .func (.func (takesOf q.kind)) #[] #[], .func (.func (needsOf q.kind)) #[] #[]]) 1).run Tryz.prog w_ = .ok (.bool q.alone) w_ := by kernel_rfl
           go_simp; try with_reducible rfl)
        refine wpAnyH_take (i := 8) (v := ?_) rfl (by kernel_rfl) (by kernel_rfl) (by kernel_rfl) (fun _ _ _ h => h) (Or.inl ⟨by rfl, ?_⟩) ⟨hS3, hM⟩ ?_
        rotate_left
        · (intro w_ hS_; obtain _s := hS_; go_simp; try with_reducible rfl)
        refine wpAnyH_done (by kernel_rfl) ?_ _
        have HB3 : Hid (Below w.heap.size w w3) := (HBW.out.drew).trans (h3.mono (B' := w.heap.size) HBW.out.size)
        have HS3 := Lib.hid hS3
        clear h3 hM hX
        go_wp2_with fail
        go_meet
        case rel => exact ⟨rfl, HB3.out, HS3.out⟩
      case rest =>
        obtain ⟨rfl, HB3, HX⟩ := hcut
        clear hX HB HR HBL
        have HBL := Lib.hid (HH.out.below HB3.out)
        cases hqa : q.alone with
        | true =>
          have HF2 : Hid (closeF (u :: r) t = (u :: r, 40)) := HF.out.trans (by rw [if_pos hqa])
          clear hqa
          go_wp2_with fail
          go_ret
          rw [HF2.out]
          exact step_same HBL.out (Below.refl _ _) HB3.out hbase
        | false =>
          have HF2 : Hid (closeF (u :: r) t = if r = [] ∨ u.name ≠ t.text ∨ u.e.kind = 4 ∧ u.e.kids.length ≠ 2 ∨ u.e.kind = 7 ∧ u.e.kids.length = 0 then (u :: r, 42) else (putF r u.e, 0)) := HF.out.trans (by rw [if_neg (by rw [hqa]; decide)])
          clear hqa HF
          obtain ⟨sb, cap, rfl, hcap, hcm, hsb, hbs⟩ := HBL.out.form
          obtain ⟨kvr, kv, rfl, hkr⟩ := HBL.out.kid
          rw [List.length_reverse] at *
          have b0 := HBL.out.blk.cell 0
          go_wp2_with fail
          refine (top_calls wc b0 hcap (by omega)).mono ?_
          rintro en w2 ⟨rfl, m, hw2⟩
          have hB2 : Below w.heap.size w w2 := by rw [hw2]; exact below_drewN HB3.out m
          have hX2 : Blk w2 w.heap.size 80 #[.int .i64 t.kind, .string (bs t.text), av] := by rw [hw2]; exact HX.out
          clear hw2 b0 HBL HX HB3 hsb
          have hbld := HH.out.below hB2
          obtain ⟨hkid, hkown⟩ := hbld.stk.kid r.reverse.length u kv (by simp) (by rw [List.length_reverse, ← hkr]; simp)
          obtain ⟨Ak, ck, rfl⟩ := hkid.form
          rw [List.length_map, List.length_reverse] at *
          have hrow := hbld.stk.row
          rw [List.length_append, List.length_singleton, List.length_reverse] at hrow
          have hat : ∀ j, j < 8 → w2.cell? ⟨sb, r.length * 8 + j, none⟩ = (levCells u (.slice Ak u.e.kids.length ck))[j]? := fun j hj => by
            rw [hrow.cellAt _ (by omega)]
            exact stk_at r.length j hj (by simp) (by rw [← hkr]; simp)
          have b0 := hbld.blk.cell 0
          have k0 : w2.cell? ⟨sb, r.length * 8, none⟩ = some (.int .i64 u.e.kind) := hat 0 (by omega)
          have k1 : w2.cell? ⟨sb, r.length * 8 + 1, none⟩ = some (.string (bs u.e.text)) := hat 1 (by omega)
          have k2 : w2.cell? ⟨sb, r.length * 8 + 2, none⟩ = some (.string (bs u.e.src)) := hat 2 (by omega)
          have k3 : w2.cell? ⟨sb, r.length * 8 + 3, none⟩ = some (.string (bs u.e.alt)) := hat 3 (by omega)
          have k4 : w2.cell? ⟨sb, r.length * 8 + 4, none⟩ = some (.bool u.e.soft) := hat 4 (by omega)
          have k5 : w2.cell? ⟨sb, r.length * 8 + 5, none⟩ = some (.string (bs u.e.test)) := hat 5 (by omega)
          have k6 : w2.cell? ⟨sb, r.length * 8 + 6, none⟩ = some (.slice Ak u.e.kids.length ck) := hat 6 (by omega)
          have k7 : w2.cell? ⟨sb, r.length * 8 + 7, none⟩ = some (.string (bs u.name)) := hat 7 (by omega)
          have HKD := Lib.hid hkid
          have HKO := Lib.hid hkown
          have HBD := Lib.hid hbld
          have HX2 := Lib.hid hX2
          have HB2 := Lib.hid hB2
          clear hat hrow hkid hkown hbld hX2 hB2
          go_upto_region 5 with (fail)
          obtain ⟨w4, hw4⟩ : ∃ w4, w4 = w2.alloc (.cells #[.int .i64 u.e.kind, .string (bs u.e.text), .string (bs u.e.src), .string (bs u.e.alt), .bool u.e.soft, .string (bs u.e.test), .slice Ak u.e.kids.length ck, .string (bs u.name)] 90) := ⟨_, rfl⟩
          have hB4 : Below w2.heap.size w2 w4 := by rw [hw4]; exact (Below.refl _ _).alloc (Nat.le_refl _) _
          have hL4 : Blk w4 w2.heap.size 90 #[.int .i64 u.e.kind, .string (bs u.e.text), .string (bs u.e.src), .string (bs u.e.alt), .bool u.e.soft, .string (bs u.e.test), .slice Ak u.e.kids.length ck, .string (bs u.name)] := by rw [hw4]; exact Blk.new w2 _ _
          rw [← hw4]
          have HB4 := Lib.hid hB4
          have HBD4 := Lib.hid (HBD.out.below hB4)
          have x1 := (HX2.out.below hB4 HX2.out.lt).cell 1
          have b0 := HBD4.out.blk.cell 0
          have l0 := hL4.cell 0
          have l6 := hL4.cell 6
          have l7 := hL4.cell 7
          have HL4 := Lib.hid hL4
          have HKD4 := Lib.hid (HKD.out.below hB4)
          have HLB : Hid (w2.heap.size ≠ B) := Nat.ne_of_gt HBD.out.blk.lt
          clear k0 k1 k2 k3 k4 k5 k6 k7 hw4 hB4 hL4 HBD HX2 HKD
          have HB24 : Hid (Below w.heap.size w w4) := HB2.out.trans (HB4.out.mono HB2.out.size)
          generalize w2.heap.size = lb at *
          have hne := name_beq u.name t.text
          obtain ⟨nb, hnb⟩ : ∃ nb, nb = (u.name == t.text) := ⟨_, rfl⟩
          rw [← hnb] at hne
          have hne2 : ((bs u.name).toList != (bs t.text).toList) = !nb := by rw [bne, hne]
          have HNB := Lib.hid hnb
          clear hnb
          go_upto_region 6 with (fail)
          go_cut [65] from 33 to 66 (fun v wx => ∃ c : Bool, Hid (c = true ↔ r = [] ∨ u.name ≠ t.text ∨ u.e.kind = 4 ∧ u.e.kids.length ≠ 2 ∨ u.e.kind = 7 ∧ u.e.kids.length = 0) ∧ v = .bool c ∧ wx = w4)
          case first =>
            by_cases hr0 : r = []
            · have HC : Hid (r = [] ∨ u.name ≠ t.text ∨ u.e.kind = 4 ∧ u.e.kids.length ≠ 2 ∨ u.e.kind = 7 ∧ u.e.kids.length = 0) := .inl hr0
              have hd : decide ((r.length : Int) + 1 < 2) = true := by rw [hr0]; rfl
              clear hr0
              go_wp2_with fail
              go_meet
              case rel => exact ⟨true, ⟨fun _ => HC.out, fun _ => rfl⟩, rfl, rfl⟩
            · have hd : decide ((r.length : Int) + 1 < 2) = false := by
                have := List.length_pos_iff.2 hr0
                rw [decide_eq_false_iff_not]; omega
              have HR0 := Lib.hid hr0
              clear hr0
              cases nb with
              | false =>
                have HC : Hid (r = [] ∨ u.name ≠ t.text ∨ u.e.kind = 4 ∧ u.e.kids.length ≠ 2 ∨ u.e.kind = 7 ∧ u.e.kids.length = 0) := .inr (.inl (by simpa using HNB.out.symm))
                go_wp2_with fail
                go_meet
                case rel => exact ⟨true, ⟨fun _ => HC.out, fun _ => rfl⟩, rfl, rfl⟩
              | true =>
                have hne3 : u.name = t.text := by simpa using HNB.out.symm
                have HNE := Lib.hid hne3
                clear hne3
                by_cases h4 : u.e.kind = 4
                · have hb4 : (u.e.kind == 4) = true := by rw [h4]; rfl
                  by_cases h2 : u.e.kids.length = 2
                  · have hb2 : ((u.e.kids.length : Int) != 2) = false := by rw [h2]; rfl
                    have hb7 : (u.e.kind == 7) = false := by rw [h4]; rfl
                    have HC : Hid (¬ (r = [] ∨ u.name ≠ t.text ∨ u.e.kind = 4 ∧ u.e.kids.length ≠ 2 ∨ u.e.kind = 7 ∧ u.e.kids.length = 0)) := by
                      rintro (h | h | h | h)
                      · exact HR0.out h
                      · exact h HNE.out
                      · exact h.2 h2
                      · omega
                    clear h4 h2
                    go_wp2_with fail
                    go_meet
                    case rel => exact ⟨false, ⟨(fun e => by cases e), (fun e => absurd e HC.out)⟩, rfl, rfl⟩
                  · have hb2 : ((u.e.kids.length : Int) != 2) = true := by rw [bne_iff_ne]; omega
                    have HC : Hid (r = [] ∨ u.name ≠ t.text ∨ u.e.kind = 4 ∧ u.e.kids.length ≠ 2 ∨ u.e.kind = 7 ∧ u.e.kids.length = 0) := .inr (.inr (.inl ⟨h4, h2⟩))
                    clear h4 h2
                    go_wp2_with fail
                    go_meet
                    case rel => exact ⟨true, ⟨fun _ => HC.out, fun _ => rfl⟩, rfl, rfl⟩
                · have hb4 : (u.e.kind == 4) = false := by rw [beq_eq_false_iff_ne]; exact h4
                  by_cases h7 : u.e.kind = 7
                  · have hb7 : (u.e.kind == 7) = true := by rw [h7]; rfl
                    by_cases h0 : u.e.kids.length = 0
                    · have hb0 : ((u.e.kids.length : Int) == 0) = true := by rw [h0]; rfl
                      have HC : Hid (r = [] ∨ u.name ≠ t.text ∨ u.e.kind = 4 ∧ u.e.kids.length ≠ 2 ∨ u.e.kind = 7 ∧ u.e.kids.length = 0) := .inr (.inr (.inr ⟨h7, h0⟩))
                      clear h4 h7 h0
                      go_wp2_with fail
                      go_meet
                      case rel => exact ⟨true, ⟨fun _ => HC.out, fun _ => rfl⟩, rfl, rfl⟩
                    · have hb0 : ((u.e.kids.length : Int) == 0) = false := by rw [beq_eq_false_iff_ne]; omega
                      have HC : Hid (¬ (r = [] ∨ u.name ≠ t.text ∨ u.e.kind = 4 ∧ u.e.kids.length ≠ 2 ∨ u.e.kind = 7 ∧ u.e.kids.length = 0)) := by
                        rintro (h | h | h | h)
                        · exact HR0.out h
                        · exact h HNE.out
                        · exact h4 h.1
                        · exact h0 h.2
                      clear h4 h7 h0
                      go_wp2_with fail
                      go_meet
                      case rel => exact ⟨false, ⟨(fun e => by cases e), (fun e => absurd e HC.out)⟩, rfl, rfl⟩
                  · have hb7 : (u.e.kind == 7) = false := by rw [beq_eq_false_iff_ne]; exact h7
                    have HC : Hid (¬ (r = [] ∨ u.name ≠ t.text ∨ u.e.kind = 4 ∧ u.e.kids.length ≠ 2 ∨ u.e.kind = 7 ∧ u.e.kids.length = 0)) := by
                      rintro (h | h | h | h)
                      · exact HR0.out h
                      · exact h HNE.out
                      · exact h4 h.1
                      · exact h7 h.1
                    clear h4 h7
                    go_wp2_with fail
                    go_meet
                    case rel => exact ⟨false, ⟨(fun e => by cases e), (fun e => absurd e HC.out)⟩, rfl, rfl⟩
          case rest =>
            obtain ⟨c, HC, rfl, rfl⟩ := hcut
            cases c with
            | true =>
              have HF3 : Hid (closeF (u :: r) t = (u :: r, 42)) := HF2.out.trans (if_pos (HC.out.1 rfl))
              go_wp2_with fail
              go_ret
              rw [HF3.out]
              exact step_same HBD4.out (Below.refl _ _) HB24.out hbase
            | false =>
              have hnc : ¬ (r = [] ∨ u.name ≠ t.text ∨ u.e.kind = 4 ∧ u.e.kids.length ≠ 2 ∨ u.e.kind = 7 ∧ u.e.kids.length = 0) := fun e => by have := HC.out.2 e; cases this
              have HF3 : Hid (closeF (u :: r) t = (putF r u.e, 0)) := HF2.out.trans (if_neg hnc)
              have hr1 : r ≠ [] := fun e => hnc (.inl e)
              clear hnc HF2 HC
              obtain ⟨x, r, rfl⟩ := List.exists_cons_of_ne_nil hr1
              clear hr1
              have hkx : x.e.kids.length ≤ 10000 := hk x (by simp)
              have hrl : r.length ≤ 100 := by rw [List.length_cons] at hr; omega
              obtain ⟨N, hN⟩ : ∃ N, N = (x :: r).length := ⟨_, rfl⟩
              have hst := HBD4.out.stk
              rw [← hN] at hr hcap hkr b0 HKO HKD4 hst HBD4 ⊢
              have e1 : (x :: r).reverse.length = N := by rw [List.length_reverse, hN]
              obtain ⟨own', hs1, hs2, hs3⟩ := Stk.pop (r := (x :: r).reverse) (kvr := kvr) (by rw [e1]; exact hst) (by rw [e1]; exact hkr)
              rw [e1] at hs1 hs2
              rw [List.reverse_cons] at hs1
              have hT : ∀ g, own g = some N → own' g = none ∧ sb ≠ g ∧ g ≠ B ∧ base ≤ g ∧ g < wc.heap.size := fun g hg => by
                refine ⟨hs2 g hg, ?_, ?_, (hst.lt g N hg).1, (hst.lt g N hg).2⟩
                · rintro rfl
                  have := hst.sep sb rfl
                  rw [this] at hg; cases hg
                · rintro rfl
                  have := HBD4.out.free
                  rw [this] at hg; cases hg
              have hE : GR wc (fun g => own g = some N) (.row 7 (u.e.kids.map Elem.gv)) [.slice Ak u.e.kids.length ck] := HKD4.out.gr (fun _ h => h) HKO.out
              have HS := Lib.hid hs1
              have HS3 := Lib.hid hs3
              have HT := Lib.hid hT
              have HE := Lib.hid hE
              have HBLK := Lib.hid HBD4.out.blk
              have HFR := Lib.hid (hs3 B HBD4.out.free)
              have HNE2 := Lib.hid HBD4.out.ne
              have HSL : Hid (base ≤ wc.heap.size) := Nat.le_trans hbase HB24.out.size
              clear hs1 hs2 hs3 hT hE hst e1 hN HBD4 HKD4 HKO HH hk hkr
              have hn1 : (0 : Int) ≤ (N : Int) := by omega
              have hn2 : (N : Int) ≤ (cap : Int) := by omega
              have hn3 : ((N : Int) + 1) - 1 = (N : Int) := by omega
              have hz0 := HBLK.out.frozen 0
              have hw1 : IntKind.i64.wrap (N : Int) = (N : Int) := IntWalk.i64_in _ (by omega)
              go_wp2_with fail
              refine wp_region_still_tail 14 (by kernel_rfl) (by kernel_rfl) ?_
              change wpStill _ _ (World.drew wc) (fun a' => wpList _ _ _ _ a' (World.drew wc)) _ _
              simp only [List.take_succ_cons, List.take_zero, List.drop_succ_cons, List.drop_zero]
              repeat still_step
              refine wpStill_nil ?_
              clear hw1
              go_upto_region 9 with (fail)
              obtain ⟨w5, hw5⟩ : ∃ W, W = (wc.setCell ⟨B, 0, none⟩ (.slice (some ⟨sb, 0, none⟩) N cap)).drew := ⟨_, rfl⟩
              rw [← hw5]
              have hg5 : wc.grownBy w5 (some B) := by rw [hw5]; exact grown_drewN (grown_setCell (p := ⟨B, 0, none⟩) (grown_refl _ _) (.inl rfl) _) 1
              have hb5 : Blk w5 B 86 #[.slice (some ⟨sb, 0, none⟩) N cap, .int .i64 0] := by rw [hw5]; exact HBLK.out.set_ 0 _
              have hbd5 : Bld w5 base B (.slice (some ⟨sb, 0, none⟩) N cap) (r.reverse ++ [x]) kvr own' := ⟨hb5, HS.out.kept hg5 (fun k hk => by injection hk with hk; subst hk; exact ⟨HFR.out, HNE2.out⟩), HFR.out, HNE2.out⟩
              have hL5 := HL4.out.grown hg5 (fun e => HLB.out (Option.some.inj e))
              have hE5 : GR w5 (fun g => own g = some N) (.row 7 (u.e.kids.map Elem.gv)) [.slice Ak u.e.kids.length ck] := GR.mono (fun _ h => h) (fun k hk hlt => hg5.block k hlt (fun e => (HT.out k hk).2.2.1 (Option.some.inj e))) _ _ HE.out
              have hT5 : ∀ g, own g = some N → own' g = none ∧ (Value.slice (some ⟨sb, 0, none⟩) N cap).ownBlock ≠ some g ∧ g ≠ B ∧ base ≤ g ∧ g < w5.heap.size := fun g hg => by
                obtain ⟨t1, t2, t3, t4, t5⟩ := HT.out g hg
                exact ⟨t1, (fun e => t2 (Option.some.inj e)), t3, t4, Nat.lt_of_lt_of_le t5 hg5.size⟩
              have HFR5 : Hid (Fr w w5 B (.slice (some ⟨sb, 0, none⟩) (N + 1) cap) own (.slice (some ⟨sb, 0, none⟩) N cap) own' (fun _ => False)) := by
                intro k hk hm _
                obtain ⟨m1, m2, m3⟩ := not_mine hm
                refine ⟨(hg5.block k (Nat.lt_of_lt_of_le hk HB24.out.size) (fun e => m3 (Option.some.inj e))).trans (HB24.out.block k hk), ?_⟩
                rintro (e | e | e)
                · exact e (HS3.out k m1)
                · exact m2 e
                · exact m3 e
              have HB5 : Hid (Below base wc w5) := below_of_grown hg5 HSL.out (fun k hk => by injection hk with hk; omega)
              have l0 := hL5.cell 0
              have l1 := hL5.cell 1
              have l2 := hL5.cell 2
              have l3 := hL5.cell 3
              have l4 := hL5.cell 4
              have l5 := hL5.cell 5
              have l6 := hL5.cell 6
              have HBD5 := Lib.hid hbd5
              have HE5 := Lib.hid hE5
              have HT5 := Lib.hid hT5
              have HSZ5 : Hid (w.heap.size ≤ w5.heap.size) := Nat.le_trans HB24.out.size hg5.size
              clear hw5 hg5 hb5 hbd5 hL5 hE5 hT5 b0 x1 l7
              go_wp2_with fail
              refine (put_calls u.e (.slice Ak u.e.kids.length ck) w5 HBD5.out (by rw [List.length_reverse]; omega) hkx (T := fun g => own g = some N) HE5.out HT5.out hB).mono ?_
              rintro en w6 ⟨rfl, h1, h2⟩
              have H1 := Lib.hid h1
              have H2 := Lib.hid h2
              clear h1 h2
              go_wp2_with fail
              go_ret
              rw [HF3.out]
              refine ⟨rfl, ?_, (HB24.out.mono hbase).trans (HB5.out.trans H2.out)⟩
              rw [putF_rev]
              obtain ⟨v6, kvs6, own6, b6, f6⟩ := H1.out
              exact ⟨v6, kvs6, own6, b6, HFR5.out.trans f6 HSZ5.out (fun k hm _ e => by rw [(not_mine hm).1] at e; cases e)⟩
end Go.Proofs.YtijpfcjlochahaaGreatDoor
