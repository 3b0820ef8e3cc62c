/- Plain: a page that is parted in pieces, and built of all tokens, is read as at once. No program is named here. The walk of intarsiatop.TopPieces. -/
import Derived.Test.YtijpfcjlochahaaGreatDoorPDoc
import Derived.Test.YtijpfcjlochahaaGreatDoorTopA
import Derived.Test.YtijpfcjlochahaaGreatDoorLexJ
import Derived.Test.YtijpfcjlochahaaGreatDoorApp
import Derived.Test.YtijpfcjlochahaaGreatDoorRLk
import Derived.Deep.CutRange
set_option linter.unusedVariables false
set_option linter.unusedSimpArgs false
namespace Go.Proofs.YtijpfcjlochahaaGreatDoor
open Go Go.RowKit

theorem known_plain {t : Token} (h : PlainT t) : knownF t = t := by
  unfold knownF
  rcases h with ⟨h1, h2⟩ | h
  · obtain ⟨k, tx, at_⟩ := t
    simp only at h1 h2
    subst h1 h2
    rfl
  · rw [if_pos h]
theorem map_known : ∀ {l : List Token}, (∀ t ∈ l, PlainT t) → l.map knownF = l
  | [], _ => rfl
  | t :: l, h => by
    rw [List.map_cons, known_plain (h t (by simp)), map_known (fun u hu => h u (by simp [hu]))]
theorem build_same {a b : List Token} (h : joinedF a = joinedF b) : buildF a = buildF b := by
  unfold buildF
  rw [h]
theorem pieces_read {s : List UInt8} {x : LexSt} {out : List Token} (h : Fed s x out) (hp : ∀ t ∈ out, PlainT t) :
    readF s = if (endF x).2 ≠ 0 then ([], (endF x).2) else buildF (out ++ (endF x).1) := by
  have he := h.end_
  have hpl := allF_plain s
  have hjo := allF_joined s
  have hk : ∀ t ∈ out ++ (endF x).1, PlainT t := fun t ht => (List.mem_append.1 ht).elim (hp t) (endF_plain x t)
  generalize endF x = y at *
  obtain ⟨et, ee⟩ := y
  simp only at he hk ⊢
  unfold readF
  by_cases h0 : ee = 0
  · subst h0
    rw [if_neg (fun h => h rfl)] at he
    rw [he] at hpl hjo ⊢
    rw [if_neg (fun h => h rfl), if_neg (fun h => h rfl)]
    apply build_same
    rw [joinedF_id hpl hjo]
    show _ = joinF ((out ++ et).map knownF)
    rw [map_known hk]
  · rw [if_pos h0] at he ⊢
    rw [he, if_pos h0]
theorem pieces_bad {p q c : List UInt8} {x : LexSt} {out : List Token} (h : Fed p x out) (he : (feedF x q).2.2 ≠ 0) : readF (p ++ q ++ c) = ([], (feedF x q).2.2) := by
  have hb := h.bad q c he
  unfold readF
  rw [hb, if_pos (by simpa using he)]
end Go.Proofs.YtijpfcjlochahaaGreatDoor
namespace Go.Proofs.YtijpfcjlochahaaGreatDoor
open Go Go.RowKit
set_option linter.unusedVariables false
set_option linter.unusedSimpArgs false

theorem intTy : ElemTy Tryz.prog 46 3 1 8 := by
  obtain ⟨i0, hi, hz0, hz1, hz2⟩ := info_parts (show (Tryz.prog.info? 3).map (fun i => (i.zero, i.size, i.bytes)) = some (some (.int .i64 0), 1, 8) by kernel_rfl)
  exact ⟨i0, _, Tryz.underlying46, hi, hz0, hz1, hz2, rfl, by omega⟩

theorem ints_any {w w' : World} {F F' : Nat → Prop} : ∀ {l : List Int} {xs : List Value}, GRl w F 1 (l.map .int) xs → GRl w' F' 1 (l.map .int) xs
  | [], xs, h => h
  | x :: l, xs, h => by
    obtain ⟨a, b, rfl, h1, h2, h3⟩ := GRl_cons.1 h
    exact GRl_cons.2 ⟨a, b, rfl, h1, GR_int.2 (GR_int.1 h2), ints_any h3⟩
theorem ints_row {w : World} {F : Nat → Prop} : ∀ l : List Int, GRl w F 1 (l.map .int) (l.map (Value.int .i64))
  | [] => GRl_nil.2 rfl
  | x :: l => GRl_cons.2 ⟨[.int .i64 x], l.map (Value.int .i64), rfl, rfl, GR_int.2 rfl, ints_row l⟩
theorem ints_cells {w : World} {F : Nat → Prop} : ∀ {l : List Int} {xs : List Value}, GRl w F 1 (l.map .int) xs → xs = l.map (Value.int .i64)
  | [], xs, h => GRl_nil.1 h
  | x :: l, xs, h => by
    obtain ⟨a, b, rfl, h1, h2, h3⟩ := GRl_cons.1 h
    rw [GR_int.1 h2, ints_cells h3]; rfl
theorem Cells.take_ {w w' : World} {F : Nat → Prop} {A : Option Addr} {xs : List Value} (h : Cells w F A xs) (n : Nat) (hw : Below w.heap.size w w') : Cells w' (fun _ => True) A (xs.take n) := by
  intro hne
  obtain ⟨b, o, ha, hb, hc⟩ := h (by rintro rfl; simp at hne)
  refine ⟨b, o, ha, trivial, fun j u hu => ?_⟩
  have hx : xs[j]? = some u := by
    rw [List.getElem?_take] at hu
    split at hu
    · exact hu
    · cases hu
  have e := hc j u hx
  exact (hw.cell (World.block_lt_of_cell? w _ e)).trans e
theorem one_int {w4 : World} {base : Nat} {v : Value} {G : Nat → Prop} {l : List GV} (z : Int) (h : OwnR w4 base 3 1 G v l) :
    OwnR (w4.alloc (.cells #[.int .i64 z] 3)) base 3 1 G v l ∧ Cells (w4.alloc (.cells #[.int .i64 z] 3)) (fun _ => True) (some ⟨w4.heap.size, 0, none⟩) [.int .i64 z] ∧
    GRl (w4.alloc (.cells #[.int .i64 z] 3)) (fun k => G k ∧ some k ≠ v.ownBlock) 1 [.int z] [.int .i64 z] :=
  ⟨h.below ((Below.refl _ _).alloc (Nat.le_refl _) _), cells_new (Blk.new w4 3 [.int .i64 z].toArray), GRl_one (GR_int.2 rfl) rfl⟩

theorem feed_parts (x : LexSt) (q : List UInt8) : ∃ yr yi toks err, feedF x q = (⟨yr, yi⟩, toks, err) := ⟨_, _, _, _, rfl⟩
theorem feed_calls2 (rest s : ByteArray) (b : Bool) (w : World) (hsz : rest.size + s.size ≤ 1000000) {yr : List UInt8} {yi : Bool} {toks : List Token} {err : Int} (h : feedF ⟨L rest, b⟩ (L s) = (⟨yr, yi⟩, toks, err)) :
    Calls Tryz.prog 18 #[.agg #[.string rest, .bool b], .string s] w fun e w' =>
      ∃ v, e = .returned (.tuple #[.agg #[.string (bs yr), .bool yi], v, .int .i64 err]) ∧ OwnR w' w.heap.size 80 3 (fun g => w.heap.size ≤ g) v (toks.map Token.gv) ∧ Below w.heap.size w w' := by
  have := feed_calls rest s b w hsz
  rw [h] at this
  exact this
theorem feed_rel {w w9 : World} {t e : TypeId} {c0 c1 v : Value} {l : List GV} (hb : Below (w.alloc (.cells #[c0, c1] t)).heap.size (w.alloc (.cells #[c0, c1] t)) w9)
    (hown : OwnR w9 (w.alloc (.cells #[c0, c1] t)).heap.size e 3 (fun g => (w.alloc (.cells #[c0, c1] t)).heap.size ≤ g) v l) (x0 x1 : Value) :
    Blk (set2 w9 w.heap.size x0 x1) w.heap.size t #[x0, x1] ∧ GR (set2 w9 w.heap.size x0 x1) (fun g => w.heap.size ≤ g) (.row 3 l) [v] ∧ Below w.heap.size w (set2 w9 w.heap.size x0 x1) := by
  have h0 : Blk w9 w.heap.size t #[c0, c1] := Blk.below (Blk.new w t #[c0, c1]) hb (by rw [size_alloc]; omega)
  have h1 : Below w.heap.size w w9 := ((Below.refl w.heap.size w).alloc (Nat.le_refl _) (.cells #[c0, c1] t)).trans (hb.mono (by rw [size_alloc]; omega))
  have hs := size_alloc w (.cells #[c0, c1] t)
  generalize w.alloc (.cells #[c0, c1] t) = w1 at *
  have hg : w9.grownBy (set2 w9 w.heap.size x0 x1) (some w.heap.size) := set2_grown (grown_refl _ _) (.inl rfl) _ _
  have hB : Blk (set2 w9 w.heap.size x0 x1) w.heap.size t #[x0, x1] := (h0.set_ 0 x0).set_ 1 x1
  generalize set2 w9 w.heap.size x0 x1 = W at *
  have ho : v.ownBlock ≠ some w.heap.size := hown.ne (by omega)
  have h2 := hown.kept hg (.inr ho) (fun k hk => by have hk : w1.heap.size ≤ k := hk; simp; omega)
  refine ⟨hB, h2.gr (fun k hk => by have hk : w1.heap.size ≤ k := hk; show w.heap.size ≤ k; omega) (fun k hk => by have := (h2.lt k hk).1; omega), ?_⟩
  exact h1.trans (below_of_grown hg h1.size (fun k hk => by injection hk with hk; omega))
theorem cuts_push {wo w9 : World} {X : Nat} {t e : TypeId} {c0 c1 v : Value} {l : List GV} (hb : Blk w9 X t #[c0, c1]) (hown : OwnR w9 wo.heap.size e 3 (fun g => wo.heap.size ≤ g) v l) (hg : wo.grownBy w9 (some X)) (hX : X < wo.heap.size) (x0 x1 : Value) :
    Blk (set2 w9 X x0 x1) X t #[x0, x1] ∧ OwnR (set2 w9 X x0 x1) wo.heap.size e 3 (fun g => wo.heap.size ≤ g) v l ∧ wo.grownBy (set2 w9 X x0 x1) (some X) := by
  have h1 : w9.grownBy (set2 w9 X x0 x1) (some X) := set2_grown (grown_refl _ _) (.inl rfl) _ _
  refine ⟨(hb.set_ 0 x0).set_ 1 x1, hown.kept h1 (.inr (hown.ne hX)) (fun k hk => by have hk : wo.heap.size ≤ k := hk; simp; omega), set2_grown hg (.inl rfl) _ _⟩
theorem cut3 (l : List UInt8) (n a : Nat) (h : n ≤ a) : l = l.take n ++ (l.take a).drop n ++ l.drop a := by
  have e : l.take n = (l.take a).take n := by rw [List.take_take, Nat.min_eq_left h]
  rw [e, List.take_append_drop, List.take_append_drop]

theorem feedF_attrs (x : LexSt) (s : List UInt8) : ∀ t ∈ (feedF x s).2.1, t.attrs.length ≤ 8 := by
  unfold feedF
  split
  · exact feedLoop_attrs _ _ _ _ (by simp)
  · intro t ht; cases ht
theorem endF_attrs (x : LexSt) : ∀ t ∈ (endF x).1, t.attrs.length ≤ 8 := by
  unfold endF
  split
  · split
    · intro t ht; cases ht
    · split
      · intro t ht; cases ht
      · intro t ht
        rw [List.mem_singleton] at ht; subst ht; exact Nat.zero_le _
  · intro t ht; cases ht
/-- What all tokens of a page that is fed are. -/
def Good (o : List Token) : Prop := (∀ t ∈ o, PlainT t) ∧ ∀ t ∈ o, t.attrs.length ≤ 8
theorem Good.append {a b : List Token} (h : Good a) (k : Good b) : Good (a ++ b) :=
  ⟨fun t ht => (List.mem_append.1 ht).elim (h.1 t) (k.1 t), fun t ht => (List.mem_append.1 ht).elim (h.2 t) (k.2 t)⟩
theorem pieces_below {w w1 wo wc wd : World} {X : Nat} (hb1 : Below w.heap.size w w1) (HB : Below w1.heap.size w1 wo) (hX : w.heap.size ≤ X) (hg : wo.grownBy wc (some X)) (hd : Below wc.heap.size wc wd) : Below w.heap.size w wd := by
  have h1 := hb1.size
  have h2 := HB.size
  have h3 := hg.size
  exact (hb1.trans (HB.mono h1)).trans ((below_of_grown hg (by omega) (fun k hk => by injection hk with hk; omega)).trans (hd.mono (by omega)))
set_option maxRecDepth 20000 in
set_option maxHeartbeats 16000000 in
theorem topPieces_calls (s : ByteArray) (cuts : List Int) (v : Value) (F : Nat → Prop) (w : World) (hg : Glob w) (hv : GR w F (.row 1 (cuts.map .int)) [v]) :
    Calls Tryz.prog 4 #[.string s, v] w fun e w' => e = .returned (.bool true) ∧ Below w.heap.size w w' := by
  obtain ⟨A, c, xs, h1, hlc, hcm, hxl, hxc, hxr⟩ := GR_row.1 hv
  simp only [List.cons.injEq, and_true, List.length_map] at h1
  subst h1
  rw [List.length_map] at hlc hxl
  obtain ⟨s0, hs0⟩ : ∃ s0, s0 = s.extract 0 (min s.size 2000) := ⟨_, rfl⟩
  go_enter Tryz.func4, Tryz.ntmps4
  go_upto_region 1 with (fail)
  go_cut [0] from 20 to 25 (fun v wx => v = .string s0 ∧ wx = w)
  case first =>
    go_wp2_with fail
    go_meet
    case rel =>
      refine ⟨congrArg Value.string ?_, rfl⟩
      rw [hs0]
      exact L_ext (by rw [L_extract, L_extract]; congr 2; omega)
  case rest =>
    obtain ⟨rfl, hww⟩ := hcut
    have hww := hww.symm
    subst hww
    have hs1 : s0.size ≤ 2000 := by rw [hs0, ByteArray.size_extract]; omega
    clear hs0
    have HG0 := Lib.hid hg
    clear hg
    have hal0 : Below w.heap.size w (w.alloc (.cells #[.string ⟨#[]⟩, .bool false] 48)) := (Below.refl _ _).alloc (Nat.le_refl _) _
    have hx00 := Blk.new w 48 #[.string ⟨#[]⟩, .bool false]
    have hsA := size_alloc w (.cells #[.string ⟨#[]⟩, .bool false] 48)
    have HRD := Lib.hid (read_calls s0 (w.alloc (.cells #[.string ⟨#[]⟩, .bool false] 48)) (by omega))
    obtain ⟨af, haf⟩ : ∃ af, af = readF (L s0) := ⟨_, rfl⟩
    rw [← haf] at HRD
    have HALL := Lib.hid haf
    clear haf
    obtain ⟨want, bad⟩ := af
    unfold BuildPost at HRD
    simp only at HRD
    go_wp2_with fail
    refine HRD.out.mono ?_
    rintro e w1 ⟨vw, rfl, hgw, hbA⟩
    obtain ⟨AW, cw, rfl, -⟩ := elems_open hgw
    have hb1 := hal0.trans (hbA.mono hal0.size)
    have HX0 := Lib.hid (hx00.below hbA hx00.lt)
    have hXlt : w.heap.size < w1.heap.size := by have := hbA.size; omega
    have HGW := Lib.hid (hgw.weaken (F' := fun k => k ≠ w.heap.size) (fun k hk => by have hk : _ ≤ k := hk; omega))
    have HXLT := Lib.hid hXlt
    clear hgw hal0 hx00 hsA hbA hXlt HRD
    go_upto_region 6 with (fail)
    go_cut [40, 41, 42] from 20 to 42 (fun r n i wx => ∃ (B : Option Addr) (cs : List Int) (cc : Nat), r = .slice B cs.length cc ∧ n = .int .i64 cs.length ∧ i = .int .i64 0 ∧ Hid (GR wx (fun g => w1.heap.size ≤ g) (.row 1 (cs.map .int)) [r]) ∧
      Hid (∃ pre, cs = pre ++ [(s0.size : Int)]) ∧ Hid (cs.length ≤ 31) ∧ Hid (Below w1.heap.size w1 wx))
    case first =>
      have hbw : Below w.heap.size w (w1.alloc (.cells #[] 3)) := hb1.alloc hb1.size _
      have hsz2 := size_alloc w1 (.cells #[] 3)
      have HOW1 : Hid (OwnR (w1.alloc (.cells #[] 3)) (w1.heap.size) 3 1 (fun g => w1.heap.size ≤ g) (.slice (some ⟨w1.heap.size, 0, none⟩) 0 0) []) := by
        have := World.ownsRow_made (base := w1.heap.size) (e := 3) (size := 1) w1 #[] 0 (Nat.le_refl _) (by simp [maxLen]) (by simp)
        exact ⟨[], this, GRl_nil.2 rfl⟩
      by_cases h30 : 30 < cuts.length
      · have hpl : (cuts.take 30).length = 30 := by rw [List.length_take]; omega
        have hmin : min (cuts.length : Int) 30 = 30 := by omega
        have HC1 := Lib.hid (Cells.take_ hxc 30 hbw)
        have HG1 : Hid (GRl (w1.alloc (.cells #[] 3)) (fun k => (w1.heap.size ≤ k) ∧ some k ≠ (Value.slice (some ⟨w1.heap.size, 0, none⟩) 0 0).ownBlock) 1 ((cuts.take 30).map .int) (xs.take 30)) := by
          have := GRl.take hxr 30
          rw [← List.map_take, Nat.mul_one] at this
          exact ints_any this
        have HL1 : Hid (30 = ((cuts.take 30).map GV.int).length ∧ ([] : List GV).length + ((cuts.take 30).map GV.int).length ≤ maxLen ∧ (([] : List GV).length + ((cuts.take 30).map GV.int).length) * 8 ≤ 140737488355328 ∧
          w1.heap.size ≤ (w1.alloc (.cells #[] 3)).heap.size ∧ 30 = (([] : List GV) ++ (cuts.take 30).map GV.int).length) := by
          rw [List.length_append, List.length_map, hpl]
          exact ⟨rfl, by simp [maxLen] <;> omega, by simp <;> omega, by omega, by simp⟩
        have HPL := Lib.hid hpl
        have HS2 := Lib.hid hsz2
        have HN : Hid (30 ≤ 30) := by rw [Hid]; omega
        have hcap : ((cuts.take 30).length : Int) ≤ (c : Int) := by rw [hpl]; omega
        rw [hpl] at hcap
        clear hxc hxr hbw hlc hxl hsz2 hpl
        go_wp2_with (first
          | (at_builtin; (refine wpList_append_S rfl _ _ _ rfl intTy rfl HOW1.out HL1.out.1 rfl HC1.out HG1.out HL1.out.2.1 HL1.out.2.2.1 HL1.out.2.2.2.1 HL1.out.2.2.2.2 ?_); intro A4 c4 w4 hown hgr hor; rw [List.nil_append] at hown; have HW4 := Lib.hid hown; have HGR4 := Lib.hid hgr; clear hown hgr hor)
          | (at_builtin; go_loud (refine wpList_append_S (k := 30 + 1) (v := .slice A4 30 c4) (G := fun g => w1.heap.size ≤ g) (l := (cuts.take 30).map .int) (m := [.int (s0.size : Int)]) (n := 1) (A := some ⟨w4.heap.size, 0, none⟩) (c := 1) rfl _ _ _ rfl intTy rfl (one_int (s0.size : Int) HW4.out).1 rfl rfl (one_int (s0.size : Int) HW4.out).2.1 (one_int (s0.size : Int) HW4.out).2.2 (by have := HN.out; rw [List.length_map, HPL.out]; simp [maxLen] <;> omega) (by have := HN.out; rw [List.length_map, HPL.out]; simp <;> omega) (by have h1 := HGR4.out.size; rw [HS2.out] at h1; rw [size_alloc]; omega) (by rw [List.length_append, List.length_map, HPL.out]; rfl) ?_); intro A5 c5 w5 hown hgr hor; have HW5 := Lib.hid hown; have HGR5 := Lib.hid hgr; clear hown hgr hor))
        go_meet
        case rel =>
          have hln : (cuts.take 30 ++ [(s0.size : Int)]).length = 30 + 1 := by rw [List.length_append, HPL.out]; rfl
          refine ⟨A5, cuts.take 30 ++ [(s0.size : Int)], c5, by rw [hln], by rw [hln]; rfl, rfl, ?_, ⟨_, rfl⟩, ?_, ?_⟩
          · have hg := HW5.out.gr (F := fun g => w1.heap.size ≤ g) (fun _ h => h) (fun k hk => (HW5.out.lt k hk).1)
            rw [Hid, List.map_append]
            exact hg
          · have := HN.out
            rw [Hid, hln]; omega
          · have z1 : Below (w1.heap.size) w1 (w1.alloc (.cells #[] 3)) := (Below.refl _ _).alloc (Nat.le_refl _) _
            have z2 : (w1.alloc (.cells #[] 3)).heap.size = w1.heap.size + 1 := by rw [HS2.out]
            have z3 := HGR4.out.size
            have z4 := z1.trans (below_of_grown HGR4.out (by omega) (fun k hk => (HOW1.out.lt k hk).1))
            have z5 := z4.alloc (by omega) (.cells #[.int .i64 (s0.size : Int)] 3)
            exact z5.trans (below_of_grown HGR5.out (by rw [size_alloc]; omega) (fun k hk => (HW4.out.lt k hk).1))
      · have hpl : (cuts.take cuts.length).length = cuts.length := by rw [List.take_length]
        have hmin : min (cuts.length : Int) 30 = (cuts.length : Int) := by omega
        have HC1 := Lib.hid (Cells.take_ hxc cuts.length hbw)
        have HG1 : Hid (GRl (w1.alloc (.cells #[] 3)) (fun k => (w1.heap.size ≤ k) ∧ some k ≠ (Value.slice (some ⟨w1.heap.size, 0, none⟩) 0 0).ownBlock) 1 ((cuts.take cuts.length).map .int) (xs.take cuts.length)) := by
          have := GRl.take hxr cuts.length
          rw [← List.map_take, Nat.mul_one] at this
          exact ints_any this
        have HL1 : Hid (cuts.length = ((cuts.take cuts.length).map GV.int).length ∧ ([] : List GV).length + ((cuts.take cuts.length).map GV.int).length ≤ maxLen ∧ (([] : List GV).length + ((cuts.take cuts.length).map GV.int).length) * 8 ≤ 140737488355328 ∧
          w1.heap.size ≤ (w1.alloc (.cells #[] 3)).heap.size ∧ cuts.length = (([] : List GV) ++ (cuts.take cuts.length).map GV.int).length) := by
          rw [List.length_append, List.length_map, hpl]
          exact ⟨rfl, by simp [maxLen] <;> omega, by simp <;> omega, by omega, by simp⟩
        have HPL := Lib.hid hpl
        have HS2 := Lib.hid hsz2
        have HN : Hid (cuts.length ≤ 30) := by rw [Hid]; omega
        have hcap : ((cuts.take cuts.length).length : Int) ≤ (c : Int) := by rw [hpl]; omega
        rw [hpl] at hcap
        clear hxc hxr hbw hlc hxl hsz2 hpl
        go_wp2_with (first
          | (at_builtin; (refine wpList_append_S rfl _ _ _ rfl intTy rfl HOW1.out HL1.out.1 rfl HC1.out HG1.out HL1.out.2.1 HL1.out.2.2.1 HL1.out.2.2.2.1 HL1.out.2.2.2.2 ?_); intro A4 c4 w4 hown hgr hor; rw [List.nil_append] at hown; have HW4 := Lib.hid hown; have HGR4 := Lib.hid hgr; clear hown hgr hor)
          | (at_builtin; go_loud (refine wpList_append_S (k := cuts.length + 1) (v := .slice A4 cuts.length c4) (G := fun g => w1.heap.size ≤ g) (l := (cuts.take cuts.length).map .int) (m := [.int (s0.size : Int)]) (n := 1) (A := some ⟨w4.heap.size, 0, none⟩) (c := 1) rfl _ _ _ rfl intTy rfl (one_int (s0.size : Int) HW4.out).1 rfl rfl (one_int (s0.size : Int) HW4.out).2.1 (one_int (s0.size : Int) HW4.out).2.2 (by have := HN.out; rw [List.length_map, HPL.out]; simp [maxLen] <;> omega) (by have := HN.out; rw [List.length_map, HPL.out]; simp <;> omega) (by have h1 := HGR4.out.size; rw [HS2.out] at h1; rw [size_alloc]; omega) (by rw [List.length_append, List.length_map, HPL.out]; rfl) ?_); intro A5 c5 w5 hown hgr hor; have HW5 := Lib.hid hown; have HGR5 := Lib.hid hgr; clear hown hgr hor))
        go_meet
        case rel =>
          have hln : (cuts.take cuts.length ++ [(s0.size : Int)]).length = cuts.length + 1 := by rw [List.length_append, HPL.out]; rfl
          refine ⟨A5, cuts.take cuts.length ++ [(s0.size : Int)], c5, by rw [hln], by rw [hln]; rfl, rfl, ?_, ⟨_, rfl⟩, ?_, ?_⟩
          · have hg := HW5.out.gr (F := fun g => w1.heap.size ≤ g) (fun _ h => h) (fun k hk => (HW5.out.lt k hk).1)
            rw [Hid, List.map_append]
            exact hg
          · have := HN.out
            rw [Hid, hln]; omega
          · have z1 : Below (w1.heap.size) w1 (w1.alloc (.cells #[] 3)) := (Below.refl _ _).alloc (Nat.le_refl _) _
            have z2 : (w1.alloc (.cells #[] 3)).heap.size = w1.heap.size + 1 := by rw [HS2.out]
            have z3 := HGR4.out.size
            have z4 := z1.trans (below_of_grown HGR4.out (by omega) (fun k hk => (HOW1.out.lt k hk).1))
            have z5 := z4.alloc (by omega) (.cells #[.int .i64 (s0.size : Int)] 3)
            exact z5.trans (below_of_grown HGR5.out (by rw [size_alloc]; omega) (fun k hk => (HW4.out.lt k hk).1))
    case rest =>
      obtain ⟨B, cs, cc, rfl, rfl, rfl, HCS, HPRE, HLEN, HB⟩ := hcut
      obtain ⟨wo, rfl⟩ : ∃ wo : World, wo = wc := ⟨_, rfl⟩
      obtain ⟨pre, hpre⟩ := HPRE.out
      have hcl : cs.length = pre.length + 1 := by rw [hpre]; simp
      have HLAST : Hid (cs[pre.length]? = some (s0.size : Int)) := by rw [Hid, hpre]; simp
      clear hpre HPRE
      obtain ⟨B', c', zs, hz1, hz5, hz6⟩ := row_parts HCS.out
      obtain rfl := ints_cells hz6
      injection hz1 with e1 e2 e3
      subst e1
      have HZ := Lib.hid hz5
      clear hz5 hz6 e2 e3
      have HX1 := Lib.hid (HX0.out.below HB.out HX0.out.lt)
      have HGW1 := Lib.hid (HGW.out.below HB.out)
      have HXW : Hid (w.heap.size < wo.heap.size) := Nat.lt_of_lt_of_le HXLT.out HB.out.size
      have HB1 := Lib.hid hb1
      obtain ⟨X, hX⟩ : ∃ X, X = w.heap.size := ⟨_, rfl⟩
      rw [← hX] at HX1 HGW1 HXW HXLT ⊢
      have HBW : Hid (w.heap.size ≤ X) := by rw [hX]; exact Nat.le_refl _
      clear HX0 HGW hb1
      go_wp2_with fail
      go_loopw [6, 7, 11, 12, 13, 14, 15, 42] (fun ov dv _ _ _ _ _ i wr => ∃ (k n : Nat) (x : LexSt) (o : List Token) (A8 : Option Addr) (c8 : Nat), ov = .slice A8 o.length c8 ∧ k ≤ cs.length ∧ i = .int .i64 k ∧ dv = .int .i64 n ∧ n ≤ s0.size ∧ Hid (k = cs.length → n = s0.size) ∧
          Blk wr X 48 #[.string (bs x.rest), .bool x.inside] ∧ OwnR wr wo.heap.size 80 3 (fun g => wo.heap.size ≤ g) (.slice A8 o.length c8) (o.map Token.gv) ∧ wo.grownBy wr (some X) ∧ Hid (Fed ((L s0).take n) x o) ∧ Hid (Good o))
        (fun _ _ _ _ _ _ _ i wr => cs.length - (intOf i).toNat)
      case atStart =>
        refine ⟨0, 0, ⟨[], false⟩, [], none, 0, rfl, Nat.zero_le _, rfl, rfl, Nat.zero_le _, fun h => by omega, HX1.out, OwnR.nil _ _ _ _ _, grown_refl _ _, ?_, ⟨fun t ht => (by cases ht), fun t ht => (by cases ht)⟩⟩
        rw [Hid, List.take_zero]; exact fed_start
      case round =>
        obtain ⟨k, n, x, o, A8, c8, rfl, hk, rfl, rfl, hn, HKN, hbx, ho, hg, HF, HGO⟩ := hrel
        by_cases hlt : k < cs.length
        · have HLT := Lib.hid hlt
          have h31 : cs.length ≤ 31 := HLEN.out
          obtain ⟨bz, oz, rfl, hbx1, hzc⟩ := HZ.out (by intro e; rw [List.map_eq_nil_iff] at e; rw [e] at hlt; simp at hlt)
          have c0 := hzc k (.int .i64 cs[k]) (by rw [List.getElem?_map, List.getElem?_eq_getElem hlt]; rfl)
          have hgs := hg.size
          have hbzw : bz < wo.heap.size := World.block_lt_of_cell? wo _ c0
          have c1 : wr.cell? ⟨bz, oz + k, none⟩ = some (.int .i64 cs[k]) := by
            have hne : some bz ≠ some X := by
              intro e
              injection e with e
              have := HXLT.out
              omega
            rw [World.cell?_of_block (w := wo) (a := ⟨bz, oz + k, none⟩) (hg.block bz hbzw hne)]
            exact c0
          have HLK : Hid (k = pre.length → cs[k] = (s0.size : Int)) := by
            intro e
            have h2 := HLAST.out
            rw [← e, List.getElem?_eq_getElem hlt] at h2
            exact Option.some.inj h2
          generalize cs[k] = z at *
          have HGS := Lib.hid hgs
          have HCL := Lib.hid hcl
          have HX := Lib.hid hX
          clear c0 hzc hgs hcl hX
          go_upto_region 9 with (fail)
          go_cut [12] from 43 to 75 (fun av wx => ∃ a : Nat, av = .int .i64 a ∧ n ≤ a ∧ a ≤ s0.size ∧ Hid (k + 1 = cs.length → a = s0.size) ∧ wx = wr)
          case first =>
            go_wp2_with fail
            go_meet
            case rel =>
              refine ⟨(min (max z (n : Int)) (s0.size : Int)).toNat, congrArg (Value.int .i64) (by omega), by omega, by omega, fun e => ?_, (by first | exact trivial | exact rfl)⟩
              have := HLK.out (by have := HCL.out; omega)
              omega
          case rest =>
            obtain ⟨a, rfl, hna, has, HKA, rfl⟩ := hcut
            obtain ⟨wr, rfl⟩ : ∃ wr : World, wr = wc := ⟨_, rfl⟩
            go_upto_region 10 with (fail)
            have hfl := HF.out.len
            rw [List.length_take, ← size_L] at hfl
            have hfz : (bs x.rest).size + (s0.extract n a).size ≤ 1000000 := by rw [size_bs, ByteArray.size_extract]; omega
            have HFZ := Lib.hid hfz
            have q0 := hbx.cell 0
            have q1 := hbx.cell 1
            have hna2 : (n : Int) ≤ (a : Int) := by omega
            have has2 : (a : Int) ≤ (s0.size : Int) := by omega
            obtain ⟨yr, yi, toks, err, hy⟩ := feed_parts x (L (s0.extract n a))
            have HY := Lib.hid hy
            clear hfl hfz hy
            go_cut [13, 14, 15] from 43 to 75 (fun pv tv ev wx => ∃ (Y : Nat) (A2 : Option Addr) (c2 : Nat), pv = .pointer (some ⟨Y, 0, none⟩) ∧ tv = .slice A2 toks.length c2 ∧ ev = .int .i64 err ∧ wr.heap.size ≤ Y ∧
              Hid (Blk wx Y 48 #[.string (bs yr), .bool yi]) ∧ Hid (GR wx (fun g => wr.heap.size ≤ g) (.row 3 (toks.map Token.gv)) [.slice A2 toks.length c2]) ∧ Hid (Below wr.heap.size wr wx))
            case first =>
              refine wp_region_any (by kernel_rfl) ?_
              change wpAny _ _ _ _ _ _ _ (World.drew _)
              refine wpAny_take (i := 1) (v := ?_) rfl (by kernel_rfl) (by kernel_rfl) (by kernel_rfl) (fun _ _ _ h => h) (Or.inl ⟨by rfl, ?_⟩) ?_
              rotate_left
              · (intro w_; go_simp; try with_reducible rfl)
              refine wpAny_take (i := 2) (v := ?_) rfl (by kernel_rfl) (by kernel_rfl) (by kernel_rfl) (fun _ _ _ h => h) (Or.inl ⟨by rfl, ?_⟩) ?_
              rotate_left
              · (intro w_; go_simp; try with_reducible rfl)
              refine wpAny_take (i := 3) (v := ?_) rfl (by kernel_rfl) (by kernel_rfl) (by kernel_rfl) (fun _ _ _ h => h) (Or.inl ⟨by rfl, ?_⟩) ?_
              rotate_left
              · (intro w_; go_simp; try with_reducible rfl)
              refine wpAny_take (i := 4) (v := ?_) rfl (by kernel_rfl) (by kernel_rfl) (by kernel_rfl) (fun _ _ _ h => h) (Or.inl ⟨by rfl, ?_⟩) ?_
              rotate_left
              · (intro w_; go_simp; try with_reducible rfl)
              refine wpAny_ready (rs := [0, 10]) (by kernel_rfl) (by simp) ?_
              refine AllReady.cons rfl (fun K_ hK_ => ?_) (AllReady.cons rfl (fun K_ hK_ => ?_) AllReady.nil)
              · go_simp
                refine hK_ _ _ ?_
                clear hK_ K_
                refine wpAny_ready (rs := [5, 10]) (by kernel_rfl) (by simp) ?_
                refine AllReady.cons rfl (fun K_ hK_ => ?_) (AllReady.cons rfl (fun K_ hK_ => ?_) AllReady.nil)
                · go_simp
                  refine (feed_calls2 (bs x.rest) (s0.extract n a) x.inside _ HFZ.out (show feedF ⟨L (bs x.rest), x.inside⟩ (L (s0.extract n a)) = (⟨yr, yi⟩, toks, err) by rw [L_bs]; exact HY.out)).mono ?_
                  rintro e w9 ⟨vr, rfl, hown, hb9⟩
                  obtain ⟨A2, c2, rfl⟩ := hown.form
                  rw [List.length_map] at *
                  refine hK_ _ _ ?_
                  clear hK_ K_
                  refine wpAny_take (i := 6) (v := ?_) rfl (by kernel_rfl) (by kernel_rfl) (by kernel_rfl) (fun _ _ _ h => h) (Or.inl ⟨by rfl, ?_⟩) ?_
                  rotate_left
                  · (intro w_; go_simp; try with_reducible rfl)
                  refine wpAny_take (i := 7) (v := ?_) rfl (by kernel_rfl) (by kernel_rfl) (by kernel_rfl) (fun _ _ _ h => h) (Or.inl ⟨by rfl, ?_⟩) ?_
                  rotate_left
                  · (intro w_; go_simp; try with_reducible rfl)
                  refine wpAny_take (i := 8) (v := ?_) rfl (by kernel_rfl) (by kernel_rfl) (by kernel_rfl) (fun _ _ _ h => h) (Or.inl ⟨by rfl, ?_⟩) ?_
                  rotate_left
                  · (intro w_; go_simp; try with_reducible rfl)
                  refine wpAny_take (i := 9) (v := ?_) rfl (by kernel_rfl) (by kernel_rfl) (by kernel_rfl) (fun _ _ _ h => h) (Or.inl ⟨by rfl, ?_⟩) ?_
                  rotate_left
                  · (intro w_; go_simp; try with_reducible rfl)
                  refine wpAny_ready (rs := [10]) (by kernel_rfl) (by simp) ?_
                  refine AllReady.cons rfl (fun K_ hK_ => ?_) AllReady.nil
                  go_simp
                  refine hK_ _ _ ?_
                  clear hK_ K_
                  refine wpAny_ready (rs := [11]) (by kernel_rfl) (by simp) ?_
                  refine AllReady.cons rfl (fun K_ hK_ => ?_) AllReady.nil
                  go_simp
                  refine hK_ _ _ ?_
                  clear hK_ K_
                  refine wpAny_take (i := 12) (v := ?_) rfl (by kernel_rfl) (by kernel_rfl) (by kernel_rfl) (fun _ _ _ h => h) (Or.inl ⟨by rfl, ?_⟩) ?_
                  rotate_left
                  · (intro w_; go_simp; try with_reducible rfl)
                  refine wpAny_take (i := 13) (v := ?_) rfl (by kernel_rfl) (by kernel_rfl) (by kernel_rfl) (fun _ _ _ h => h) (Or.inl ⟨by rfl, ?_⟩) ?_
                  rotate_left
                  · (intro w_; go_simp; try with_reducible rfl)
                  refine wpAny_done (by kernel_rfl) ?_ _
                  go_simp
                  go_wp2_with fail
                  go_meet
                  case rel =>
                    have hz : wr.heap.size ≤ w9.heap.size := hb9.size
                    have hb9' : Below wr.heap.size wr w9 := (Below.refl _ _).drew.trans hb9
                    refine ⟨_, A2, c2, rfl, rfl, rfl, hz, Blk.new _ _ _, ?_, hb9'.alloc hz _⟩
                    exact (hown.below ((Below.refl _ _).alloc (Nat.le_refl _) _)).gr (fun _ h => h) (fun k hk => (hown.lt k hk).1)
                · go_simp
                  refine hK_ _ _ ?_
                  clear hK_ K_
                  refine wpAny_ready (rs := [5]) (by kernel_rfl) (by simp) ?_
                  refine AllReady.cons rfl (fun K_ hK_ => ?_) AllReady.nil
                  go_simp
                  refine (feed_calls2 (bs x.rest) (s0.extract n a) x.inside _ HFZ.out (show feedF ⟨L (bs x.rest), x.inside⟩ (L (s0.extract n a)) = (⟨yr, yi⟩, toks, err) by rw [L_bs]; exact HY.out)).mono ?_
                  rintro e w9 ⟨vr, rfl, hown, hb9⟩
                  obtain ⟨A2, c2, rfl⟩ := hown.form
                  rw [List.length_map] at *
                  have zb : Blk w9 wr.heap.size 48 #[.string ⟨#[]⟩, .bool false] := Blk.below (w := wr.alloc (.cells #[.string ⟨#[]⟩, .bool false] 48)) (Blk.new wr _ _) (show Below (wr.alloc (.cells #[.string ⟨#[]⟩, .bool false] 48)).heap.size (wr.alloc (.cells #[.string ⟨#[]⟩, .bool false] 48)) w9 from (Below.refl _ _).drew.trans hb9) (by show wr.heap.size < (wr.alloc (.cells #[.string ⟨#[]⟩, .bool false] 48)).heap.size; rw [size_alloc]; omega)
                  have z0 := zb.cell 0
                  have z1 := zb.cell 1
                  have z2 := zb.frozen 0
                  have z3 := zb.frozen 1
                  refine hK_ _ _ ?_
                  clear hK_ K_
                  refine wpAny_take (i := 6) (v := ?_) rfl (by kernel_rfl) (by kernel_rfl) (by kernel_rfl) (fun _ _ _ h => h) (Or.inl ⟨by rfl, ?_⟩) ?_
                  rotate_left
                  · (intro w_; go_simp; try with_reducible rfl)
                  refine wpAny_take (i := 7) (v := ?_) rfl (by kernel_rfl) (by kernel_rfl) (by kernel_rfl) (fun _ _ _ h => h) (Or.inl ⟨by rfl, ?_⟩) ?_
                  rotate_left
                  · (intro w_; go_simp; try with_reducible rfl)
                  refine wpAny_take (i := 8) (v := ?_) rfl (by kernel_rfl) (by kernel_rfl) (by kernel_rfl) (fun _ _ _ h => h) (Or.inl ⟨by rfl, ?_⟩) ?_
                  rotate_left
                  · (intro w_; go_simp; try with_reducible rfl)
                  refine wpAny_take (i := 9) (v := ?_) rfl (by kernel_rfl) (by kernel_rfl) (by kernel_rfl) (fun _ _ _ h => h) (Or.inl ⟨by rfl, ?_⟩) ?_
                  rotate_left
                  · (intro w_; go_simp; try with_reducible rfl)
                  refine wpAny_ready (rs := [11]) (by kernel_rfl) (by simp) ?_
                  refine AllReady.cons rfl (fun K_ hK_ => ?_) AllReady.nil
                  go_simp
                  refine hK_ _ _ ?_
                  clear hK_ K_
                  refine wpAny_take (i := 12) (v := ?_) rfl (by kernel_rfl) (by kernel_rfl) (by kernel_rfl) (fun _ _ _ h => h) (Or.inl ⟨by rfl, ?_⟩) ?_
                  rotate_left
                  · (intro w_; go_simp; try with_reducible rfl)
                  refine wpAny_take (i := 13) (v := ?_) rfl (by kernel_rfl) (by kernel_rfl) (by kernel_rfl) (fun _ _ _ h => h) (Or.inl ⟨by rfl, ?_⟩) ?_
                  rotate_left
                  · (intro w_; go_simp; try with_reducible rfl)
                  refine wpAny_done (by kernel_rfl) ?_ _
                  go_simp
                  go_wp2_with fail
                  go_meet
                  case rel =>
                    obtain ⟨z1, z2, z3⟩ := feed_rel (w := wr) (c0 := .string ⟨#[]⟩) (c1 := .bool false) (t := 48) (show Below (wr.alloc (.cells #[.string ⟨#[]⟩, .bool false] 48)).heap.size (wr.alloc (.cells #[.string ⟨#[]⟩, .bool false] 48)) w9 from (Below.refl _ _).drew.trans hb9) hown (.string (bs yr)) (.bool yi)
                    refine ⟨_, A2, c2, rfl, rfl, rfl, Nat.le_refl _, ?_, ?_, ?_⟩
                    · exact z1
                    · exact z2
                    · exact z3
              · go_simp
                refine hK_ _ _ ?_
                clear hK_ K_
                have q0 := (hbx.alloc (.cells #[.string ⟨#[]⟩, .bool false] 48)).cell 0
                have q1 := (hbx.alloc (.cells #[.string ⟨#[]⟩, .bool false] 48)).cell 1
                refine wpAny_ready (rs := [0]) (by kernel_rfl) (by simp) ?_
                refine AllReady.cons rfl (fun K_ hK_ => ?_) AllReady.nil
                go_simp
                refine hK_ _ _ ?_
                clear hK_ K_
                refine wpAny_ready (rs := [5]) (by kernel_rfl) (by simp) ?_
                refine AllReady.cons rfl (fun K_ hK_ => ?_) AllReady.nil
                go_simp
                refine (feed_calls2 (bs x.rest) (s0.extract n a) x.inside _ HFZ.out (show feedF ⟨L (bs x.rest), x.inside⟩ (L (s0.extract n a)) = (⟨yr, yi⟩, toks, err) by rw [L_bs]; exact HY.out)).mono ?_
                rintro e w9 ⟨vr, rfl, hown, hb9⟩
                obtain ⟨A2, c2, rfl⟩ := hown.form
                rw [List.length_map] at *
                have zb : Blk w9 wr.heap.size 48 #[.string ⟨#[]⟩, .bool false] := Blk.below (w := wr.alloc (.cells #[.string ⟨#[]⟩, .bool false] 48)) (Blk.new wr _ _) (show Below (wr.alloc (.cells #[.string ⟨#[]⟩, .bool false] 48)).heap.size (wr.alloc (.cells #[.string ⟨#[]⟩, .bool false] 48)) w9 from (Below.refl _ _).drew.trans hb9) (by show wr.heap.size < (wr.alloc (.cells #[.string ⟨#[]⟩, .bool false] 48)).heap.size; rw [size_alloc]; omega)
                have z0 := zb.cell 0
                have z1 := zb.cell 1
                have z2 := zb.frozen 0
                have z3 := zb.frozen 1
                refine hK_ _ _ ?_
                clear hK_ K_
                refine wpAny_take (i := 6) (v := ?_) rfl (by kernel_rfl) (by kernel_rfl) (by kernel_rfl) (fun _ _ _ h => h) (Or.inl ⟨by rfl, ?_⟩) ?_
                rotate_left
                · (intro w_; go_simp; try with_reducible rfl)
                refine wpAny_take (i := 7) (v := ?_) rfl (by kernel_rfl) (by kernel_rfl) (by kernel_rfl) (fun _ _ _ h => h) (Or.inl ⟨by rfl, ?_⟩) ?_
                rotate_left
                · (intro w_; go_simp; try with_reducible rfl)
                refine wpAny_take (i := 8) (v := ?_) rfl (by kernel_rfl) (by kernel_rfl) (by kernel_rfl) (fun _ _ _ h => h) (Or.inl ⟨by rfl, ?_⟩) ?_
                rotate_left
                · (intro w_; go_simp; try with_reducible rfl)
                refine wpAny_take (i := 9) (v := ?_) rfl (by kernel_rfl) (by kernel_rfl) (by kernel_rfl) (fun _ _ _ h => h) (Or.inl ⟨by rfl, ?_⟩) ?_
                rotate_left
                · (intro w_; go_simp; try with_reducible rfl)
                refine wpAny_ready (rs := [11]) (by kernel_rfl) (by simp) ?_
                refine AllReady.cons rfl (fun K_ hK_ => ?_) AllReady.nil
                go_simp
                refine hK_ _ _ ?_
                clear hK_ K_
                refine wpAny_take (i := 12) (v := ?_) rfl (by kernel_rfl) (by kernel_rfl) (by kernel_rfl) (fun _ _ _ h => h) (Or.inl ⟨by rfl, ?_⟩) ?_
                rotate_left
                · (intro w_; go_simp; try with_reducible rfl)
                refine wpAny_take (i := 13) (v := ?_) rfl (by kernel_rfl) (by kernel_rfl) (by kernel_rfl) (fun _ _ _ h => h) (Or.inl ⟨by rfl, ?_⟩) ?_
                rotate_left
                · (intro w_; go_simp; try with_reducible rfl)
                refine wpAny_done (by kernel_rfl) ?_ _
                go_simp
                go_wp2_with fail
                go_meet
                case rel =>
                  obtain ⟨z1, z2, z3⟩ := feed_rel (w := wr) (c0 := .string ⟨#[]⟩) (c1 := .bool false) (t := 48) (show Below (wr.alloc (.cells #[.string ⟨#[]⟩, .bool false] 48)).heap.size (wr.alloc (.cells #[.string ⟨#[]⟩, .bool false] 48)) w9 from (Below.refl _ _).drew.trans hb9) hown (.string (bs yr)) (.bool yi)
                  refine ⟨_, A2, c2, rfl, rfl, rfl, Nat.le_refl _, ?_, ?_, ?_⟩
                  · exact z1
                  · exact z2
                  · exact z3
            case rest =>
              obtain ⟨Y, A2, c2, rfl, rfl, rfl, hYr, HBY, HGT, HBC⟩ := hcut
              have hbx2 := hbx.below HBC.out hbx.lt
              have ho2 := ho.below HBC.out
              have hg2 := grown_below hg HBC.out
              have h3 := HBC.out.size
              have hcl := cut3 (L s0) n a hna
              have HOO : Hid (∀ k, (Value.slice A8 o.length c8).ownBlock = some k → wo.heap.size ≤ k ∧ k < wr.heap.size) := Lib.hid (fun k hk => ho.lt k hk)
              have hw0 : wo.heap.size ≤ wr.heap.size := hg.size
              have hXo : X < wo.heap.size := HXW.out
              clear hbx ho hg
              by_cases herr : err = 0
              · have hbe : (err != 0) = false := by rw [herr]; rfl
                have hst := HF.out.step (L (s0.extract n a))
                rw [HY.out] at hst
                have hst := hst herr
                have hpq : (L s0).take n ++ L (s0.extract n a) = (L s0).take a := by
                  rw [L_extract]
                  have e : (L s0).take n = ((L s0).take a).take n := by rw [List.take_take, Nat.min_eq_left hna]
                  rw [e, List.take_append_drop]
                rw [hpq] at hst
                have HST : Hid (Fed ((L s0).take a) ⟨yr, yi⟩ (o ++ toks)) := Lib.hid hst
                clear hst hpq hcl HF herr
                have q0 := HBY.out.cell 0
                have q1 := HBY.out.cell 1
                have hyl := HST.out.len
                rw [List.length_take, ← size_L] at hyl
                have HYL : Hid ((bs yr).size ≤ 10000000) := by rw [Hid, size_bs]; simp only [List.length_append] at hyl; omega
                clear hyl
                obtain ⟨wd, rfl⟩ : ∃ wd : World, wd = wc := ⟨_, rfl⟩
                have hgt := HY.out
                have HGT2 : Hid (Good toks) := by
                  have e : toks = (feedF x (L (s0.extract n a))).2.1 := by rw [hgt]
                  rw [Hid, e]
                  exact ⟨feedF_plain _ _, feedF_attrs _ _⟩
                have hbd : Below wd.heap.size wd wd := Below.refl _ _
                have q2 := HBY.out.cell 0
                have q3 := HBY.out.cell 1
                have hsd := hbd.size
                have hbx3 := hbx2
                have hg3 := hg2
                have ho3 := ho2
                have HYB := Lib.hid HBY.out
                clear hgt
                have hyl := HST.out.len
                rw [List.length_take, ← size_L, List.length_append] at hyl
                have hap : ∃ news, App wd.drew wo.heap.size 80 3 48 (fun g => wo.heap.size ≤ g) (.slice A8 o.length c8) (o.map Token.gv) A2 toks.length (toks.map Token.gv) news (o.length + toks.length) := by
                  have := App.of_row (bytes := 48) (ho3.below ((Below.refl _ _).drew)) HGT.out hbd.drew (fun k hk hk2 => ⟨?_, ?_⟩) (by simp only [List.length_map]; omega) (by omega) (show wo.heap.size ≤ wd.heap.size by omega)
                  · simpa only [List.length_map] using this
                  · have hk : wr.heap.size ≤ k := hk
                    show wo.heap.size ≤ k
                    omega
                  · have hk : wr.heap.size ≤ k := hk
                    intro e
                    have := (HOO.out k e.symm).2
                    omega
                obtain ⟨news, hap⟩ := hap
                have HAP := Lib.hid hap
                have HOX : Hid (some X ≠ (Value.slice A8 o.length c8).ownBlock) := Lib.hid (fun e => by have := (HOO.out X e.symm).1; omega)
                have HOY : Hid (some Y ≠ (Value.slice A8 o.length c8).ownBlock) := Lib.hid (fun e => by have := (HOO.out Y e.symm).2; omega)
                have HO3 := Lib.hid ho3
                have HG3 := Lib.hid hg3
                have HBX3 := Lib.hid hbx3
                clear q0 q1 hap hyl hbx2 hbx3 ho2 ho3 hg2 hg3
                go_upto_region 13 with (fail)
                refine wp_region_any (by kernel_rfl) ?_
                change wpAny _ _ _ _ _ _ _ (World.drew _)
                refine wpAny_take (i := 1) (v := ?_) rfl (by kernel_rfl) (by kernel_rfl) (by kernel_rfl) (fun _ _ _ h => h) (Or.inl ⟨by rfl, ?_⟩) ?_
                rotate_left
                · (intro w_; go_simp; try with_reducible rfl)
                refine wpAny_take (i := 2) (v := ?_) rfl (by kernel_rfl) (by kernel_rfl) (by kernel_rfl) (fun _ _ _ h => h) (Or.inl ⟨by rfl, ?_⟩) ?_
                rotate_left
                · (intro w_; go_simp; try with_reducible rfl)
                refine wpAny_take (i := 4) (v := ?_) rfl (by kernel_rfl) (by kernel_rfl) (by kernel_rfl) (fun _ _ _ h => h) (Or.inl ⟨by rfl, ?_⟩) ?_
                rotate_left
                · (intro w_; go_simp; try with_reducible rfl)
                refine wpAny_ready (rs := [0, 3]) (by kernel_rfl) (by simp) ?_
                refine AllReady.cons rfl (fun K_ hK_ => ?_) (AllReady.cons rfl (fun K_ hK_ => ?_) AllReady.nil)
                · go_simp
                  refine hK_ _ _ ?_
                  clear hK_ K_
                  refine wpAny_ready (rs := [3]) (by kernel_rfl) (by simp) ?_
                  refine AllReady.cons rfl (fun K_ hK_ => ?_) AllReady.nil
                  refine HAP.out.step (by rfl) _ _ _ (by rfl) tokTy (by rfl) (by rfl) ?_
                  intro A9 c9 w9 hown hgr hor
                  have hbx4 : Blk w9 X 48 #[.string (bs x.rest), .bool x.inside] := Blk.grown (w := wd.drew) HBX3.out hgr HOX.out
                  have hgo := grown_grown (grown_drewN HG3.out 1) hgr (fun k hk => .inr (HOO.out k hk).1)
                  have x0 := hbx4.cell 0
                  have x1 := hbx4.cell 1
                  have x2 := hbx4.frozen 0
                  have x3 := hbx4.frozen 1
                  have HPU := Lib.hid (cuts_push hbx4 hown hgo hXo (.string (bs yr)) (.bool yi))
                  clear hown hgr hor hbx4 hgo
                  refine hK_ _ _ ?_
                  clear hK_ K_
                  refine wpAny_ready (rs := [5]) (by kernel_rfl) (by simp) ?_
                  refine AllReady.cons rfl (fun K_ hK_ => ?_) AllReady.nil
                  go_simp
                  refine hK_ _ _ ?_
                  clear hK_ K_
                  refine wpAny_take (i := 6) (v := ?_) rfl (by kernel_rfl) (by kernel_rfl) (by kernel_rfl) (fun _ _ _ h => h) (Or.inl ⟨by rfl, ?_⟩) ?_
                  rotate_left
                  · (intro w_; go_simp; try with_reducible rfl)
                  refine wpAny_take (i := 7) (v := ?_) rfl (by kernel_rfl) (by kernel_rfl) (by kernel_rfl) (fun _ _ _ h => h) (Or.inl ⟨by rfl, ?_⟩) ?_
                  rotate_left
                  · (intro w_; go_simp; try with_reducible rfl)
                  refine wpAny_done (by kernel_rfl) ?_ _
                  go_wp2_with fail
                  refine ⟨⟨k + 1, a, ⟨yr, yi⟩, o ++ toks, A9, c9, by rw [List.length_append], by have := HLT.out; omega, by go_num, rfl, has, HKA, HPU.out.1, ?_, HPU.out.2.2, HST, HGO.out.append HGT2.out⟩, by have := HLT.out; simp [intOf]; omega⟩
                  rw [List.length_append, List.map_append]
                  exact HPU.out.2.1
                · refine HAP.out.step (by rfl) _ _ _ (by rfl) tokTy (by rfl) (by rfl) ?_
                  intro A9 c9 w9 hown hgr hor
                  have hbx4 : Blk w9 X 48 #[.string (bs x.rest), .bool x.inside] := Blk.grown (w := wd.drew) HBX3.out hgr HOX.out
                  have hgo := grown_grown (grown_drewN HG3.out 1) hgr (fun k hk => .inr (HOO.out k hk).1)
                  have x0 := hbx4.cell 0
                  have x1 := hbx4.cell 1
                  have x2 := hbx4.frozen 0
                  have x3 := hbx4.frozen 1
                  have hyb4 : Blk w9 Y 48 #[.string (bs yr), .bool yi] := Blk.grown (w := wd.drew) HYB.out hgr HOY.out
                  have y0 := hyb4.cell 0
                  have y1 := hyb4.cell 1
                  have HPU := Lib.hid (cuts_push hbx4 hown hgo hXo (.string (bs yr)) (.bool yi))
                  clear hown hgr hor hbx4 hgo
                  refine hK_ _ _ ?_
                  clear hK_ K_
                  refine wpAny_ready (rs := [0]) (by kernel_rfl) (by simp) ?_
                  refine AllReady.cons rfl (fun K_ hK_ => ?_) AllReady.nil
                  go_simp
                  refine hK_ _ _ ?_
                  clear hK_ K_
                  refine wpAny_ready (rs := [5]) (by kernel_rfl) (by simp) ?_
                  refine AllReady.cons rfl (fun K_ hK_ => ?_) AllReady.nil
                  go_simp
                  refine hK_ _ _ ?_
                  clear hK_ K_
                  refine wpAny_take (i := 6) (v := ?_) rfl (by kernel_rfl) (by kernel_rfl) (by kernel_rfl) (fun _ _ _ h => h) (Or.inl ⟨by rfl, ?_⟩) ?_
                  rotate_left
                  · (intro w_; go_simp; try with_reducible rfl)
                  refine wpAny_take (i := 7) (v := ?_) rfl (by kernel_rfl) (by kernel_rfl) (by kernel_rfl) (fun _ _ _ h => h) (Or.inl ⟨by rfl, ?_⟩) ?_
                  rotate_left
                  · (intro w_; go_simp; try with_reducible rfl)
                  refine wpAny_done (by kernel_rfl) ?_ _
                  go_wp2_with fail
                  refine ⟨⟨k + 1, a, ⟨yr, yi⟩, o ++ toks, A9, c9, by rw [List.length_append], by have := HLT.out; omega, by go_num, rfl, has, HKA, HPU.out.1, ?_, HPU.out.2.2, HST, HGO.out.append HGT2.out⟩, by have := HLT.out; simp [intOf]; omega⟩
                  rw [List.length_append, List.map_append]
                  exact HPU.out.2.1
              · have hbe : (err != 0) = true := by rw [bne_iff_ne]; exact herr
                have hbd := pieces_bad (c := (L s0).drop a) HF.out (q := L (s0.extract n a)) (by rw [HY.out]; exact herr)
                rw [HY.out, L_extract, ← hcl, ← HALL.out] at hbd
                injection hbd with hbd1 hbd2
                have hq1 : (err == bad) = true := by rw [hbd2]; simp
                clear hbd1 hbd2 hcl HF herr
                have hgl : Glob wc := by
                  have h1 := HB1.out.trans (HB.out.mono HB1.out.size)
                  have h2 := below_of_grown hg2 (show w.heap.size ≤ wo.heap.size from h1.size) (fun k hk => by injection hk with hk; have := HBW.out; omega)
                  exact HG0.out.below (h1.trans h2)
                have HGL := Lib.hid hgl
                clear hgl
                go_wp2_with fail
                refine (talive_calls wc HGL.out).mono ?_
                rintro e wd ⟨rfl, hbd⟩
                go_wp2_with fail
                go_ret
                exact ⟨rfl, pieces_below HB1.out HB.out HBW.out hg2 hbd⟩
        · have hkk : k = cs.length := by omega
          have hns := HKN.out hkk
          have hst : Fed (L s0) x o := by
            have := HF.out
            rwa [hns, size_L, List.take_length] at this
          have hal := HALL.out.trans (pieces_read hst HGO.out.1)
          have hyl := hst.len
          rw [← size_L] at hyl
          have HYL : Hid ((bs x.rest).size ≤ 10000000) := by rw [Hid, size_bs]; omega
          have HYO : Hid (o.length ≤ 2000 ∧ textSum o ≤ 2000) := by
            have := hst.sum
            rw [← size_L] at this
            exact ⟨by omega, by omega⟩
          have HAL := Lib.hid hal
          have q0 := hbx.cell 0
          have q1 := hbx.cell 1
          have HCL := Lib.hid hcl
          have HX := Lib.hid hX
          clear hkk hns hst hal hyl HF HKN HALL hcl hX
          go_wp2_with fail
          refine (end_calls (bs x.rest) x.inside wr HYL.out).mono ?_
          rw [L_bs]
          have hel := endF_len x
          obtain ⟨en, hen⟩ : ∃ en, endF x = en := ⟨_, rfl⟩
          rw [hen] at hel HAL ⊢
          have HEN := Lib.hid hen
          clear hen
          obtain ⟨et, ee⟩ := en
          simp only at hel HAL
          rintro e w9 ⟨v2, rfl, hgr, hb9⟩
          obtain ⟨A2, c2, xs2, rfl, -, -⟩ := row_parts hgr
          rw [List.length_map] at *
          have hs9 := hb9.size
          have HGT := Lib.hid hgr
          have HGE : Hid (Good et) := by
            rw [Hid, show et = (endF x).1 by rw [HEN.out]]
            exact ⟨endF_plain x, endF_attrs x⟩
          have hglob : ∀ wz, Below wr.heap.size wr wz → Glob wz := fun wz hz => HG0.out.below (pieces_below HB1.out HB.out HBW.out hg hz)
          have HGLO := Lib.hid hglob
          clear hglob
          by_cases hee : ee = 0
          · have hbe : (ee != 0) = false := by rw [hee]; rfl
            have hwant : (want, bad) = buildF (o ++ et) := HAL.out.trans (if_neg (by simpa using hee))
            have HW1 := Lib.hid hwant
            clear hwant hee hgr
            have hoa := ho.below hb9
            have hyo := HYO.out
            have hap : ∃ news, App w9 wo.heap.size 80 3 48 (fun g => wo.heap.size ≤ g) (.slice A8 o.length c8) (o.map Token.gv) A2 et.length (et.map Token.gv) news (o.length + et.length) := by
              have := App.of_row (bytes := 48) hoa HGT.out (Below.refl _ _) (fun k hk hk2 => ⟨?_, ?_⟩) (by simp only [List.length_map]; omega) (by omega) (by have := hg.size; omega)
              · simpa only [List.length_map] using this
              · have hk : wr.heap.size ≤ k := hk
                have := hg.size
                show wo.heap.size ≤ k
                omega
              · have hk : wr.heap.size ≤ k := hk
                intro e
                have := (ho.lt k e.symm).2
                omega
            obtain ⟨news, hap⟩ := hap
            have HAP := Lib.hid hap
            have HOO : Hid (∀ k, (Value.slice A8 o.length c8).ownBlock = some k → wo.heap.size ≤ k ∧ k < wr.heap.size) := Lib.hid (fun k hk => ho.lt k hk)
            have hga := grown_below hg hb9
            have HEL := Lib.hid hel
            have HYO2 := Lib.hid hyo
            clear hap hoa hel hyo
            go_wp2_with (at_builtin; go_loud (refine HAP.out.plain (by rfl) _ _ _ (by rfl) tokTy (by rfl) (by rfl) ?_); intro A13 c13 w13 hown hgr hor; have HOW := Lib.hid hown; have HGR := Lib.hid hgr; clear hown hgr hor)
            have hown13 := HOW.out
            rw [← List.map_append] at hown13
            have hg13 := grown_grown hga HGR.out (fun k hk => .inr (HOO.out k hk).1)
            have hrow : GR w13 (fun g => wo.heap.size ≤ g) (.row 3 ((o ++ et).map Token.gv)) [.slice A13 (o.length + et.length) c13] :=
              hown13.gr (fun _ h => h) (fun k hk => (hown13.lt k hk).1)
            have hjl : (o ++ et).length ≤ 100000 ∧ textSum (o ++ et) ≤ 100000000 := by
              have h1 := HEL.out
              have h2 := HYO2.out
              have h3 := HYL.out
              rw [size_bs] at h3
              rw [List.length_append, textSum_append]
              exact ⟨by omega, by omega⟩
            have HG13 := Lib.hid hg13
            have hgd := HGO.out.append HGE.out
            have HBD := Lib.hid (build_calls (o ++ et) _ _ w13 hrow hjl.1 hjl.2 (fun t ht => Nat.le_trans (hgd.2 t ht) (by omega)))
            rw [← HW1.out] at HBD
            clear hown13 hg13 HAP HOW HGR hgd hrow
            unfold BuildPost at HBD
            simp only at HBD
            refine HBD.out.mono ?_
            rintro e w14 ⟨vg, rfl, hgot, hb14⟩
            obtain ⟨AG, cg, rfl, -⟩ := elems_open hgot
            have HGOT := Lib.hid hgot
            have HB14 := Lib.hid hb14
            have hbz : Below w.heap.size w w14 := pieces_below HB1.out HB.out HBW.out HG13.out hb14
            have HBZ := Lib.hid hbz
            have HG14 := Lib.hid (HG0.out.below hbz)
            have hww : GR w14 (fun _ => True) (.row 7 (want.map Elem.gv)) [.slice AW want.length cw] := ((HGW1.out.grown HG13.out (fun k hk => hk)).below hb14).weaken (fun _ _ => trivial)
            have HWW := Lib.hid hww
            clear hgot hb14 hbz hww HBD
            go_wp2_with fail
            refine (talive_calls w14 HG14.out).mono ?_
            rintro e w15 ⟨rfl, hb15⟩
            have hq : (bad == bad) = true := by simp
            have HB15 := Lib.hid (HBZ.out.trans (hb15.mono HBZ.out.size))
            have HWW5 := Lib.hid (HWW.out.below hb15)
            have HGT5 := Lib.hid ((HGOT.out.weaken (F' := fun _ => True) (fun _ _ => trivial)).below hb15)
            clear hb15
            go_wp2_with fail
            refine (rlike_calls _ want want _ _ (fun _ => True) w15 (Nat.le_refl _) HGT5.out HWW5.out).mono ?_
            rw [likeF_refl]
            rintro e w16 ⟨rfl, hb16⟩
            have HB16 := Lib.hid (HB15.out.trans (hb16.mono HB15.out.size))
            clear hb16
            go_wp2_with fail
            go_ret
            exact ⟨rfl, HB16.out⟩
          · have hbe : (ee != 0) = true := by rw [bne_iff_ne]; exact hee
            have hwant : (want, bad) = ([], ee) := HAL.out.trans (if_pos hee)
            injection hwant with hw1 hw2
            have hq1 : (ee == bad) = true := by rw [hw2]; simp
            have HGL := Lib.hid (HGLO.out w9 hb9)
            clear hw1 hw2 hee hgr
            go_wp2_with fail
            refine (talive_calls w9 HGL.out).mono ?_
            rintro e wa ⟨rfl, hba⟩
            go_wp2_with fail
            go_ret
            exact ⟨rfl, pieces_below HB1.out HB.out HBW.out (grown_below hg hb9) hba⟩
end Go.Proofs.YtijpfcjlochahaaGreatDoor
