/- The walk of intarsialaw14.LexTags. -/
import Derived.Test.YtijpfcjlochahaaLexT
import Derived.Test.YtijpfcjlochahaaShelf
import Derived.Test.YtijpfcjlochahaaLexR
import Derived.Test.YtijpfcjlochahaaAsk
import Derived.Deep.RegionHeld
import Derived.Laws.IdiomStrings
import Derived.IntWalk
namespace Go.Proofs.Ytijpfcjlochahaa
open Go Go.RowKit

theorem repeat_blank (c : Nat) : Lib.repeatL [32] c = List.replicate c 32 := by
  have := Lib.repeatL_replicate 32 1 c
  simpa using this
theorem kind_facts (kind : Int) : ∃ m : Int, m = kind.tmod 3 ∧ -2 ≤ m ∧ m ≤ 2 := by
  refine ⟨_, rfl, ?_, ?_⟩
  · have := Int.lt_tmod_of_pos kind (show (0 : Int) < 3 by decide); omega
  · have := Int.tmod_lt_of_pos kind (show (0 : Int) < 3 by decide); omega
theorem repeat_calls (z : Int) (w : World) (h0 : 0 ≤ z) (h5 : z ≤ 5) : Calls Try.prog 14 #[.string ⟨#[32]⟩, .int .i64 z] w fun e w' =>
    ∃ c : Nat, c ≤ 5 ∧ e = .returned (.string (bs (List.replicate c 32))) ∧ Below w.heap.size w w' := by
  obtain ⟨c, rfl⟩ := Int.eq_ofNat_of_zero_le h0
  refine (Try.strings_Repeat ⟨#[32]⟩ c w (by omega) (by show 1 * c ≤ _; omega)).mono ?_
  rintro e w' ⟨rfl, hb⟩
  refine ⟨c, by omega, ret_eq (congrArg Value.string ?_), hb⟩
  show bs (Lib.repeatL [32] c) = _
  rw [repeat_blank]

theorem conv_one (w : World) (B k : Nat) (hk : k < 8) (hc : w.cell? ⟨B, 0, none⟩ = some (.int .u8 (97 + (k : Int)))) :
    (convert 45 9 (.slice (some ⟨B, 0, none⟩) 1 1)).run Try.prog w = .ok (.string (bs [97 + UInt8.ofNat k])) w := by
  have hn : (97 + UInt8.ofNat k).toNat = 97 + k := by
    rw [UInt8.toNat_add, UInt8.toNat_ofNat', show (97 : UInt8).toNat = 97 from rfl]; omega
  refine run_convert_bytes_back (P := Try.prog) w 45 9 5 ⟨B, 0, none⟩ 1 [97 + UInt8.ofNat k] Try.underlying45 Try.underlying5 Try.underlying9 fun j hj => ?_
  obtain rfl : j = 0 := by simpa using hj
  have e : (⟨B, 0, none⟩ : Addr).add 0 = ⟨B, 0, none⟩ := by simp [Addr.add]
  rw [e, hc]
  simp only [List.getElem_cons_zero, hn]
  congr 2
theorem pair_second (w : World) (o : Obj) (t : TypeId) (cs : Array Value) : Blk ((w.alloc o).alloc (.cells cs t)) (w.heap.size + 1) t cs ∧ Below w.heap.size w ((w.alloc o).alloc (.cells cs t)) := by
  have h := Blk.new (w.alloc o) t cs
  rw [size_alloc] at h
  exact ⟨h, ((Below.refl _ _).alloc (Nat.le_refl _) _).alloc (by rw [size_alloc]; omega) _⟩
theorem pair_first (w : World) (o : Obj) (t : TypeId) (cs : Array Value) : Blk ((w.alloc (.cells cs t)).alloc o) w.heap.size t cs ∧ Below w.heap.size w ((w.alloc (.cells cs t)).alloc o) :=
  ⟨(Blk.new w t cs).alloc o, ((Below.refl _ _).alloc (Nat.le_refl _) _).alloc (by rw [size_alloc]; omega) _⟩
theorem tags_below {w w2 wr w4 : World} {T : Nat} (h1 : Below w.heap.size w w2) (hg : w2.grownBy wr (some T)) (hT : w.heap.size ≤ T) (h2 : T < w2.heap.size) (h4 : Below wr.heap.size wr w4) : Below w.heap.size w w4 := by
  have h5 := h1.size
  have h6 := hg.size
  exact h1.trans ((below_of_grown hg (by omega) (fun k hk => by injection hk with hk; omega)).trans (h4.mono (by omega)))
theorem good_attr (p : Pair) (k : Nat) (hk : k < 8) : GoodAttr ⟨cleanF letterB p.name ++ [97 + UInt8.ofNat k], cleanF plainB p.value⟩ := by
  refine ⟨by simp, fun x hx => ?_, fun x hx => cleanF_mem x hx⟩
  rcases List.mem_append.1 hx with hx | hx
  · exact cleanF_mem x hx
  · simp only [List.mem_cons, List.not_mem_nil, or_false] at hx
    subst hx
    obtain rfl | rfl | rfl | rfl | rfl | rfl | rfl | rfl : k = 0 ∨ k = 1 ∨ k = 2 ∨ k = 3 ∨ k = 4 ∨ k = 5 ∨ k = 6 ∨ k = 7 := by omega
    all_goals decide
/-- How a tag begins. -/
def headText (kd : Int) : List UInt8 := if kd = 2 then closB else openB
theorem tag_built (kd : Int) (nx g : List UInt8) (qs : List Pair) (h : kd = 2 → qs = []) : headText kd ++ nx ++ attrsText g qs ++ g ++ endText kd = tagText kd nx g qs := by
  unfold headText tagText
  by_cases h2 : kd = 2
  · rw [if_pos h2, if_pos h2, h h2, endText, if_neg (by omega)]
    simp [attrsText]
  · rw [if_neg h2, if_neg h2]
    simp only [List.append_assoc]

set_option maxRecDepth 20000 in
set_option maxHeartbeats 4000000 in
theorem lexTags_calls (kind gap : Int) (name : ByteArray) (attrs : List Pair) (v : Value) (F : Nat → Prop) (w : World) (hv : GR w F (.row 2 (attrs.map Pair.gv)) [v]) :
    Calls Try.prog 4 #[.int .i64 kind, .string name, v, .int .i64 gap] w fun e w' => e = .returned (.bool true) ∧ Below w.heap.size w w' := by
  obtain ⟨A, c, rfl, hlc, hcm, hop⟩ := pairs_open (GR.lt_heap _ _ hv)
  obtain ⟨nm, hnm⟩ : ∃ nm, nm = cleanF letterB (L name) := ⟨_, rfl⟩
  have hnl : nm.length ≤ 30 := by rw [hnm]; exact cleanF_len _ _
  have HNM := Lib.hid hnm
  have HOP := Lib.hid hop
  have hlm := Nat.le_trans hlc hcm
  rw [maxLen] at hlm
  clear hop hv hnm
  go_enter Try.func4, Try.ntmps4
  go_upto_region 3 with (fail)
  have hsz : (bs nm).size + 1 ≤ 100 := by rw [size_bs]; omega
  go_cut [11] from 21 to 31 (fun pv wx => ∃ kd : Int, (kd = 1 ∨ kd = 2 ∨ kd = 3) ∧ pv = .pointer (some ⟨w.heap.size, 0, none⟩) ∧ wx = w.alloc (.cells #[.int .i64 kd, .string (bs (nm ++ [120])), .slice none 0 0] 41))
  case first =>
    obtain ⟨q, hq, hq1, hq2⟩ := kind_facts kind
    have hq3 : kind.tmod 3 = q := hq.symm
    clear hq
    have hq4 : (q + 3).tmod 3 = (q + 3) % 3 := Int.tmod_eq_emod_of_nonneg (by omega)
    have hq5 : 0 ≤ (q + 3) % 3 := by omega
    have hq6 : (q + 3) % 3 ≤ 2 := by omega
    go_wp2_with (refine (clean_letter name _).mono ?_; rintro e w' ⟨rfl, rfl⟩; rw [← HNM.out])
    go_meet
    case rel =>
      refine ⟨q % 3 + 1, by omega, rfl, ?_⟩
      rw [← bs_append]
      rfl
  case rest =>
    obtain ⟨kd, hkd, rfl, rfl⟩ := hcut
    obtain ⟨nx, hnx⟩ : ∃ nx, nx = nm ++ [120] := ⟨_, rfl⟩
    rw [← hnx]
    have hxl : nx.length ≤ 31 := by rw [hnx, List.length_append]; simp only [List.length_cons, List.length_nil]; omega
    have HXE : Hid (nx ≠ [] ∧ ∀ x ∈ nx, letterB x = true) := by
      refine ⟨by rw [hnx]; simp, fun x hx => ?_⟩
      rw [hnx, HNM.out] at hx
      rcases List.mem_append.1 hx with hx | hx
      · exact cleanF_mem x hx
      · simp only [List.mem_cons, List.not_mem_nil, or_false] at hx
        rw [hx]; decide
    have hbt := Blk.new w 41 #[.int .i64 kd, .string (bs nx), .slice none 0 0]
    have hb1 := (Below.refl w.heap.size w).alloc (Nat.le_refl _) (.cells #[.int .i64 kd, .string (bs nx), .slice none 0 0] 41)
    have hs1 := size_alloc w (.cells #[.int .i64 kd, .string (bs nx), .slice none 0 0] 41)
    obtain ⟨T, hT⟩ : ∃ T, T = w.heap.size := ⟨_, rfl⟩
    rw [← hT] at hbt hs1 ⊢
    generalize w.alloc (.cells #[.int .i64 kd, .string (bs nx), .slice none 0 0] 41) = w1 at *
    have HT := Lib.hid hT
    have hTw : w.heap.size ≤ T := Nat.le_of_eq hT.symm
    clear hT hnx hsz hnl
    go_upto_region 4 with (fail)
    go_cut [12] from 32 to 35 (fun sv wx => ∃ c : Nat, c ≤ 5 ∧ sv = .string (bs (List.replicate c 32)) ∧ Below w1.heap.size w1 wx)
    case first =>
      go_wp2_with (refine (repeat_calls _ _ (by omega) (by omega)).mono ?_; rintro e w' ⟨c5, hc5, rfl, hb5⟩)
      all_goals
        go_meet
        case rel => exact ⟨c5, hc5, rfl, hb5⟩
    case rest =>
      obtain ⟨n5, hn5, rfl, hb2⟩ := hcut
      obtain ⟨g, hg⟩ : ∃ g, g = List.replicate n5 (32 : UInt8) := ⟨_, rfl⟩
      rw [← hg]
      have hgl : g.length ≤ 5 := by rw [hg, List.length_replicate]; exact hn5
      have HGB : Hid (∀ x ∈ g, x = 32) := by rw [hg]; exact fun x hx => List.eq_of_mem_replicate hx
      clear hg hn5
      have hbt2 := hbt.below hb2 hbt.lt
      have hb12 := hb1.trans (hb2.mono hb1.size)
      have hs2 := hb2.size
      clear hbt hb1 hb2
      obtain ⟨w2, rfl⟩ : ∃ w2 : World, w2 = wc := ⟨_, rfl⟩
      have q0 := hbt2.cell 0
      have q1 := hbt2.cell 1
      have hz1 : (⟨#[60, 101, 115, 105, 58]⟩ : ByteArray).size + (bs nx).size ≤ 1000 := by rw [size_bs]; show 5 + nx.length ≤ 1000; omega
      have hz2 : (⟨#[60, 47, 101, 115, 105, 58]⟩ : ByteArray).size + (bs nx).size ≤ 1000 := by rw [size_bs]; show 6 + nx.length ≤ 1000; omega
      go_upto_if 41 with (fail)
      go_cut [13] from 42 to 44 (fun sv wx => sv = .string (bs (headText kd ++ nx)) ∧ wx = w2)
      case first =>
        by_cases h2 : kd = 2
        · have hb : (kd == 2) = true := by rw [h2]; rfl
          have H2 := Lib.hid h2
          clear h2
          go_wp2_with fail
          go_meet
          case rel =>
            refine ⟨congrArg Value.string ?_, rfl⟩
            rw [← bs_append, headText, if_pos H2.out]; rfl
        · have hb : (kd == 2) = false := by rw [beq_eq_false_iff_ne]; exact h2
          have H2 := Lib.hid h2
          clear h2
          go_wp2_with fail
          go_meet
          case rel =>
            refine ⟨congrArg Value.string ?_, rfl⟩
            rw [← bs_append, headText, if_neg H2.out]; rfl
      case rest =>
        obtain ⟨rfl, hww⟩ := hcut
        have hww := hww.symm
        subst hww
        clear q0 q1 hz1 hz2
        have hwt : T < w2.heap.size := hbt2.lt
        go_wp2_with fail
        go_loopw [13, 47] (fun sv i wr => ∃ (k : Nat) (qs : List Pair) (Av : Option Addr) (cv : Nat) (X : List UInt8), k ≤ attrs.length ∧ i = .int .i64 k ∧ sv = .string (bs X) ∧ Hid (X = headText kd ++ nx ++ attrsText g qs) ∧ Blk wr T 41 #[.int .i64 kd, .string (bs nx), .slice Av qs.length cv] ∧
            OwnR wr w2.heap.size 44 2 (fun _ => False) (.slice Av qs.length cv) (qs.map Pair.gv) ∧ w2.grownBy wr (some T) ∧ qs.length ≤ k ∧ qs.length ≤ 8 ∧
            Hid ((∀ p ∈ qs, GoodAttr p) ∧ Apart qs ∧ (kd = 2 → qs = []) ∧ (attrsText g qs).length ≤ 100 * qs.length))
          (fun _ i _ => attrs.length - (intOf i).toNat)
        case atStart =>
          exact ⟨0, [], none, 0, headText kd ++ nx, Nat.zero_le _, rfl, rfl, by rw [Hid, attrsText, List.append_nil], hbt2, OwnR.nil _ _ _ _ _, grown_refl _ _, Nat.zero_le _, Nat.zero_le _, ⟨by simp, trivial, fun _ => rfl, by simp [attrsText]⟩⟩
        case round =>
          obtain ⟨k, qs, Av, cv, X, hk, rfl, rfl, HX, hbt, hown, hgr, hqk, hq8, HQ⟩ := hrel
          clear hbt2
          by_cases hlt : k < attrs.length
          · obtain ⟨b, off, rfl, ⟨_, hbw⟩, hc⟩ := HOP.out (by rintro h; rw [h] at hlt; simp at hlt)
            obtain ⟨c0, c1⟩ := hc k hlt
            generalize attrs[k] = p at *
            have hgs := hgr.size
            have hne : some b ≠ some T := by intro e; injection e with e; omega
            have hbw2 : b < w2.heap.size := by omega
            have e0 := (World.cell?_of_block (w := w) (a := ⟨b, off + k * 2, none⟩) ((hgr.block b hbw2 hne).trans (hb12.block b hbw))).trans c0
            have e1 := (World.cell?_of_block (w := w) (a := ⟨b, off + k * 2 + 1, none⟩) ((hgr.block b hbw2 hne).trans (hb12.block b hbw))).trans c1
            have q0 := (hbt.alloc (.cells #[.string (bs p.name), .string (bs p.value)] 44)).cell 0
            have hkl : Hid (k + 1 ≤ attrs.length) := hlt
            have hal1 : Below wr.heap.size wr (wr.alloc (.cells #[.string (bs p.name), .string (bs p.value)] 44)) := (Below.refl _ _).alloc (Nat.le_refl _) _
            have hclen : (attrs.length : Int) ≤ (c : Int) := by omega
            clear c0 c1 hc
            by_cases hk8 : k < 8
            · by_cases h2 : kd = 2
              · have hb : (kd != 2) = false := by rw [h2]; rfl
                clear h2
                go_wp2_with fail
                refine ⟨⟨k + 1, qs, Av, cv, X, hkl.out, by go_num, rfl, HX, hbt.alloc _, hown.below hal1, grown_alloc hgr _, by omega, hq8, HQ⟩, by have := hkl.out; simp [intOf]; omega⟩
              · have hb : (kd != 2) = true := by rw [bne_iff_ne]; exact h2
                have H2 := Lib.hid h2
                clear h2
                go_upto_region 12 with (fail)
                have hpb := Blk.new wr 44 #[.string (bs p.name), .string (bs p.value)]
                have hbt3 := hbt.alloc (.cells #[.string (bs p.name), .string (bs p.value)] 44)
                have hown3 := hown.below hal1
                have hgr3 := grown_alloc hgr (.cells #[.string (bs p.name), .string (bs p.value)] 44)
                have hs3 := size_alloc wr (.cells #[.string (bs p.name), .string (bs p.value)] 44)
                clear hbt hown hgr hal1 e0 e1 q0
                obtain ⟨Pb, hPb⟩ : ∃ Pb, Pb = wr.heap.size := ⟨_, rfl⟩
                rw [← hPb] at hpb ⊢
                generalize wr.alloc (.cells #[.string (bs p.name), .string (bs p.value)] 44) = w3 at *
                have hPw : Pb < w3.heap.size := hpb.lt
                have hPt : T ≠ Pb := by omega
                have hPg : w2.heap.size ≤ Pb := by omega
                clear hPb hs3
                have hwk1 : IntKind.i64.wrap (97 + (k : Int)) = 97 + (k : Int) := IntWalk.i64_in _ (by omega)
                have hwk2 : IntKind.u8.wrap (97 + (k : Int)) = 97 + (k : Int) := IntWalk.u8_in _ (by omega)
                have hpn : ¬ (9223372036854775807 < (bs (cleanF letterB p.name)).size + (bs [97 + UInt8.ofNat k]).size) := by rw [size_bs, size_bs]; have := cleanF_len letterB p.name; simp only [List.length_cons, List.length_nil]; omega
                have hpz : (bs (cleanF letterB p.name)).size + (bs [97 + UInt8.ofNat k]).size ≤ 100 := by rw [size_bs, size_bs]; have := cleanF_len letterB p.name; simp only [List.length_cons, List.length_nil]; omega
                have q0 := hpb.cell 0
                have q1 := hpb.cell 1
                have r0 := World.new_ne w3 _ q0
                have r1 := World.new_ne w3 _ q1
                go_cut [16] from 59 to 74 (fun pv wx => ∃ Y : Nat, pv = .pointer (some ⟨Y, 0, none⟩) ∧ w3.heap.size ≤ Y ∧ Hid (Blk wx Y 44 #[.string (bs (cleanF letterB p.name ++ [97 + UInt8.ofNat k])), .string (bs (cleanF plainB p.value))]) ∧ Hid (Below w3.heap.size w3 wx))
                case first =>
                  refine wp_region_held (S := (fun w' => w'.cell? ⟨Pb, 0, none⟩ = some (.string (bs p.name)) ∧ w'.cell? ⟨Pb, 1, none⟩ = some (.string (bs p.value)))) (by kernel_rfl) ?_
                  change wpAnyH _ _ _ _ _ _ _ _ (World.drew _)
                  refine wpAnyH_take (i := 0) (v := ?_) rfl (by kernel_rfl) (by kernel_rfl) (by kernel_rfl) (fun _ _ _ h => h) (Or.inl ⟨by rfl, ?_⟩) ⟨q0, q1⟩ ?_
                  rotate_left
                  · (intro w_ hS_; obtain ⟨s0, s1⟩ := hS_; go_simp; try with_reducible rfl)
                  refine wpAnyH_take (i := 1) (v := ?_) rfl (by kernel_rfl) (by kernel_rfl) (by kernel_rfl) (fun _ _ _ h => h) (Or.inl ⟨by rfl, ?_⟩) ⟨q0, q1⟩ ?_
                  rotate_left
                  · (intro w_ hS_; obtain ⟨s0, s1⟩ := hS_; go_simp; try with_reducible rfl)
                  refine wpAnyH_take (i := 2) (v := ?_) rfl (by kernel_rfl) (by kernel_rfl) (by kernel_rfl) (fun _ _ _ h => h) (Or.inl ⟨by rfl, ?_⟩) ⟨q0, q1⟩ ?_
                  rotate_left
                  · (intro w_ hS_; obtain ⟨s0, s1⟩ := hS_; go_simp; try with_reducible rfl)
                  refine wpAnyH_take (i := 3) (v := ?_) rfl (by kernel_rfl) (by kernel_rfl) (by kernel_rfl) (fun _ _ _ h => h) (Or.inl ⟨by rfl, ?_⟩) ⟨q0, q1⟩ ?_
                  rotate_left
                  · (intro w_ hS_; obtain ⟨s0, s1⟩ := hS_; go_simp; try with_reducible rfl)
                  refine wpAnyH_take (i := 5) (v := ?_) rfl (by kernel_rfl) (by kernel_rfl) (by kernel_rfl) (fun _ _ _ h => h) (Or.inl ⟨by rfl, ?_⟩) ⟨q0, q1⟩ ?_
                  rotate_left
                  · (intro w_ hS_; obtain ⟨s0, s1⟩ := hS_; go_simp; try with_reducible rfl)
                  refine wpAnyH_take (i := 6) (v := ?_) rfl (by kernel_rfl) (by kernel_rfl) (by kernel_rfl) (fun _ _ _ h => h) (Or.inl ⟨by rfl, ?_⟩) ⟨q0, q1⟩ ?_
                  rotate_left
                  · (intro w_ hS_; obtain ⟨s0, s1⟩ := hS_; go_simp; try with_reducible rfl)
                  refine wpAnyH_take (i := 7) (v := ?_) rfl (by kernel_rfl) (by kernel_rfl) (by kernel_rfl) (fun _ _ _ h => h) (Or.inl ⟨by rfl, ?_⟩) ⟨q0, q1⟩ ?_
                  rotate_left
                  · (intro w_ hS_; obtain ⟨s0, s1⟩ := hS_; go_simp; try with_reducible rfl)
                  refine wpAnyH_take (i := 11) (v := ?_) rfl (by kernel_rfl) (by kernel_rfl) (by kernel_rfl) (fun _ _ _ h => h) (Or.inl ⟨by rfl, ?_⟩) ⟨q0, q1⟩ ?_
                  rotate_left
                  · (intro w_ hS_; obtain ⟨s0, s1⟩ := hS_; go_simp; try with_reducible rfl)
                  refine wpAnyH_take (i := 12) (v := ?_) rfl (by kernel_rfl) (by kernel_rfl) (by kernel_rfl) (fun _ _ _ h => h) (Or.inl ⟨by rfl, ?_⟩) ⟨q0, q1⟩ ?_
                  rotate_left
                  · (intro w_ hS_; obtain ⟨s0, s1⟩ := hS_; go_simp; try with_reducible rfl)
                  refine wpAnyH_take (i := 13) (v := ?_) rfl (by kernel_rfl) (by kernel_rfl) (by kernel_rfl) (fun _ _ _ h => h) (Or.inl ⟨by rfl, ?_⟩) ⟨q0, q1⟩ ?_
                  rotate_left
                  · (intro w_ hS_; obtain ⟨s0, s1⟩ := hS_; go_simp; try with_reducible rfl)
                  refine wpAnyH_ask (i := 4) (v := _) rfl (by kernel_rfl) (by kernel_rfl) (by kernel_rfl) (fun _ _ _ h => h) ⟨by rfl, _, _, ?_, fun w_ hS_ => clean_letter (bs p.name) w_⟩ ⟨q0, q1⟩ ?_
                  · (intro w_; go_simp; try with_reducible rfl)
                  refine wpAnyH_ask (i := 14) (v := _) rfl (by kernel_rfl) (by kernel_rfl) (by kernel_rfl) (fun _ _ _ h => h) ⟨by rfl, _, _, ?_, fun w_ hS_ => clean_plain (bs p.value) w_⟩ ⟨q0, q1⟩ ?_
                  · (intro w_; go_simp; try with_reducible rfl)
                  rw [L_bs, L_bs]
                  have hcv1 := conv_one ((w3.alloc (.cells #[.int .u8 (97 + (k : Int))] 5)).drew) w3.heap.size k hk8 ((Blk.new w3 _ _).cell 0)
                  have hcv2 := conv_one (((w3.alloc (.cells #[.int .u8 (97 + (k : Int))] 5)).alloc (.cells #[.string ⟨#[]⟩, .string ⟨#[]⟩] 44)).drew) w3.heap.size k hk8 (((Blk.new w3 _ _).alloc _).cell 0)
                  have hcv3 := conv_one (((w3.alloc (.cells #[.string ⟨#[]⟩, .string ⟨#[]⟩] 44)).alloc (.cells #[.int .u8 (97 + (k : Int))] 5)).drew) (w3.heap.size + 1) k hk8 ((pair_second w3 _ _ _).1.cell 0)
                  refine wpAnyH_ready (rs := [8, 16]) (by kernel_rfl) (by simp) ?_
                  refine AllReadyH.cons rfl (fun K_ hK_ => ?_) (AllReadyH.cons rfl (fun K_ hK_ => ?_) AllReadyH.nil)
                  · go_simp
                    refine hK_.out _ _ (by exact ⟨(hpb.alloc _).cell 0, (hpb.alloc _).cell 1⟩) fun _ => ?_
                    clear hK_ K_
                    refine wpAnyH_ready (rs := [9, 16]) (by kernel_rfl) (by simp) ?_
                    refine AllReadyH.cons rfl (fun K_ hK_ => ?_) (AllReadyH.cons rfl (fun K_ hK_ => ?_) AllReadyH.nil)
                    · go_simp
                      refine hK_.out _ _ (by exact ⟨(hpb.alloc _).cell 0, (hpb.alloc _).cell 1⟩) fun _ => ?_
                      clear hK_ K_
                      refine wpAnyH_take (i := 10) (v := ?_) rfl (by kernel_rfl) (by kernel_rfl) (by kernel_rfl) (fun _ _ _ h => h) (Or.inl ⟨by rfl, ?_⟩) ⟨(hpb.alloc _).cell 0, (hpb.alloc _).cell 1⟩ ?_
                      rotate_left
                      · (intro w_ hS_; obtain ⟨s0, s1⟩ := hS_; go_simp; try with_reducible rfl)
                      refine wpAnyH_take (i := 15) (v := ?_) rfl (by kernel_rfl) (by kernel_rfl) (by kernel_rfl) (fun _ _ _ h => h) (Or.inl ⟨by rfl, ?_⟩) ⟨(hpb.alloc _).cell 0, (hpb.alloc _).cell 1⟩ ?_
                      rotate_left
                      · (intro w_ hS_; obtain ⟨s0, s1⟩ := hS_; go_simp; try with_reducible rfl)
                      refine wpAnyH_ready (rs := [16]) (by kernel_rfl) (by simp) ?_
                      refine AllReadyH.cons rfl (fun K_ hK_ => ?_) AllReadyH.nil
                      go_simp
                      refine hK_.out _ _ (by exact ⟨((hpb.alloc _).alloc _).cell 0, ((hpb.alloc _).alloc _).cell 1⟩) fun _ => ?_
                      clear hK_ K_
                      refine wpAnyH_ready (rs := [17]) (by kernel_rfl) (by simp) ?_
                      refine AllReadyH.cons rfl (fun K_ hK_ => ?_) AllReadyH.nil
                      go_simp
                      refine hK_.out _ _ (by exact ⟨((hpb.alloc _).alloc _).cell 0, ((hpb.alloc _).alloc _).cell 1⟩) fun _ => ?_
                      clear hK_ K_
                      refine wpAnyH_done (by kernel_rfl) ?_ _
                      go_wp2_with fail
                      go_meet
                      case rel =>
                        rw [bs_append]
                        exact ⟨_, rfl, by omega, (pair_second w3 _ _ _).1, (pair_second w3 _ _ _).2.drew⟩
                    · go_simp
                      refine hK_.out _ _ (by exact ⟨((hpb.alloc _).alloc _).cell 0, ((hpb.alloc _).alloc _).cell 1⟩) fun _ => ?_
                      clear hK_ K_
                      refine wpAnyH_ready (rs := [9]) (by kernel_rfl) (by simp) ?_
                      refine AllReadyH.cons rfl (fun K_ hK_ => ?_) AllReadyH.nil
                      go_simp
                      refine hK_.out _ _ (by exact ⟨((hpb.alloc _).alloc _).cell 0, ((hpb.alloc _).alloc _).cell 1⟩) fun _ => ?_
                      clear hK_ K_
                      refine wpAnyH_take (i := 10) (v := ?_) rfl (by kernel_rfl) (by kernel_rfl) (by kernel_rfl) (fun _ _ _ h => h) (Or.inl ⟨by rfl, ?_⟩) ⟨((hpb.alloc _).alloc _).cell 0, ((hpb.alloc _).alloc _).cell 1⟩ ?_
                      rotate_left
                      · (intro w_ hS_; obtain ⟨s0, s1⟩ := hS_; go_simp; try with_reducible rfl)
                      refine wpAnyH_take (i := 15) (v := ?_) rfl (by kernel_rfl) (by kernel_rfl) (by kernel_rfl) (fun _ _ _ h => h) (Or.inl ⟨by rfl, ?_⟩) ⟨((hpb.alloc _).alloc _).cell 0, ((hpb.alloc _).alloc _).cell 1⟩ ?_
                      rotate_left
                      · (intro w_ hS_; obtain ⟨s0, s1⟩ := hS_; go_simp; try with_reducible rfl)
                      refine wpAnyH_ready (rs := [17]) (by kernel_rfl) (by simp) ?_
                      refine AllReadyH.cons rfl (fun K_ hK_ => ?_) AllReadyH.nil
                      go_simp
                      refine hK_.out _ _ (by exact ⟨((hpb.alloc _).alloc _).cell 0, ((hpb.alloc _).alloc _).cell 1⟩) fun _ => ?_
                      clear hK_ K_
                      refine wpAnyH_done (by kernel_rfl) ?_ _
                      go_wp2_with fail
                      go_meet
                      case rel =>
                        rw [bs_append]
                        exact ⟨_, rfl, by omega, (pair_second w3 _ _ _).1, (pair_second w3 _ _ _).2.drew⟩
                  · go_simp
                    refine hK_.out _ _ (by exact ⟨(hpb.alloc _).cell 0, (hpb.alloc _).cell 1⟩) fun _ => ?_
                    clear hK_ K_
                    refine wpAnyH_ready (rs := [8]) (by kernel_rfl) (by simp) ?_
                    refine AllReadyH.cons rfl (fun K_ hK_ => ?_) AllReadyH.nil
                    go_simp
                    refine hK_.out _ _ (by exact ⟨((hpb.alloc _).alloc _).cell 0, ((hpb.alloc _).alloc _).cell 1⟩) fun _ => ?_
                    clear hK_ K_
                    refine wpAnyH_ready (rs := [9]) (by kernel_rfl) (by simp) ?_
                    refine AllReadyH.cons rfl (fun K_ hK_ => ?_) AllReadyH.nil
                    go_simp
                    refine hK_.out _ _ (by exact ⟨((hpb.alloc _).alloc _).cell 0, ((hpb.alloc _).alloc _).cell 1⟩) fun _ => ?_
                    clear hK_ K_
                    refine wpAnyH_take (i := 10) (v := ?_) rfl (by kernel_rfl) (by kernel_rfl) (by kernel_rfl) (fun _ _ _ h => h) (Or.inl ⟨by rfl, ?_⟩) ⟨((hpb.alloc _).alloc _).cell 0, ((hpb.alloc _).alloc _).cell 1⟩ ?_
                    rotate_left
                    · (intro w_ hS_; obtain ⟨s0, s1⟩ := hS_; go_simp; try with_reducible rfl)
                    refine wpAnyH_take (i := 15) (v := ?_) rfl (by kernel_rfl) (by kernel_rfl) (by kernel_rfl) (fun _ _ _ h => h) (Or.inl ⟨by rfl, ?_⟩) ⟨((hpb.alloc _).alloc _).cell 0, ((hpb.alloc _).alloc _).cell 1⟩ ?_
                    rotate_left
                    · (intro w_ hS_; obtain ⟨s0, s1⟩ := hS_; go_simp; try with_reducible rfl)
                    refine wpAnyH_ready (rs := [17]) (by kernel_rfl) (by simp) ?_
                    refine AllReadyH.cons rfl (fun K_ hK_ => ?_) AllReadyH.nil
                    go_simp
                    refine hK_.out _ _ (by exact ⟨((hpb.alloc _).alloc _).cell 0, ((hpb.alloc _).alloc _).cell 1⟩) fun _ => ?_
                    clear hK_ K_
                    refine wpAnyH_done (by kernel_rfl) ?_ _
                    go_wp2_with fail
                    go_meet
                    case rel =>
                      rw [bs_append]
                      exact ⟨_, rfl, by omega, (pair_first w3 _ _ _).1, (pair_first w3 _ _ _).2.drew⟩
                case rest =>
                  obtain ⟨Y, rfl, hY, HYB, HBY⟩ := hcut
                  obtain ⟨w4, rfl⟩ : ∃ w4 : World, w4 = wc := ⟨_, rfl⟩
                  have hbt4 := hbt3.below HBY.out hbt3.lt
                  have hown4 := hown3.below HBY.out
                  have hgr4 := grown_below hgr3 HBY.out
                  have hs4 := HBY.out.size
                  have hql1 : (cleanF letterB p.name ++ [97 + UInt8.ofNat k]).length ≤ 31 := by rw [List.length_append]; have := cleanF_len letterB p.name; simp only [List.length_cons, List.length_nil]; omega
                  have hql2 := cleanF_len plainB p.value
                  have HGA : Hid (GoodAttr ⟨cleanF letterB p.name ++ [97 + UInt8.ofNat k], cleanF plainB p.value⟩) := good_attr p k hk8
                  have hown3lt : ∀ k, (Value.slice Av qs.length cv).ownBlock = some k → k < w3.heap.size := fun k hk => (hown3.lt k hk).2
                  clear hbt3 hown3 hgr3 hpb q0 q1 r0 r1 hpz hpn hwk1 hwk2
                  generalize cleanF letterB p.name ++ [97 + UInt8.ofNat k] = qn at *
                  generalize cleanF plainB p.value = qv at *
                  have q0 := hbt4.cell 0
                  have q1 := hbt4.cell 1
                  have q2 := hbt4.cell 2
                  have hro := hown4.gr (F := fun _ => True) (fun _ _ => trivial) (fun _ _ => trivial)
                  obtain ⟨Ar, cr, hre, hrc1, hrc2, hro2⟩ := pairs_open (GR.lt_heap _ _ hro)
                  injection hre with e1 e2 e3
                  subst e1 e3
                  have HRO := Lib.hid hro2
                  have hcrl : (qs.length : Int) ≤ (cv : Int) := by omega
                  have hYT : T < Y := by have := hbt4.lt; omega
                  have HY0 := Lib.hid (HYB.out.cell 0)
                  have HY1 := Lib.hid (HYB.out.cell 1)
                  clear hro hro2 e2 hrc1 hrc2
                  go_wp2_with fail
                  clear q0 q1 q2
                  go_loopw [78] (fun i wq => ∃ j : Nat, j ≤ qs.length ∧ i = .int .i64 j ∧ Below w4.heap.size w4 wq ∧ Hid (∀ x ∈ qs.take j, x.name ≠ qn)) (fun i _ => qs.length - (intOf i).toNat)
                  case atStart => exact ⟨0, Nat.zero_le _, rfl, Below.refl _ _, by rw [Hid, List.take_zero]; simp⟩
                  case round =>
                    obtain ⟨j, hj, rfl, hbq, HNE⟩ := hrel
                    by_cases hjl : j < qs.length
                    · obtain ⟨bz, oz, rfl, ⟨-, hbz⟩, hcz⟩ := HRO.out (by rintro h; rw [h] at hjl; simp at hjl)
                      obtain ⟨z0, z1⟩ := hcz j hjl
                      have HXN : Hid (∀ x ∈ qs.take (j + 1), x.name ≠ qn ∨ x = qs[j]) := by
                        intro x hx
                        rw [List.take_succ_eq_append_getElem hjl] at hx
                        rcases List.mem_append.1 hx with hx | hx
                        · exact .inl (HNE.out x hx)
                        · exact .inr (by simpa using hx)
                      clear hcz
                      generalize qs[j] = z at *
                      have y0 := (hbq.cell (p := ⟨bz, oz + j * 2, none⟩) hbz).trans z0
                      have y1 := (hbq.cell (p := ⟨bz, oz + j * 2 + 1, none⟩) hbz).trans z1
                      have hYl := HYB.out.lt
                      have y2 := ((HYB.out.below hbq hYl).alloc (.cells #[.string (bs z.name), .string (bs z.value)] 44)).cell 0
                      have hjs : Hid (j + 1 ≤ qs.length) := hjl
                      clear z0 z1
                      by_cases hzn : z.name = qn
                      · have hbn : ((bs z.name).toList == (bs qn).toList) = true := by rw [hzn]; simp
                        have y3 := ((HYB.out.below hbq hYl).alloc (.cells #[.string (bs z.name), .string (bs z.value)] 44)).cell 1
                        clear hzn
                        go_wp2_with fail
                        refine (alive_calls _).mono ?_
                        rintro e w5 ⟨rfl, hb5⟩
                        go_wp2_with fail
                        go_ret
                        have ha5 : Below wr.heap.size wr (wr.alloc (.cells #[.string (bs z.name), .string (bs z.value)] 44)) := (Below.refl _ _).alloc (Nat.le_refl _) _
                        exact ⟨rfl, tags_below hb12 hgr4 hTw hwt (hbq.trans ((ha5.trans (hb5.mono ha5.size)).mono hbq.size))⟩
                      · have hbn : ((bs z.name).toList == (bs qn).toList) = false := by rw [beq_eq_false_iff_ne, toList_bs, toList_bs]; exact hzn
                        have HZN := Lib.hid hzn
                        clear hzn
                        go_wp2_with fail
                        refine ⟨⟨j + 1, hjs.out, by go_num, hbq.alloc hbq.size _, fun x hx => ?_⟩, by have := hjs.out; simp [intOf]; omega⟩
                        rcases HXN.out x hx with h | rfl
                        · exact h
                        · exact HZN.out
                    · have hjq : j = qs.length := by omega
                      have hne2 : ∀ x ∈ qs, x.name ≠ qn := by
                        have := HNE.out
                        rwa [hjq, List.take_length] at this
                      have HN2 := Lib.hid hne2
                      have HJQ := Lib.hid hjq
                      have hal6 : Below wr.heap.size wr (wr.alloc (.cells #[.string (bs qn), .string (bs qv)] 44)) := (Below.refl _ _).alloc (Nat.le_refl _) _
                      have hb46 := hbq.trans (hal6.mono hbq.size)
                      have hbt5 := hbt4.below hbq hbt4.lt
                      have hbt6 := hbt4.below hb46 hbt4.lt
                      have hyb5 := HYB.out.below hbq HYB.out.lt
                      have hyb6 := HYB.out.below hb46 HYB.out.lt
                      have hgr6 := grown_below hgr4 hb46
                      have hown6 := hown4.below hb46
                      have hs6 := hb46.size
                      have hs24 := hgr4.size
                      have hap : App (wr.alloc (.cells #[.string (bs qn), .string (bs qv)] 44)) w2.heap.size 44 2 32 (fun _ => False) (.slice Av qs.length cv) (qs.map Pair.gv) (some ⟨wr.heap.size, 0, none⟩) 1 [Pair.gv ⟨qn, qv⟩] [.string (bs qn), .string (bs qv)] (qs.length + 1) := by
                        have := App.of_new (bytes := 32) hown6 (Blk.new wr 44 [.string (bs qn), .string (bs qv)].toArray) (cells_pair ⟨qn, qv⟩) rfl (by simp only [List.length_map]; omega) (by omega) (by omega)
                        simpa only [List.length_map] using this
                      have HAP := Lib.hid hap
                      have HOB : Hid (∀ k, (Value.slice Av qs.length cv).ownBlock = some k → w2.heap.size ≤ k ∧ k < w4.heap.size) := Lib.hid (fun k hk => hown4.lt k hk)
                      have HNT : Hid (some T ≠ (Value.slice Av qs.length cv).ownBlock) := Lib.hid (fun e => by have := (HOB.out T e.symm).1; omega)
                      have HNY : Hid (some Y ≠ (Value.slice Av qs.length cv).ownBlock) := Lib.hid (fun e => by have := (hown3lt Y e.symm); omega)
                      have q0 := hbt5.cell 0
                      have q1 := hbt5.cell 1
                      have q2 := hbt5.cell 2
                      have y0 := hyb5.cell 0
                      have y1 := hyb5.cell 1
                      have HB6 := Lib.hid hbt6
                      have HY6 := Lib.hid hyb6
                      have HG6 := Lib.hid hgr6
                      have hTY : T ≠ Y := by omega
                      have hx0 : (bs X).size ≤ 900 := by
                        have h1 := HX.out
                        have h2 := HQ.out.2.2.2
                        rw [size_bs, h1]; simp only [List.length_append, headText]
                        split <;> simp only [closB, openB, List.length_cons, List.length_nil] <;> omega
                      have hx1 : (bs g).size ≤ 5 := by rw [size_bs]; exact hgl
                      have hx2 : (bs qn).size ≤ 31 := by rw [size_bs]; exact hql1
                      have hx3 : (bs qv).size ≤ 30 := by rw [size_bs]; exact hql2
                      clear hap hne2 hjq hbt5 hbt6 hyb5 hyb6 hgr6 hown6 hown4 hgr4 hbt4 HNE
                      go_wp2_with (at_builtin; go_loud (refine HAP.out.plain rfl _ _ _ rfl pairTy rfl rfl ?_); intro A7 c7 w7 hown7 hgr7 hor; have hbt7 := HB6.out.grown hgr7 HNT.out; have hyb7 := HY6.out.grown hgr7 HNY.out; have x2 := hbt7.cell 2; have x3 := hbt7.frozen 2; have y4 := hyb7.cell 0; have y5 := hyb7.cell 1; have HB7 := Lib.hid hbt7; have HOW7 := Lib.hid hown7; have HGR7 := Lib.hid hgr7; clear hown7 hgr7 hor hbt7 hyb7)
                      have hg7 := grown_grown HG6.out HGR7.out (fun m hm => .inr (HOB.out m hm).1)
                      have hg8 : w7.grownBy (w7.setCell ⟨T, 2, none⟩ (.slice A7 (qs.length + 1) c7)) (some T) := grown_setCell (grown_refl _ _) (.inl rfl) _
                      have ho8 := HOW7.out.kept hg8 (.inr (HOW7.out.ne hwt)) (fun _ h => h.elim)
                      have hb8 : Blk (w7.setCell ⟨T, 2, none⟩ (.slice A7 (qs.length + 1) c7)) T 41 #[.int .i64 kd, .string (bs nx), .slice A7 (qs.length + 1) c7] := HB7.out.set_ 2 (.slice A7 (qs.length + 1) c7)
                      obtain ⟨hq1, hq2, hq3, hq4⟩ := HQ.out
                      have hlen : (qs ++ [(⟨qn, qv⟩ : Pair)]).length = qs.length + 1 := by rw [List.length_append]; rfl
                      have hat : (attrText g ⟨qn, qv⟩).length ≤ 100 := by
                        simp only [attrText, List.length_append, List.length_cons, List.length_nil]; omega
                      have hts : attrsText g (qs ++ [⟨qn, qv⟩]) = attrsText g qs ++ attrText g ⟨qn, qv⟩ := by rw [attrsText_append]; simp [attrsText]
                      refine ⟨⟨k + 1, qs ++ [⟨qn, qv⟩], A7, c7, X ++ attrText g ⟨qn, qv⟩, hkl.out, by go_num, congrArg Value.string ?_, ?_, ?_, ?_, grown_setCell hg7 (.inl rfl) _, ?_, ?_, ?_⟩, by have := hkl.out; simp [intOf]; omega⟩
                      · apply L_ext
                        simp only [L_append, L_bs, attrText]
                        show X ++ ([32] ++ g ++ qn ++ [61, 34] ++ qv ++ [34]) = _
                        simp
                      · rw [Hid, hts, HX.out, List.append_assoc]
                      · rw [hlen]; exact hb8
                      · rw [hlen, List.map_append]; exact ho8
                      · rw [hlen]; omega
                      · rw [hlen]; omega
                      · refine ⟨fun x hx => ?_, apart_snoc hq2 HN2.out, fun e => absurd e H2.out, ?_⟩
                        · rcases List.mem_append.1 hx with hx | hx
                          · exact hq1 x hx
                          · have : x = ⟨qn, qv⟩ := by simpa using hx
                            subst this
                            exact HGA.out
                        · rw [hts, List.length_append, hlen]; omega
            · go_wp2_with fail
              refine ⟨⟨k + 1, qs, Av, cv, X, hkl.out, by go_num, rfl, HX, hbt.alloc _, hown.below hal1, grown_alloc hgr _, by omega, hq8, HQ⟩, by have := hkl.out; simp [intOf]; omega⟩
          · have hX := HX.out
            obtain ⟨hq1, hq2, hq3, hq4⟩ := HQ.out
            have hal := allF_tag kd (by omega) nx g qs HXE.out.1 HXE.out.2 HGB.out hq1 hq2 hq8 hq3
            have hbl := tag_built kd nx g qs hq3
            rw [← hX] at hbl
            have hXl : X.length ≤ 900 := by
              rw [hX]; simp only [List.length_append, headText]
              split <;> simp only [closB, openB, List.length_cons, List.length_nil] <;> omega
            have hs3 : (bs X).size ≤ 900 := by rw [size_bs]; exact hXl
            have hs4 : (bs g).size ≤ 5 := by rw [size_bs]; exact hgl
            have hs5 : (bs X ++ bs g).size ≤ 905 := by rw [ByteArray.size_append]; omega
            have HAL := Lib.hid hal
            have q0 := hbt.cell 0
            have q1 := hbt.cell 1
            have q2 := hbt.cell 2
            clear hX hq1 hq2 hq3 hq4 hal HQ hXl
            have hgs := hgr.size
            go_upto_if 113 with (fail)
            go_cut [13] from 114 to 115 (fun sv wx => ∃ S1 : List UInt8, sv = .string (bs S1) ∧ wx = wr ∧ Hid (S1 ++ [62] = tagText kd nx g qs) ∧ S1.length ≤ 950)
            case first =>
              by_cases h3 : kd = 3
              · have hb : (kd == 3) = true := by rw [h3]; rfl
                have H3 := Lib.hid h3
                have HBL := Lib.hid hbl
                clear hbl h3
                go_wp2_with fail
                go_meet
                case rel =>
                  refine ⟨X ++ g ++ [47], congrArg Value.string (by rw [← bs_append, ← bs_append]; rfl), rfl, ?_, ?_⟩
                  · rw [Hid, ← HBL.out, endText, if_pos H3.out, List.append_assoc (X ++ g)]; rfl
                  · rw [size_bs] at hs3 hs4; simp only [List.length_append, List.length_cons, List.length_nil]; omega
              · have hb : (kd == 3) = false := by rw [beq_eq_false_iff_ne]; exact h3
                have H3 := Lib.hid h3
                have HBL := Lib.hid hbl
                clear hbl h3
                go_wp2_with fail
                go_meet
                case rel =>
                  refine ⟨X ++ g, congrArg Value.string (bs_append _ _), rfl, ?_, ?_⟩
                  · rw [Hid, ← HBL.out, endText, if_neg H3.out]
                  · rw [size_bs] at hs3 hs4; simp only [List.length_append]; omega
            case rest =>
              obtain ⟨S1, rfl, hww, HS1, hS1⟩ := hcut
              have hww := hww.symm
              subst hww
              clear hbl hs3 hs4 hs5
              have hs6 : (bs S1).size ≤ 950 := by rw [size_bs]; exact hS1
              have hS : L (bs S1 ++ ⟨#[62]⟩) = tagText kd nx g qs := by rw [← HS1.out, L_append, L_bs]; rfl
              have hsz : (bs S1 ++ ⟨#[62]⟩ : ByteArray).size ≤ 1000 := by
                rw [ByteArray.size_append]
                show (bs S1).size + 1 ≤ 1000
                omega
              have HSZ := Lib.hid hsz
              have HSL : Hid ((bs S1 ++ ⟨#[62]⟩ : ByteArray).size = (tagText kd nx g qs).length) := by rw [Hid, size_L, hS]
              have HS := Lib.hid hS
              clear hsz hS
              go_wp2_with fail
              refine (all_calls _ wr (Nat.le_trans HSZ.out (by omega))).mono ?_
              rw [HS.out]
              by_cases h4 : (tagText kd nx g qs).length ≤ 400
              · rw [HAL.out.trans (if_pos h4)]
                rintro e w3 ⟨vl, rfl, hgl3, hb3⟩
                obtain ⟨Al, cl, rfl, -, -, -⟩ := toks_open hgl3
                have HGL := Lib.hid hgl3
                have hsz : ¬ (400 : Int) < ((bs S1).size : Int) + 1 := by
                  have h1 := HSL.out
                  rw [ByteArray.size_append] at h1
                  have h1 : (bs S1).size + 1 = _ := h1
                  omega
                have hbt3 := hbt.below hb3 hbt.lt
                clear h4 hgl3
                go_wp2_with fail
                refine (alive_calls w3).mono ?_
                rintro e w4 ⟨rfl, hb4⟩
                have hbt4 := hbt3.below hb4 hbt3.lt
                have q3 := hbt4.cell 0
                have q4 := hbt4.cell 1
                have q5 := hbt4.cell 2
                go_wp2_with fail
                have hal4 : Below w4.heap.size w4 (w4.alloc (.cells #[.int .i64 kd, .string (bs nx), .slice Av qs.length cv] 41)) := (Below.refl _ _).alloc (Nat.le_refl _) _
                have hva : GR (w4.alloc (.cells #[.int .i64 kd, .string (bs nx), .slice Av qs.length cv] 41)) (fun k => wr.heap.size ≤ k) (.row 3 ([(⟨kd, nx, qs⟩ : Token)].map Token.gv)) [.slice Al 1 cl] :=
                  (HGL.out.below hb4).below hal4
                have hqr := ((((hown.below hb3).below hb4).below hal4).gr (F := fun _ => True) (fun _ _ => trivial) (fun _ _ => trivial))
                have hvb : GR (w4.alloc (.cells #[.int .i64 kd, .string (bs nx), .slice Av qs.length cv] 41)) (fun _ => True) (.row 3 ([(⟨kd, nx, qs⟩ : Token)].map Token.gv)) [.slice (some ⟨w4.heap.size, 0, none⟩) 1 1] :=
                  gr_one_new (cs := [.int .i64 kd, .string (bs nx), .slice Av qs.length cv]) (Blk.new w4 _ _) trivial (cells_tok hqr) rfl
                clear q3 q4 q5
                refine (same_calls [⟨kd, nx, qs⟩] [⟨kd, nx, qs⟩] _ _ _ _ _ hva hvb).mono ?_
                rw [decide_eq_true rfl]
                rintro e w5 ⟨rfl, hb5⟩
                go_wp2_with fail
                go_ret
                exact ⟨rfl, tags_below hb12 hgr hTw hwt (hb3.trans ((hb4.mono hb3.size).trans ((hal4.trans (hb5.mono hal4.size)).mono (Nat.le_trans hb3.size hb4.size))))⟩
              · rw [HAL.out.trans (if_neg h4)]
                rintro e w3 ⟨vl, rfl, hgl3, hb3⟩
                obtain ⟨Al, cl, rfl, -, -, -⟩ := toks_open hgl3
                have hsz : (400 : Int) < ((bs S1).size : Int) + 1 := by
                  have h1 := HSL.out
                  rw [ByteArray.size_append] at h1
                  have h1 : (bs S1).size + 1 = _ := h1
                  omega
                clear h4
                go_wp2_with fail
                refine (alive_calls w3).mono ?_
                rintro e w4 ⟨rfl, hb4⟩
                go_wp2_with fail
                go_ret
                exact ⟨rfl, tags_below hb12 hgr hTw hwt (hb3.trans (hb4.mono hb3.size))⟩
end Go.Proofs.Ytijpfcjlochahaa
