/- The walks of the reference's Build and Read (layer 15). The walks of the reference of layer 16: attr, names, Write, Right. -/
import Derived.Test.YtijpfcjlochahaaGreatDoorRefW
import Derived.Test.YtijpfcjlochahaaGreatDoorRefK
import Derived.Test.YtijpfcjlochahaaGreatDoorDocL
import Derived.Test.YtijpfcjlochahaaGreatDoorShwP
import Derived.Test.YtijpfcjlochahaaGreatDoorLike
import Derived.Deep.RegionHeld3
import Derived.Deep.CutRange
import Derived.Deep.CutBlock
namespace Go.Proofs.YtijpfcjlochahaaGreatDoor
open Go Go.RowKit
set_option linter.unusedVariables false
set_option linter.unusedSimpArgs false

theorem known_plain (l : List Token) : ∀ t ∈ l.map knownF, PlainT t := by
  intro t ht
  obtain ⟨u, _, rfl⟩ := List.mem_map.1 ht
  unfold knownF
  split
  · rename_i h
    exact .inr h
  · exact .inl ⟨rfl, rfl⟩
theorem known_text (t : Token) : (knownF t).text = t.text := by unfold knownF; split <;> rfl
theorem known_sum (l : List Token) : textSum (l.map knownF) = textSum l := by
  unfold textSum
  rw [List.map_map]
  congr 2
  funext t
  exact congrArg List.length (known_text t)
theorem text_le {t : Token} : ∀ {l : List Token}, t ∈ l → t.text.length ≤ textSum l
  | u :: l, h => by
    have e : textSum (u :: l) = u.text.length + textSum l := by simp [textSum]
    rcases List.mem_cons.1 h with rfl | h
    · omega
    · have := text_le h
      omega
def R15Post (w : World) (r : List Elem × Int) (e : Ending) (w' : World) : Prop :=
  (∃ A c, e = .returned (.tuple #[.slice A r.1.length c, .int .i64 r.2]) ∧ GR w' (fun g => w.heap.size ≤ g) (.row 7 (r.1.map Elem.gv)) [.slice A r.1.length c]) ∧ Below w.heap.size w w'
set_option maxRecDepth 20000 in
set_option maxHeartbeats 4000000 in
theorem build15_calls (l : List Token) (v : Value) (F : Nat → Prop) (w : World) (hv : GR w F (.row 3 (l.map Token.gv)) [v]) (hlen : l.length ≤ 4000000) (hsum : textSum l ≤ 100000000) :
    Calls Tryz.prog 35 #[v] w (R15Post w (buildR l)) := by
  obtain ⟨A, c, rfl, hlc, hcm, hop⟩ := toks_open (GR.lt_heap _ _ hv)
  have HOP := Lib.hid hop
  have HBR : Hid (buildR l = if (withinR (joinedF l) 16 0 [] 0).2.1 ≠ 0 then ([], (withinR (joinedF l) 16 0 [] 0).2.1) else ((withinR (joinedF l) 16 0 [] 0).1, 0)) := rfl
  have HJ : Hid (joinR (l.map knownF) [] [] = joinedF l) := join_ref (known_plain l)
  have HJL : Hid ((joinedF l).length ≤ 4000000) := Nat.le_trans (joinF_len _) (by rw [List.length_map]; exact hlen)
  have HJT : Hid (∀ t ∈ joinedF l, t.text.length ≤ 100000000) := fun t ht => Nat.le_trans (text_le ht) (Nat.le_trans (joinF_sum _) (by rw [known_sum]; exact hsum))
  have HSUM := Lib.hid hsum
  generalize buildR l = BR at *
  clear hop hv hsum
  unfold maxLen at hcm
  have HS0 : Hid (JoSt w (w.alloc (.cells #[] 80)) (fun g => F g ∧ g < w.heap.size) (some ⟨w.heap.size, 0, none⟩) 0 0 []) :=
    ⟨⟨[], World.ownsRow_lit w #[] 0 (Nat.le_refl _) (by simp [maxLen]) (by simp), GRl_nil.2 rfl⟩, (Below.refl _ _).alloc (Nat.le_refl _) _, rfl⟩
  go_enter Tryz.func35, Tryz.ntmps35
  go_wp2_with fail
  go_loopw [4, 6, 12] (fun v1 _ i wr => ∃ (k : Nat) (A' : Option Addr) (c' : Nat), k ≤ l.length ∧ v1 = .slice A' k c' ∧ i = .int .i64 k ∧ Hid (JoSt w wr (fun g => F g ∧ g < w.heap.size) A' k c' ((l.take k).map knownF)))
     (fun _ _ i _ => l.length - (intOf i).toNat)
  case atStart => exact ⟨0, _, 0, Nat.zero_le _, rfl, rfl, HS0.out⟩
  case round =>
    clear HS0
    obtain ⟨k, A', c', hk, rfl, rfl, ST⟩ := hrel
    by_cases hlt : k < l.length
    · obtain ⟨bb, off, rfl, ⟨hF, hbl⟩, hop2⟩ := HOP.out (by rintro rfl; simp at hlt)
      obtain ⟨va, k0, k1, k2, hva⟩ := hop2 k hlt
      have e0 := (ST.out.below.cell (p := ⟨bb, off + k * 3, none⟩) hbl).trans k0
      have e1 := (ST.out.below.cell (p := ⟨bb, off + k * 3 + 1, none⟩) hbl).trans k1
      have e2 := (ST.out.below.cell (p := ⟨bb, off + k * 3 + 2, none⟩) hbl).trans k2
      obtain ⟨Av, cv, rfl, -, -, -⟩ := pairs_open hva
      have HTK : Hid ((l.take (k + 1)).map knownF = (l.take k).map knownF ++ [knownF l[k]]) := by
        rw [Hid, List.take_succ_eq_append_getElem hlt, List.map_append]; rfl
      have HVA := Lib.hid hva
      clear hop2 hva k0 k1 k2
      generalize l[k] = t at *
      have HNB : Hid (k ≤ 9000000) := by rw [Hid]; omega
      have HOL : Hid (∀ g, (Value.slice A' k c').ownBlock = some g → w.heap.size ≤ g) := fun g hg => (ST.out.own.lt g hg).1
      have HVM : Hid (∀ (W : World), Below w.heap.size w W → GR W (fun g => (F g ∧ g < w.heap.size) ∧ some g ≠ (Value.slice A' k c').ownBlock) (.row 2 (t.attrs.map Pair.gv)) [.slice Av t.attrs.length cv]) := fun W hb =>
        GR.mono (fun g hg => ⟨hg, fun e => by have := HOL.out g e.symm; have := hg.2; omega⟩) (fun g _ hlt => hb.block g hlt) _ _ HVA.out
      by_cases hkn : t.kind = 1 ∨ t.kind = 2 ∨ t.kind = 3
      · have HKT : Hid (knownF t = t) := if_pos hkn
        have hl1 : ¬ t.kind < 1 := by omega
        have hl3 : ¬ t.kind > 3 := by omega
        have ST5 := Lib.hid (ST.out.step ((Below.refl _ _).alloc (Nat.le_refl _) (.cells #[.int .i64 t.kind, .string (bs t.text), .slice Av t.attrs.length cv] 80)))
        have hA := tok_app ST5.out.own ST5.out.len HNB.out t (bs t.text) (L_bs _).symm (.slice Av t.attrs.length cv) (HVM.out _ ST5.out.below) ST5.out.below.size
        rw [size_alloc] at hA
        have HA := Lib.hid hA
        have HST8 := Lib.hid (ST5.out.step ((Below.refl _ _).alloc (Nat.le_refl _) (.cells #[.int .i64 t.kind, .string (bs t.text), .slice Av t.attrs.length cv] 80)))
        clear hA hkn
        go_wp2_with (at_builtin; go_loud (refine HA.out.plain rfl _ _ _ rfl tokTy rfl rfl ?_); intro A9 c9 w9 hown hgr hor; have ST9 := Lib.hid (HST8.out.push hgr hown); clear hown hgr hor)
        go_roundw
        case rel => exact ⟨k + 1, A9, c9, by omega, rfl, by go_num, by rw [HTK.out, HKT.out]; exact ST9.out⟩
        case measure => simp [intOf]; omega
      · have HKT : Hid (knownF t = textTok t.text) := if_neg hkn
        have hl : (t.kind < 1) ∨ ¬ (t.kind < 1) ∧ t.kind > 3 := by omega
        have ST5 := Lib.hid (ST.out.step ((Below.refl _ _).alloc (Nat.le_refl _) (.cells #[.int .i64 0, .string (bs t.text), .slice none 0 0] 80)))
        have hA := tok_app ST5.out.own ST5.out.len HNB.out (textTok t.text) (bs t.text) (L_bs _).symm (.slice none 0 0) gr_nil ST5.out.below.size
        rw [size_alloc] at hA
        have HA : Hid (App ((wr.alloc (.cells #[.int .i64 0, .string (bs t.text), .slice none 0 0] 80)).alloc (.cells #[.int .i64 0, .string (bs t.text), .slice none 0 0] 80)) w.heap.size 80 3 48 (fun g => F g ∧ g < w.heap.size) (.slice A' k c') (((l.take k).map knownF).map Token.gv) (some ⟨wr.heap.size + 1, 0, none⟩) 1 [(textTok t.text).gv] [.int .i64 0, .string (bs t.text), .slice none 0 0] (k + 1)) := hA
        have HST8 := Lib.hid (ST5.out.step ((Below.refl _ _).alloc (Nat.le_refl _) (.cells #[.int .i64 0, .string (bs t.text), .slice none 0 0] 80)))
        clear hA hkn
        rcases hl with hl1 | ⟨hl1, hl3⟩
        all_goals
          go_wp2_with (at_builtin; go_loud (refine HA.out.plain rfl _ _ _ rfl tokTy rfl rfl ?_); intro A9 c9 w9 hown hgr hor; have ST9 := Lib.hid (HST8.out.push hgr hown); clear hown hgr hor)
          go_roundw
          case rel => exact ⟨k + 1, A9, c9, by omega, rfl, by go_num, by rw [HTK.out, HKT.out]; exact ST9.out⟩
          case measure => simp [intOf]; omega
    · have hkl : k = l.length := by omega
      subst hkl
      rw [List.take_length] at ST
      go_wp2_with fail
      refine (rjoin_calls (l.map knownF) _ (fun g => F g ∨ w.heap.size ≤ g) wr (ST.out.own.gr (fun _ h => .inl h.1) (fun g hg => .inr (ST.out.own.lt g hg).1)) (by rw [List.length_map]; exact hlen) (by rw [known_sum]; exact HSUM.out)).mono ?_
      rw [HJ.out]
      rintro e w2 ⟨⟨v2, rfl, hg2⟩, hb2⟩
      generalize joinedF l = J at *
      obtain ⟨A2, c2, hv2, -, -, -⟩ := toks_open hg2
      subst hv2
      have HB2 := Lib.hid (ST.out.below.trans (hb2.mono ST.out.below.size))
      have HBK := Lib.hid (Blk.new w2 112 #[.slice A2 J.length c2, .int .i64 0, .int .i64 0])
      have hg3 := (GR.lt_heap _ _ hg2).below ((Below.refl _ _).alloc (Nat.le_refl _) (.cells #[.slice A2 J.length c2, .int .i64 0, .int .i64 0] 112))
      have hw := within_calls w2.heap.size J A2 c2 _ _ HJL.out HJT.out (fun g hg => by have := hg.2; omega) hg3 16 0 ⟨#[]⟩ 0 _ (Nat.le_refl _) (grown_refl _ _) HBK.out
      have HW := Lib.hid hw
      have HB3 := Lib.hid (HB2.out.alloc HB2.out.size (.cells #[.slice A2 J.length c2, .int .i64 0, .int .i64 0] 112))
      have HWS : Hid (w.heap.size ≤ w2.heap.size) := HB2.out.size
      clear hg2 hb2 hg3 hw HBK ST
      rw [show L ⟨#[]⟩ = [] from rfl] at HW
      generalize withinR J 16 0 [] 0 = z at *
      obtain ⟨zl, ze, zi⟩ := z
      go_wp2_with fail
      refine HW.out.mono ?_
      rintro e w4 ⟨⟨A4, c4, rfl, hg4⟩, hb4, hgr4⟩
      simp only at hg4 hb4 HBR ⊢
      have HB4 := Lib.hid (HB3.out.trans (below_of_grown hgr4 HB3.out.size (fun k hk => by injection hk with hk; have := HWS.out; omega)))
      have HG4 := Lib.hid hg4
      have c2' := hb4.cell 2
      clear hg4 hgr4 HW hb4
      by_cases hz : ze = 0
      · have hzb : (ze != 0) = false := by rw [hz]; rfl
        rw [if_neg (by simpa using hz)] at HBR
        clear hz
        go_wp2_with fail
        go_ret2
        have hgw := HG4.out.weaken (F' := fun g => w.heap.size ≤ g) (fun g hg => by rw [size_alloc] at hg; have := HWS.out; omega)
        exact ⟨⟨A4, c4, by rw [HBR.out]; rfl, by rw [HBR.out]; exact hgw⟩, HB4.out⟩
      · have hzb : (ze != 0) = true := by rw [bne_iff_ne]; exact hz
        rw [if_pos (by simpa using hz)] at HBR
        clear hz
        go_wp2_with (go_quiet (fail))
        go_ret2
        exact ⟨⟨none, 0, by rw [HBR.out]; rfl, by rw [HBR.out]; exact gr_nil⟩, below_drewN HB4.out _⟩
set_option maxRecDepth 20000 in
set_option maxHeartbeats 4000000 in
theorem read15_calls (s : ByteArray) (w : World) (hs : s.size ≤ 3000000) :
    Calls Tryz.prog 13 #[.string s] w (R15Post w (readR (L s))) := by
  have HRE : Hid (readR (L s) = if (allF (L s)).2 ≠ 0 then ([], (allF (L s)).2) else buildR (allF (L s)).1) := rfl
  have hsl := size_L s
  have HTA := Lib.hid (textSum_all (L s))
  go_enter Tryz.func13, Tryz.ntmps13
  go_wp2_with fail
  refine (rall_calls s w (by omega)).mono ?_
  generalize readR (L s) = R at *
  generalize allF (L s) = P at *
  obtain ⟨J, er⟩ := P
  rintro e w1 ⟨⟨v, rfl, hgr⟩, hb1⟩
  obtain ⟨A1, c1, rfl, -, -, -⟩ := toks_open hgr
  have HGR := Lib.hid hgr
  have HB1 := Lib.hid hb1
  clear hgr hb1
  simp only at HRE HTA
  by_cases he : er = 0
  · have hbe : (er != 0) = false := by rw [he]; rfl
    have HRE2 : Hid (R = buildR J) := HRE.out.trans (if_neg (by simpa using he))
    clear he HRE
    go_wp2_with fail
    refine (build15_calls J _ _ w1 HGR.out (by have := HTA.out.1; omega) (by have := HTA.out.2; omega)).mono ?_
    generalize buildR J = Q at *
    obtain ⟨ql, qe⟩ := Q
    rintro e w2 ⟨⟨A2, c2, rfl, h2⟩, hb2⟩
    have H2 := Lib.hid h2
    have HB2 := Lib.hid hb2
    clear h2 hb2
    go_wp2_with fail
    go_ret2
    exact ⟨⟨A2, c2, by rw [HRE2.out]; rfl, by rw [HRE2.out]; exact H2.out.weaken (fun k hk => Nat.le_trans HB1.out.size hk)⟩, HB1.out.trans (HB2.out.mono HB1.out.size)⟩
  · have hbe : (er != 0) = true := by rw [bne_iff_ne]; exact he
    have HRE2 : Hid (R = ([], er)) := HRE.out.trans (if_pos he)
    clear he HRE
    go_wp2_with fail
    go_ret2
    exact ⟨⟨none, 0, by rw [HRE2.out]; rfl, by rw [HRE2.out]; exact gr_nil⟩, HB1.out⟩
end Go.Proofs.YtijpfcjlochahaaGreatDoor
namespace Go.Proofs.YtijpfcjlochahaaGreatDoor
set_option linter.unusedVariables false
set_option linter.unusedSimpArgs false
open Go Go.RowKit

def attr1 (n v : List UInt8) : List UInt8 := shAttrs [(n, v)]
theorem attr1_eq (n v : List UInt8) : attr1 n v = [32] ++ n ++ [61, 34] ++ v ++ [34] := by simp [attr1, shAttrs]
theorem attr1_len (n v : List UInt8) : (attr1 n v).length = n.length + v.length + 4 := by rw [attr1_eq]; simp; omega
set_option maxRecDepth 20000 in
set_option maxHeartbeats 1000000 in
theorem attr16_calls (n v : ByteArray) (w : World) (hn : n.size ≤ 1000) (hv : v.size ≤ 200000000) :
    Calls Tryz.prog 49 #[.string n, .string v] w fun e w' => e = .returned (.string (bs (attr1 (L n) (L v)))) ∧ w = w' := by
  have s1 : (⟨#[32]⟩ : ByteArray).size = 1 := rfl
  have s2 : (⟨#[61, 34]⟩ : ByteArray).size = 2 := rfl
  have s3 : (⟨#[34]⟩ : ByteArray).size = 1 := rfl
  have q1 : (⟨#[32]⟩ : ByteArray).size + n.size ≤ 1000000000 := by omega
  have q2 : ((⟨#[32]⟩ : ByteArray) ++ n).size + (⟨#[61, 34]⟩ : ByteArray).size ≤ 1000000000 := by rw [ByteArray.size_append]; omega
  have q3 : ((⟨#[32]⟩ : ByteArray) ++ n ++ ⟨#[61, 34]⟩).size + v.size ≤ 1000000000 := by rw [ByteArray.size_append, ByteArray.size_append]; omega
  have q4 : ((⟨#[32]⟩ : ByteArray) ++ n ++ ⟨#[61, 34]⟩ ++ v).size + (⟨#[34]⟩ : ByteArray).size ≤ 1000000000 := by rw [ByteArray.size_append, ByteArray.size_append, ByteArray.size_append]; omega
  have HE : Hid ((⟨#[32]⟩ : ByteArray) ++ n ++ ⟨#[61, 34]⟩ ++ v ++ ⟨#[34]⟩ = bs (attr1 (L n) (L v))) := by
    apply L_ext
    rw [L_append, L_append, L_append, L_append, L_bs, attr1_eq]
    rfl
  clear s1 s2 s3 hn hv
  go_enter Tryz.func49, Tryz.ntmps49
  go_wp2_with fail
  go_ret
  exact ⟨by rw [← HE.out]; rfl, rfl⟩
def nm16 (k : Nat) : List UInt8 := ([[], [], [], [], nTry, nAttempt, nExcept, nChoose, [], nOtherwise, nVars, nRemove, []] : List (List UInt8))[k]?.getD []
set_option maxRecDepth 20000 in
set_option maxHeartbeats 1000000 in
theorem names_calls (w : World) : Calls Tryz.prog 50 #[] w fun e w' => e = .returned (.slice (some ⟨w.heap.size, 0, none⟩) 13 13) ∧ (∀ k, k < 13 → w'.cell? ⟨w.heap.size, k, none⟩ = some (.string (bs (nm16 k)))) ∧ Below w.heap.size w w' := by
  have hX := Blk.new w 9 #[.string (bs []), .string (bs []), .string (bs []), .string (bs []), .string (bs nTry), .string (bs nAttempt), .string (bs nExcept), .string (bs nChoose), .string (bs []), .string (bs nOtherwise), .string (bs nVars), .string (bs nRemove), .string (bs [])]
  have HC0 : Hid (∀ k, k < 13 → (w.alloc (.cells #[.string (bs []), .string (bs []), .string (bs []), .string (bs []), .string (bs nTry), .string (bs nAttempt), .string (bs nExcept), .string (bs nChoose), .string (bs []), .string (bs nOtherwise), .string (bs nVars), .string (bs nRemove), .string (bs [])] 9)).cell? ⟨w.heap.size, k, none⟩ = some (.string (bs (nm16 k)))) := by
    intro k hk
    rcases upto13 hk with rfl | rfl | rfl | rfl | rfl | rfl | rfl | rfl | rfl | rfl | rfl | rfl | rfl
    all_goals exact hX.cell _
  clear hX
  go_enter Tryz.func50, Tryz.ntmps50
  go_wp2_with fail
  go_ret
  exact ⟨rfl, HC0.out, (Below.refl _ _).alloc (Nat.le_refl _) _⟩
/-- What stands of an element behind what was written: written whole, or its name and its head. -/
def WrCut (x : Elem) (O O' nm hd : List UInt8) : Prop :=
  (nm = [] → O' = O ++ shE x) ∧ (nm ≠ [] → O' = O ∧ shE x = [60, 101, 115, 105, 58] ++ nm ++ hd ++ [62] ++ shF x.kids ++ [60, 47, 101, 115, 105, 58] ++ nm ++ [62])
theorem shF_take {l : List Elem} {k : Nat} (h : k < l.length) : shF (l.take (k + 1)) = shF (l.take k) ++ shE l[k] := by
  rw [List.take_succ_eq_append_getElem h, shF_append]
  simp [shF]
theorem shF_take_le (l : List Elem) (k : Nat) : (shF (l.take k)).length ≤ (shF l).length := by
  have e : shF l = shF (l.take k) ++ shF (l.drop k) := by rw [← shF_append, List.take_append_drop]
  rw [e, List.length_append]; omega
theorem sizeF_at : ∀ {l : List Elem} {k : Nat} (h : k < l.length), sizeF l[k].kids < sizeF l
  | e :: l, 0, h => by
    obtain ⟨a, b, c, d, f, g, i⟩ := e
    simp only [List.getElem_cons_zero, Elem.kids, sizeF, sizeE]
    omega
  | e :: l, k + 1, h => by
    have := sizeF_at (l := l) (k := k) (by simpa using h)
    simp only [List.getElem_cons_succ, sizeF]
    omega

set_option maxRecDepth 20000 in
set_option maxHeartbeats 4000000 in
theorem write16_calls : ∀ (m : Nat) (l : List Elem) (v : Value) (F : Nat → Prop) (w : World), sizeF l ≤ m → (shF l).length ≤ 100000000 → GR w F (.row 7 (l.map Elem.gv)) [v] →
    Calls Tryz.prog 29 #[v] w fun e w' => e = .returned (.string (bs (shF l))) ∧ Below w.heap.size w w' := by
  intro m
  induction m with
  | zero =>
    intro l v F w hm hs hv
    have hl : l = [] := by
      cases l with
      | nil => rfl
      | cons e l => obtain ⟨a, b, c, d, f, g, i⟩ := e; simp only [sizeF, sizeE] at hm; omega
    subst hl
    obtain ⟨A, c, rfl, -, -, -⟩ := elems_open hv
    go_enter Tryz.func29, Tryz.ntmps29
    go_wp2_with fail
    go_loopw [3, 5, 6, 7, 10] (fun s _ _ _ i wr => s = .string ⟨#[]⟩ ∧ i = .int .i64 0 ∧ Hid (Below w.heap.size w wr))
       (fun _ _ _ _ _ _ => 0)
    case atStart => exact ⟨rfl, rfl, Below.refl _ _⟩
    case round =>
      obtain ⟨rfl, rfl, HB⟩ := hrel
      go_wp2_with fail
      go_ret
      exact ⟨rfl, HB.out⟩
  | succ m ih =>
    intro l v F w hm hs hv
    obtain ⟨A, c, rfl, hlc, hcm, hop⟩ := elems_open (GR.lt_heap _ _ hv)
    have HOP := Lib.hid hop
    have HIH := Lib.hid ih
    have HSZ := Lib.hid hm
    unfold maxLen at hcm
    clear hop hv ih hm
    go_enter Tryz.func29, Tryz.ntmps29
    go_wp2_with fail
    go_loopw [3, 5, 6, 7, 10] (fun s _ _ _ i wr => ∃ k : Nat, k ≤ l.length ∧ s = .string (bs (shF (l.take k))) ∧ i = .int .i64 k ∧ Hid (Below w.heap.size w wr))
       (fun _ _ _ _ i _ => l.length - (intOf i).toNat)
    case atStart => exact ⟨0, Nat.zero_le _, rfl, rfl, Below.refl _ _⟩
    case round =>
      obtain ⟨k, hk, rfl, rfl, HB⟩ := hrel
      by_cases hlt : k < l.length
      · obtain ⟨b, off, rfl, ⟨_, hbw⟩, hop⟩ := HOP.out (by rintro rfl; simp at hlt)
        obtain ⟨Ak, ck, hE⟩ := hop k hlt
        have hE := hE.below HB.out hbw
        have e0 := hE.c0
        have e1 := hE.c1
        have e2 := hE.c2
        have e3 := hE.c3
        have e4 := hE.c4
        have e5 := hE.c5
        have e6 := hE.c6
        have HKI := Lib.hid hE.kids
        have HSF := Lib.hid (shF_take hlt)
        have hOl := shF_take_le l k
        have hOl2 := shF_take_le l (k + 1)
        rw [HSF.out, List.length_append] at hOl2
        have HKS : Hid (sizeF l[k].kids ≤ m) := by have := sizeF_at hlt; have := HSZ.out; rw [Hid]; omega
        clear hE hop hbw
        generalize l[k] = x at *
        generalize hO : shF (l.take k) = O at *
        have hO1 : O.length ≤ 100000000 := by omega
        have hX1 : (shE x).length ≤ 100000000 := by omega
        have HO1 := Lib.hid hO1
        have HX1 := Lib.hid hX1
        clear hO hOl hOl2
        obtain ⟨x0, xt, xs, xa, xb, xu, xl⟩ := x
        simp only [Elem.kind, Elem.text, Elem.src, Elem.alt, Elem.soft, Elem.test, Elem.kids] at e0 e1 e2 e3 e4 e5 e6 HKI HKS
        have HE := Lib.hid (Blk.new wr 74 #[.int .i64 x0, .string (bs xt), .string (bs xs), .string (bs xa), .bool xb, .string (bs xu), .slice Ak xl.length ck])
        have HB1 := Lib.hid (HB.out.alloc HB.out.size (.cells #[.int .i64 x0, .string (bs xt), .string (bs xs), .string (bs xa), .bool xb, .string (bs xu), .slice Ak xl.length ck] 74))
        have HSX : Hid (shE (.mk x0 xt xs xa xb xu xl) = if x0 = 1 then xt
          else if x0 = 2 then shTag [105, 110, 99, 108, 117, 100, 101] true [] (includeP xs xa xb)
          else if x0 = 12 then shTag [99, 111, 109, 109, 101, 110, 116] true [] [([116, 101, 120, 116], xt)]
          else if x0 = 3 then shTag [105, 110, 108, 105, 110, 101] false (shF xl) [([110, 97, 109, 101], xs)]
          else if x0 = 8 then shTag [119, 104, 101, 110] false (shF xl) [([116, 101, 115, 116], xu)]
          else if shName x0 = [] then [] else shTag (shName x0) false (shF xl) []) := by rw [Hid, shE]
        go_upto_block 2 with (fail)
        generalize hW : wr.alloc (.cells #[.int .i64 x0, .string (bs xt), .string (bs xs), .string (bs xa), .bool xb, .string (bs xu), .slice Ak xl.length ck] 74) = W at HE HB1 ⊢
        have hbw : Below wr.heap.size wr W := by rw [← hW]; exact (Below.refl _ _).alloc (Nat.le_refl _) _
        have HKW := Lib.hid (HKI.out.below hbw)
        clear hW hbw HKI e0 e1 e2 e3 e4 e5 e6
        generalize wr.heap.size = E at HE ⊢
        have e0 := HE.out.cell 0
        have e1 := HE.out.cell 1
        have e2 := HE.out.cell 2
        have e3 := HE.out.cell 3
        have e4 := HE.out.cell 4
        have e5 := HE.out.cell 5
        go_cut [3, 6, 7] from 16 to 76 (fun s3 s6 s7 wx => ∃ O' nm hd : List UInt8, s3 = .string (bs O') ∧ s6 = .string (bs hd) ∧ s7 = .string (bs nm) ∧ Hid (WrCut (.mk x0 xt xs xa xb xu xl) O O' nm hd) ∧ Hid (Below W.heap.size W wx))
        case first =>
          by_cases h1 : x0 = 1
          · subst h1
            rw [if_pos rfl] at HSX
            have hxl : xt.length ≤ 100000000 := by have := HX1.out; rw [HSX.out] at this; exact this
            have q1 : (bs O).size + (bs xt).size ≤ 1000000000 := by rw [size_bs, size_bs]; omega
            go_wp2_with fail
            go_meet
            case rel =>
              refine ⟨O ++ shE (.mk 1 xt xs xa xb xu xl), [], [], ?_, rfl, rfl, ⟨fun _ => rfl, fun h => absurd rfl h⟩, Below.refl _ _⟩
              rw [HSX.out, bs_append]
          · rw [if_neg h1] at HSX
            have hk1 : (x0 == 1) = false := beq_eq_false_iff_ne.2 h1
            by_cases h2 : x0 = 2
            · subst h2
              rw [if_pos rfl] at HSX
              clear hk1 h1
              have hk1 : ((2:Int) == 1) = false := rfl
              have hk2 : ((2:Int) == 2) = true := rfl
              have hlen := HX1.out
              rw [HSX.out] at hlen
              have hls : xs.length ≤ 100000000 := by simp only [shTag, if_true, includeP, shAttrs, List.length_append] at hlen; omega
              have zInc : (⟨#[60, 101, 115, 105, 58, 105, 110, 99, 108, 117, 100, 101]⟩ : ByteArray).size = 12 := rfl
              have zSl : (⟨#[47, 62]⟩ : ByteArray).size = 2 := rfl
              have htx : (bs xa).toList = xa := toList_bs _
              cases hxa : xa.isEmpty with
              | true =>
                have HA : Hid (xa = []) := List.isEmpty_iff.1 hxa
                cases xb with
                | false =>
                  have q1 : (bs O).size + (⟨#[60, 101, 115, 105, 58, 105, 110, 99, 108, 117, 100, 101]⟩ : ByteArray).size ≤ 1000000000 := by simp only [ByteArray.size_append, size_bs, attr1_len, zInc, zSl, List.length_cons, List.length_nil]; omega
                  have q2 : (bs O ++ ⟨#[60, 101, 115, 105, 58, 105, 110, 99, 108, 117, 100, 101]⟩).size + (bs (attr1 [115, 114, 99] xs)).size ≤ 1000000000 := by simp only [ByteArray.size_append, size_bs, attr1_len, zInc, zSl, List.length_cons, List.length_nil]; omega
                  have q3 : (bs O ++ ⟨#[60, 101, 115, 105, 58, 105, 110, 99, 108, 117, 100, 101]⟩ ++ bs (attr1 [115, 114, 99] xs)).size + (⟨#[47, 62]⟩ : ByteArray).size ≤ 1000000000 := by simp only [ByteArray.size_append, size_bs, attr1_len, zInc, zSl, List.length_cons, List.length_nil]; omega
                  go_wp2_with fail
                  refine (attr16_calls (bs [115, 114, 99]) (bs xs) W (by rw [size_bs]; decide) (by rw [size_bs]; first | omega | decide)).mono ?_
                  rw [L_bs, L_bs]
                  rintro e wx ⟨rfl, rfl⟩
                  go_wp2_with fail
                  go_meet
                  case rel =>
                    refine ⟨O ++ shE (.mk 2 xt xs xa false xu xl), [], [], ?_, rfl, rfl, ⟨fun _ => rfl, fun h => absurd rfl h⟩, Below.refl _ _⟩
                    congr 1
                    apply L_ext
                    rw [HSX.out]
                    simp only [L_append, L_bs, attr1, shTag, includeP, if_true, shAttrs_append, shAttrs, HA.out, Bool.false_eq_true, if_false, List.append_nil]
                    simp [L, shAttrs]
                | true =>
                  have q1 : (bs O).size + (⟨#[60, 101, 115, 105, 58, 105, 110, 99, 108, 117, 100, 101]⟩ : ByteArray).size ≤ 1000000000 := by simp only [ByteArray.size_append, size_bs, attr1_len, zInc, zSl, List.length_cons, List.length_nil]; omega
                  have q2 : (bs O ++ ⟨#[60, 101, 115, 105, 58, 105, 110, 99, 108, 117, 100, 101]⟩).size + (bs (attr1 [115, 114, 99] xs)).size ≤ 1000000000 := by simp only [ByteArray.size_append, size_bs, attr1_len, zInc, zSl, List.length_cons, List.length_nil]; omega
                  have q3 : (bs O ++ ⟨#[60, 101, 115, 105, 58, 105, 110, 99, 108, 117, 100, 101]⟩ ++ bs (attr1 [115, 114, 99] xs)).size + (bs (attr1 [111, 110, 101, 114, 114, 111, 114] [99, 111, 110, 116, 105, 110, 117, 101])).size ≤ 1000000000 := by simp only [ByteArray.size_append, size_bs, attr1_len, zInc, zSl, List.length_cons, List.length_nil]; omega
                  have q4 : (bs O ++ ⟨#[60, 101, 115, 105, 58, 105, 110, 99, 108, 117, 100, 101]⟩ ++ bs (attr1 [115, 114, 99] xs) ++ bs (attr1 [111, 110, 101, 114, 114, 111, 114] [99, 111, 110, 116, 105, 110, 117, 101])).size + (⟨#[47, 62]⟩ : ByteArray).size ≤ 1000000000 := by simp only [ByteArray.size_append, size_bs, attr1_len, zInc, zSl, List.length_cons, List.length_nil]; omega
                  go_wp2_with fail
                  refine (attr16_calls (bs [115, 114, 99]) (bs xs) W (by rw [size_bs]; decide) (by rw [size_bs]; first | omega | decide)).mono ?_
                  rw [L_bs, L_bs]
                  rintro e wx ⟨rfl, rfl⟩
                  go_wp2_with fail
                  refine (attr16_calls (bs [111, 110, 101, 114, 114, 111, 114]) (bs [99, 111, 110, 116, 105, 110, 117, 101]) W (by rw [size_bs]; decide) (by rw [size_bs]; first | omega | decide)).mono ?_
                  rw [L_bs, L_bs]
                  rintro e wx ⟨rfl, rfl⟩
                  go_wp2_with fail
                  go_meet
                  case rel =>
                    refine ⟨O ++ shE (.mk 2 xt xs xa true xu xl), [], [], ?_, rfl, rfl, ⟨fun _ => rfl, fun h => absurd rfl h⟩, Below.refl _ _⟩
                    congr 1
                    apply L_ext
                    rw [HSX.out]
                    simp only [L_append, L_bs, attr1, shTag, includeP, if_true, shAttrs_append, shAttrs, HA.out, Bool.false_eq_true, if_false, List.append_nil]
                    simp [L, shAttrs]
              | false =>
                have HA : Hid ((if xa = [] then ([] : List (List UInt8 × List UInt8)) else [([97, 108, 116], xa)]) = [([97, 108, 116], xa)]) := if_neg (fun h => by rw [h] at hxa; cases hxa)
                have hla : xa.length ≤ 100000000 := by
                  rw [includeP, HA.out] at hlen
                  simp only [shTag, if_true, shAttrs, shAttrs_append, List.length_append, List.cons_append, List.nil_append, List.length_cons] at hlen
                  omega
                cases xb with
                | false =>
                  have q1 : (bs O).size + (⟨#[60, 101, 115, 105, 58, 105, 110, 99, 108, 117, 100, 101]⟩ : ByteArray).size ≤ 1000000000 := by simp only [ByteArray.size_append, size_bs, attr1_len, zInc, zSl, List.length_cons, List.length_nil]; omega
                  have q2 : (bs O ++ ⟨#[60, 101, 115, 105, 58, 105, 110, 99, 108, 117, 100, 101]⟩).size + (bs (attr1 [115, 114, 99] xs)).size ≤ 1000000000 := by simp only [ByteArray.size_append, size_bs, attr1_len, zInc, zSl, List.length_cons, List.length_nil]; omega
                  have q3 : (bs O ++ ⟨#[60, 101, 115, 105, 58, 105, 110, 99, 108, 117, 100, 101]⟩ ++ bs (attr1 [115, 114, 99] xs)).size + (bs (attr1 [97, 108, 116] xa)).size ≤ 1000000000 := by simp only [ByteArray.size_append, size_bs, attr1_len, zInc, zSl, List.length_cons, List.length_nil]; omega
                  have q4 : (bs O ++ ⟨#[60, 101, 115, 105, 58, 105, 110, 99, 108, 117, 100, 101]⟩ ++ bs (attr1 [115, 114, 99] xs) ++ bs (attr1 [97, 108, 116] xa)).size + (⟨#[47, 62]⟩ : ByteArray).size ≤ 1000000000 := by simp only [ByteArray.size_append, size_bs, attr1_len, zInc, zSl, List.length_cons, List.length_nil]; omega
                  go_wp2_with fail
                  refine (attr16_calls (bs [115, 114, 99]) (bs xs) W (by rw [size_bs]; decide) (by rw [size_bs]; first | omega | decide)).mono ?_
                  rw [L_bs, L_bs]
                  rintro e wx ⟨rfl, rfl⟩
                  go_wp2_with fail
                  refine (attr16_calls (bs [97, 108, 116]) (bs xa) W (by rw [size_bs]; decide) (by rw [size_bs]; first | omega | decide)).mono ?_
                  rw [L_bs, L_bs]
                  rintro e wx ⟨rfl, rfl⟩
                  go_wp2_with fail
                  go_meet
                  case rel =>
                    refine ⟨O ++ shE (.mk 2 xt xs xa false xu xl), [], [], ?_, rfl, rfl, ⟨fun _ => rfl, fun h => absurd rfl h⟩, Below.refl _ _⟩
                    congr 1
                    apply L_ext
                    rw [HSX.out]
                    simp only [L_append, L_bs, attr1, shTag, includeP, if_true, shAttrs_append, shAttrs, HA.out, Bool.false_eq_true, if_false, List.append_nil]
                    simp [L, shAttrs]
                | true =>
                  have q1 : (bs O).size + (⟨#[60, 101, 115, 105, 58, 105, 110, 99, 108, 117, 100, 101]⟩ : ByteArray).size ≤ 1000000000 := by simp only [ByteArray.size_append, size_bs, attr1_len, zInc, zSl, List.length_cons, List.length_nil]; omega
                  have q2 : (bs O ++ ⟨#[60, 101, 115, 105, 58, 105, 110, 99, 108, 117, 100, 101]⟩).size + (bs (attr1 [115, 114, 99] xs)).size ≤ 1000000000 := by simp only [ByteArray.size_append, size_bs, attr1_len, zInc, zSl, List.length_cons, List.length_nil]; omega
                  have q3 : (bs O ++ ⟨#[60, 101, 115, 105, 58, 105, 110, 99, 108, 117, 100, 101]⟩ ++ bs (attr1 [115, 114, 99] xs)).size + (bs (attr1 [97, 108, 116] xa)).size ≤ 1000000000 := by simp only [ByteArray.size_append, size_bs, attr1_len, zInc, zSl, List.length_cons, List.length_nil]; omega
                  have q4 : (bs O ++ ⟨#[60, 101, 115, 105, 58, 105, 110, 99, 108, 117, 100, 101]⟩ ++ bs (attr1 [115, 114, 99] xs) ++ bs (attr1 [97, 108, 116] xa)).size + (bs (attr1 [111, 110, 101, 114, 114, 111, 114] [99, 111, 110, 116, 105, 110, 117, 101])).size ≤ 1000000000 := by simp only [ByteArray.size_append, size_bs, attr1_len, zInc, zSl, List.length_cons, List.length_nil]; omega
                  have q5 : (bs O ++ ⟨#[60, 101, 115, 105, 58, 105, 110, 99, 108, 117, 100, 101]⟩ ++ bs (attr1 [115, 114, 99] xs) ++ bs (attr1 [97, 108, 116] xa) ++ bs (attr1 [111, 110, 101, 114, 114, 111, 114] [99, 111, 110, 116, 105, 110, 117, 101])).size + (⟨#[47, 62]⟩ : ByteArray).size ≤ 1000000000 := by simp only [ByteArray.size_append, size_bs, attr1_len, zInc, zSl, List.length_cons, List.length_nil]; omega
                  go_wp2_with fail
                  refine (attr16_calls (bs [115, 114, 99]) (bs xs) W (by rw [size_bs]; decide) (by rw [size_bs]; first | omega | decide)).mono ?_
                  rw [L_bs, L_bs]
                  rintro e wx ⟨rfl, rfl⟩
                  go_wp2_with fail
                  refine (attr16_calls (bs [97, 108, 116]) (bs xa) W (by rw [size_bs]; decide) (by rw [size_bs]; first | omega | decide)).mono ?_
                  rw [L_bs, L_bs]
                  rintro e wx ⟨rfl, rfl⟩
                  go_wp2_with fail
                  refine (attr16_calls (bs [111, 110, 101, 114, 114, 111, 114]) (bs [99, 111, 110, 116, 105, 110, 117, 101]) W (by rw [size_bs]; decide) (by rw [size_bs]; first | omega | decide)).mono ?_
                  rw [L_bs, L_bs]
                  rintro e wx ⟨rfl, rfl⟩
                  go_wp2_with fail
                  go_meet
                  case rel =>
                    refine ⟨O ++ shE (.mk 2 xt xs xa true xu xl), [], [], ?_, rfl, rfl, ⟨fun _ => rfl, fun h => absurd rfl h⟩, Below.refl _ _⟩
                    congr 1
                    apply L_ext
                    rw [HSX.out]
                    simp only [L_append, L_bs, attr1, shTag, includeP, if_true, shAttrs_append, shAttrs, HA.out, Bool.false_eq_true, if_false, List.append_nil]
                    simp [L, shAttrs]
            · rw [if_neg h2] at HSX
              have hk2 : (x0 == 2) = false := beq_eq_false_iff_ne.2 h2
              by_cases h12 : x0 = 12
              · subst h12
                rw [if_pos rfl] at HSX
                clear hk1 h1 hk2 h2
                have hk1 : ((12:Int) == 1) = false := rfl
                have hk2 : ((12:Int) == 2) = false := rfl
                have hk12 : ((12:Int) == 12) = true := rfl
                have hlen := HX1.out
                rw [HSX.out] at hlen
                have hls : xt.length ≤ 100000000 := by simp only [shTag, if_true, shAttrs, List.length_append] at hlen; omega
                have zCom : (⟨#[60, 101, 115, 105, 58, 99, 111, 109, 109, 101, 110, 116]⟩ : ByteArray).size = 12 := rfl
                have zSl : (⟨#[47, 62]⟩ : ByteArray).size = 2 := rfl
                have q1 : (bs O).size + (⟨#[60, 101, 115, 105, 58, 99, 111, 109, 109, 101, 110, 116]⟩ : ByteArray).size ≤ 1000000000 := by simp only [ByteArray.size_append, size_bs, attr1_len, zCom, zSl, List.length_cons, List.length_nil]; omega
                have q2 : (bs O ++ ⟨#[60, 101, 115, 105, 58, 99, 111, 109, 109, 101, 110, 116]⟩).size + (bs (attr1 [116, 101, 120, 116] xt)).size ≤ 1000000000 := by simp only [ByteArray.size_append, size_bs, attr1_len, zCom, zSl, List.length_cons, List.length_nil]; omega
                have q3 : (bs O ++ ⟨#[60, 101, 115, 105, 58, 99, 111, 109, 109, 101, 110, 116]⟩ ++ bs (attr1 [116, 101, 120, 116] xt)).size + (⟨#[47, 62]⟩ : ByteArray).size ≤ 1000000000 := by simp only [ByteArray.size_append, size_bs, attr1_len, zCom, zSl, List.length_cons, List.length_nil]; omega
                go_wp2_with fail
                refine (attr16_calls (bs [116, 101, 120, 116]) (bs xt) W (by rw [size_bs]; decide) (by rw [size_bs]; first | omega | decide)).mono ?_
                rw [L_bs, L_bs]
                rintro e wx ⟨rfl, rfl⟩
                go_wp2_with fail
                go_meet
                case rel =>
                  refine ⟨O ++ shE (.mk 12 xt xs xa xb xu xl), [], [], ?_, rfl, rfl, ⟨fun _ => rfl, fun h => absurd rfl h⟩, Below.refl _ _⟩
                  congr 1
                  apply L_ext
                  rw [HSX.out]
                  simp only [L_append, L_bs, attr1, shTag, if_true]
                  simp [L, shAttrs]
              · rw [if_neg h12] at HSX
                have hk12 : (x0 == 12) = false := beq_eq_false_iff_ne.2 h12
                by_cases h3 : x0 = 3
                · subst h3
                  rw [if_pos rfl] at HSX
                  clear hk1 h1 hk2 h2 hk12 h12
                  have hk1 : ((3:Int) == 1) = false := rfl
                  have hk2 : ((3:Int) == 2) = false := rfl
                  have hk12 : ((3:Int) == 12) = false := rfl
                  have hk3 : ((3:Int) == 3) = true := rfl
                  have hlen := HX1.out
                  rw [HSX.out] at hlen
                  have hls : xs.length ≤ 100000000 := by simp only [shTag, Bool.false_eq_true, if_false, shAttrs, List.length_append] at hlen; omega
                  go_wp2_with fail
                  refine (attr16_calls (bs [110, 97, 109, 101]) (bs xs) W (by rw [size_bs]; decide) (by rw [size_bs]; first | omega | decide)).mono ?_
                  rw [L_bs, L_bs]
                  rintro e wx ⟨rfl, rfl⟩
                  go_wp2_with fail
                  go_meet
                  case rel =>
                    refine ⟨O, [105, 110, 108, 105, 110, 101], attr1 [110, 97, 109, 101] xs, rfl, rfl, rfl, ⟨fun h => (by cases h), fun _ => ⟨rfl, ?_⟩⟩, Below.refl _ _⟩
                    rw [HSX.out]
                    simp [shTag, attr1, shAttrs, Elem.kids]
                · rw [if_neg h3] at HSX
                  have hk3 : (x0 == 3) = false := beq_eq_false_iff_ne.2 h3
                  by_cases h8 : x0 = 8
                  · subst h8
                    rw [if_pos rfl] at HSX
                    clear hk1 h1 hk2 h2 hk12 h12 hk3 h3
                    have hk1 : ((8:Int) == 1) = false := rfl
                    have hk2 : ((8:Int) == 2) = false := rfl
                    have hk12 : ((8:Int) == 12) = false := rfl
                    have hk3 : ((8:Int) == 3) = false := rfl
                    have hk8 : ((8:Int) == 8) = true := rfl
                    have hlen := HX1.out
                    rw [HSX.out] at hlen
                    have hls : xu.length ≤ 100000000 := by simp only [shTag, Bool.false_eq_true, if_false, shAttrs, List.length_append] at hlen; omega
                    go_wp2_with fail
                    refine (attr16_calls (bs [116, 101, 115, 116]) (bs xu) W (by rw [size_bs]; decide) (by rw [size_bs]; first | omega | decide)).mono ?_
                    rw [L_bs, L_bs]
                    rintro e wx ⟨rfl, rfl⟩
                    go_wp2_with fail
                    go_meet
                    case rel =>
                      refine ⟨O, [119, 104, 101, 110], attr1 [116, 101, 115, 116] xu, rfl, rfl, rfl, ⟨fun h => (by cases h), fun _ => ⟨rfl, ?_⟩⟩, Below.refl _ _⟩
                      rw [HSX.out]
                      simp [shTag, attr1, shAttrs, Elem.kids]
                  · rw [if_neg h8] at HSX
                    have hk8 : (x0 == 8) = false := beq_eq_false_iff_ne.2 h8
                    by_cases hin : 0 < x0 ∧ x0 < 13
                    · obtain ⟨hp, hq⟩ := hin
                      obtain ⟨n, rfl⟩ : ∃ n : Nat, x0 = n := ⟨x0.toNat, by omega⟩
                      have hn13 : n < 13 := by omega
                      have hn0 : (0 : Int) ≤ (n : Int) := by omega
                      have hq2 : (n : Int) < 13 := hq
                      go_upto_region 9 with (fail)
                      have hS0 : (World.drew W).cell? ⟨E, 0, none⟩ = some (.int .i64 (n : Int)) := e0
                      refine wp_region_held (S := (fun w' => w'.cell? ⟨E, 0, none⟩ = some (.int .i64 (n : Int)))) (by kernel_rfl) ?_
                      change wpAnyH _ _ _ _ _ _ _ _ (World.drew _)
                      refine wpAnyH_take (i := 1) (v := ?_) rfl (by kernel_rfl) (by kernel_rfl) (by kernel_rfl) (fun _ _ _ h => h) (Or.inl ⟨by rfl, ?_⟩) hS0 ?_
                      rotate_left
                      · (intro w_ hS_; obtain _s := hS_; go_simp; try with_reducible rfl)
                      refine wpAnyH_take (i := 2) (v := ?_) rfl (by kernel_rfl) (by kernel_rfl) (by kernel_rfl) (fun _ _ _ h => h) (Or.inl ⟨by rfl, ?_⟩) hS0 ?_
                      rotate_left
                      · (intro w_ hS_; obtain _s := hS_; go_simp; try with_reducible rfl)
                      refine wpAnyH_ready (rs := [0]) (by kernel_rfl) (by simp) ?_
                      refine AllReadyH.cons rfl (fun K_ hK_ => ?_) AllReadyH.nil
                      go_simp
                      refine (names_calls _).mono ?_
                      rintro e w4 ⟨rfl, hc4, hb4⟩
                      have HC4 := Lib.hid (hc4 n hn13)
                      have HB4 := Lib.hid ((Below.refl W.heap.size W).drew.trans hb4)
                      have hS4 : w4.cell? ⟨E, 0, none⟩ = some (.int .i64 (n : Int)) := (HB4.out.cell (p := ⟨E, 0, none⟩) HE.out.lt).trans e0
                      refine hK_.out _ _ hS4 fun _ => ?_
                      clear hK_ K_ hc4 hb4
                      have hc5 : w4.cell? ⟨W.heap.size, n, none⟩ = some (.string (bs (nm16 n))) := HC4.out
                      refine wpAnyH_ready (rs := [3]) (by kernel_rfl) (by simp) ?_
                      refine AllReadyH.cons rfl (fun K_ hK_ => ?_) AllReadyH.nil
                      go_simp
                      refine hK_.out _ _ hS4 fun _ => ?_
                      clear hK_ K_
                      refine wpAnyH_ready (rs := [4]) (by kernel_rfl) (by simp) ?_
                      refine AllReadyH.cons rfl (fun K_ hK_ => ?_) AllReadyH.nil
                      go_simp
                      refine hK_.out _ _ hS4 fun _ => ?_
                      clear hK_ K_
                      refine wpAnyH_ready (rs := [5]) (by kernel_rfl) (by simp) ?_
                      refine AllReadyH.cons rfl (fun K_ hK_ => ?_) AllReadyH.nil
                      go_simp
                      refine hK_.out _ _ hS4 fun _ => ?_
                      clear hK_ K_
                      refine wpAnyH_done (by kernel_rfl) ?_ _
                      go_wp2_with fail
                      go_meet
                      case rel =>
                        refine ⟨O, nm16 n, [], rfl, rfl, rfl, ?_, HB4.out⟩
                        rw [Hid, WrCut, HSX.out]
                        clear hk1 hk2 hk12 hk3 hk8
                        rcases upto13 hn13 with rfl | rfl | rfl | rfl | rfl | rfl | rfl | rfl | rfl | rfl | rfl | rfl | rfl
                        all_goals first
                          | (exfalso; omega)
                          | exact ⟨fun h => (by cases h), fun _ => ⟨rfl, by simp [shName, shTag, nm16, shAttrs, Elem.kids, nTry, nAttempt, nExcept, nChoose, nOtherwise, nVars, nRemove]⟩⟩
                    · have hcase : ¬ (0 < x0) ∨ 0 < x0 ∧ ¬ (x0 < 13) := by omega
                      have hsn : shName x0 = [] := by
                        unfold shName
                        rw [if_neg (by omega), if_neg (by omega), if_neg (by omega), if_neg (by omega), if_neg (by omega), if_neg (by omega), if_neg (by omega)]
                      have HN : Hid (shE (.mk x0 xt xs xa xb xu xl) = []) := by rw [Hid, HSX.out, hsn]; rfl
                      clear hin hsn HSX h1 h2 h12 h3 h8
                      rcases hcase with hp | ⟨hp, hq⟩
                      all_goals
                        go_wp2_with fail
                        go_meet
                        case rel => exact ⟨O, [], [], rfl, rfl, rfl, ⟨fun _ => by rw [HN.out, List.append_nil], fun h => absurd rfl h⟩, Below.refl _ _⟩
        case rest =>
          obtain ⟨O', nm, hd, rfl, rfl, rfl, HC, HBX⟩ := hcut
          have HBW := Lib.hid (HB1.out.trans (HBX.out.mono HB1.out.size))
          have d6 : wc.cell? ⟨E, 6, none⟩ = some (.slice Ak xl.length ck) := (HBX.out.cell (p := ⟨E, 6, none⟩) HE.out.lt).trans (HE.out.cell 6)
          have HKX := Lib.hid (HKW.out.below HBX.out)
          have htn : (bs nm).toList = nm := toList_bs _
          clear e0 e1 e2 e3 e4 e5 HKW HE HB1
          obtain ⟨wy, rfl⟩ : ∃ wy : World, wy = wc := ⟨_, rfl⟩
          cases hnm : nm.isEmpty with
          | true =>
            have HO2 := Lib.hid (HC.out.1 (List.isEmpty_iff.1 hnm))
            clear HC
            go_wp2_with fail
            go_roundw
            case rel => exact ⟨k + 1, hlt, by rw [HSF.out, HO2.out], by go_num, HBW.out⟩
            case measure => simp [intOf]; omega
          | false =>
            obtain ⟨hO2, hE2⟩ := HC.out.2 (fun h => by rw [h] at hnm; cases hnm)
            subst hO2
            have HE2 := Lib.hid hE2
            have hlen := HX1.out
            rw [hE2] at hlen
            simp only [List.length_append, List.length_cons, List.length_nil, Elem.kids] at hlen
            have hkl : (shF xl).length ≤ 100000000 := by omega
            have z1 : (⟨#[60, 101, 115, 105, 58]⟩ : ByteArray).size = 5 := rfl
            have z2 : (⟨#[62]⟩ : ByteArray).size = 1 := rfl
            have z3 : (⟨#[60, 47, 101, 115, 105, 58]⟩ : ByteArray).size = 6 := rfl
            have q1 : (bs O').size + (⟨#[60, 101, 115, 105, 58]⟩ : ByteArray).size ≤ 1000000000 := by simp only [ByteArray.size_append, size_bs, z1, z2, z3]; omega
            have q2 : (bs O' ++ ⟨#[60, 101, 115, 105, 58]⟩).size + (bs nm).size ≤ 1000000000 := by simp only [ByteArray.size_append, size_bs, z1, z2, z3]; omega
            have q3 : (bs O' ++ ⟨#[60, 101, 115, 105, 58]⟩ ++ bs nm).size + (bs hd).size ≤ 1000000000 := by simp only [ByteArray.size_append, size_bs, z1, z2, z3]; omega
            have q4 : (bs O' ++ ⟨#[60, 101, 115, 105, 58]⟩ ++ bs nm ++ bs hd).size + (⟨#[62]⟩ : ByteArray).size ≤ 1000000000 := by simp only [ByteArray.size_append, size_bs, z1, z2, z3]; omega
            have q5 : (bs O' ++ ⟨#[60, 101, 115, 105, 58]⟩ ++ bs nm ++ bs hd ++ ⟨#[62]⟩).size + (bs (shF xl)).size ≤ 1000000000 := by simp only [ByteArray.size_append, size_bs, z1, z2, z3]; omega
            have q6 : (bs O' ++ ⟨#[60, 101, 115, 105, 58]⟩ ++ bs nm ++ bs hd ++ ⟨#[62]⟩ ++ bs (shF xl)).size + (⟨#[60, 47, 101, 115, 105, 58]⟩ : ByteArray).size ≤ 1000000000 := by simp only [ByteArray.size_append, size_bs, z1, z2, z3]; omega
            have q7 : (bs O' ++ ⟨#[60, 101, 115, 105, 58]⟩ ++ bs nm ++ bs hd ++ ⟨#[62]⟩ ++ bs (shF xl) ++ ⟨#[60, 47, 101, 115, 105, 58]⟩).size + (bs nm).size ≤ 1000000000 := by simp only [ByteArray.size_append, size_bs, z1, z2, z3]; omega
            have q8 : (bs O' ++ ⟨#[60, 101, 115, 105, 58]⟩ ++ bs nm ++ bs hd ++ ⟨#[62]⟩ ++ bs (shF xl) ++ ⟨#[60, 47, 101, 115, 105, 58]⟩ ++ bs nm).size + (⟨#[62]⟩ : ByteArray).size ≤ 1000000000 := by simp only [ByteArray.size_append, size_bs, z1, z2, z3]; omega
            have HCL := Lib.hid (HIH.out xl _ _ wy HKS.out hkl HKX.out)
            clear hE2 hlen hkl z1 z2 z3 HC
            go_wp2_with fail
            refine HCL.out.mono ?_
            rintro e w8 ⟨rfl, hb8⟩
            have HB8 := Lib.hid (HBW.out.trans (hb8.mono HBW.out.size))
            clear hb8 HCL
            go_wp2_with fail
            go_roundw
            case rel =>
              refine ⟨k + 1, hlt, ?_, by go_num, HB8.out⟩
              congr 1
              apply L_ext
              rw [HSF.out, HE2.out]
              simp only [L_append, L_bs, Elem.kids]
              simp [L]
            case measure => simp [intOf]; omega
      · have hkl : k = l.length := by omega
        subst hkl
        rw [List.take_length]
        go_wp2_with fail
        go_ret
        exact ⟨rfl, HB.out⟩
end Go.Proofs.YtijpfcjlochahaaGreatDoor
