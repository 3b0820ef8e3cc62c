/- Plain: how long a written page is. No program is named here. The walk of law16's alive. The walk of ShowLinks. -/
import Derived.Test.YtijpfcjlochahaaDoorShwP
import Derived.Test.YtijpfcjlochahaaDoorShwG
import Derived.Test.YtijpfcjlochahaaDoorElem
import Derived.Test.YtijpfcjlochahaaDoorCntL
namespace Go.Proofs.YtijpfcjlochahaaDoor
open Go Go.RowKit

mutual
def textE : Elem → Nat | .mk _ t s a _ u l => t.length + s.length + a.length + u.length + textF l
def textF : List Elem → Nat | [] => 0 | e :: l => textE e + textF l
end
theorem textE_eq (e : Elem) : textE e = e.text.length + e.src.length + e.alt.length + e.test.length + textF e.kids := by cases e; rw [textE]; rfl
theorem shName_len (k : Int) : (shName k).length ≤ 9 := by
  unfold shName
  repeat' split
  all_goals simp
theorem shTagF_len (n inn : List UInt8) (ps : List (List UInt8 × List UInt8)) : (shTag n false inn ps).length = 13 + 2 * n.length + inn.length + (shAttrs ps).length := by
  rw [shTag, if_neg (by simp)]; simp only [List.length_append, List.length_cons, List.length_nil]; omega
theorem shTagT_len (n inn : List UInt8) (ps : List (List UInt8 × List UInt8)) : (shTag n true inn ps).length = 7 + n.length + (shAttrs ps).length := by
  rw [shTag, if_pos rfl]; simp only [List.length_append, List.length_cons, List.length_nil]; omega
theorem include_len (s a : List UInt8) (b : Bool) : (shAttrs (includeP s a b)).length ≤ 33 + s.length + a.length := by
  unfold includeP
  split
  · cases b <;> simp [shAttrs] <;> omega
  · cases b <;> simp [shAttrs] <;> omega
mutual
theorem shE_len : ∀ e : Elem, (shE e).length ≤ textE e + 60 * sizeE e
  | .mk k t s a b u l => by
    have ih := shF_len l
    have hn := shName_len k
    rw [shE, textE, sizeE]
    split
    · omega
    split
    · have := include_len s a b
      rw [shTagT_len]
      simp only [List.length_cons, List.length_nil]
      omega
    split
    · rw [shTagT_len]
      simp only [shAttrs, List.length_cons, List.length_nil, List.length_append]
      omega
    split
    · rw [shTagF_len]
      simp only [shAttrs, List.length_cons, List.length_nil, List.length_append]
      omega
    split
    · rw [shTagF_len]
      simp only [shAttrs, List.length_cons, List.length_nil, List.length_append]
      omega
    split
    · simp
    · rw [shTagF_len]
      simp only [shAttrs, List.length_nil]
      omega
theorem shF_len : ∀ l : List Elem, (shF l).length ≤ textF l + 60 * sizeF l
  | [] => by simp [shF]
  | e :: l => by
    have h1 := shE_len e
    have h2 := shF_len l
    rw [shF, textF, sizeF, List.length_append]
    omega
end
/-- What page asks. -/
theorem shF_ok {l : List Elem} (ht : textF l ≤ 20000000) (hc : countF 1000 l ≤ 1000) : (shF l).length ≤ 100000000 := by
  have h1 := shF_len l
  have h2 := (countF_size hc).1
  omega
end Go.Proofs.YtijpfcjlochahaaDoor
namespace Go.Proofs.YtijpfcjlochahaaDoor
open Go Go.RowKit

def aliveE : List Elem := [.mk 10 [] [] [] false [] [.mk 1 [97] [] [] false [] []]]
def alivePage16 : List UInt8 := [60, 101, 115, 105, 58, 118, 97, 114, 115, 62, 97, 60, 47, 101, 115, 105, 58, 118, 97, 114, 115, 62]
theorem alive16_sh : shF aliveE = alivePage16 := by rfl
theorem alive16_read : readF alivePage16 = (aliveE, 0) := by rfl
theorem alive16_print : printF aliveE = (alivePage16, 0) := by
  have hc : countF 1000 aliveE = 2 := by rfl
  have hp : pageF aliveE = (alivePage16, true) := by
    rw [pageF, hc, alive16_sh, alive16_read, if_neg (by omega), if_neg (by decide), likeF_refl]; rfl
  rw [printF, hp]; rfl
set_option maxRecDepth 20000 in
set_option maxHeartbeats 4000000 in
theorem alive16_calls (w : World) : Calls Tryd.prog 31 #[] w fun e w' => e = .returned (.bool true) ∧ Below w.heap.size w w' := by
  go_enter Tryd.func31, Tryd.ntmps31
  have hX := (Blk.new w 46 (eCells (.mk 1 [97] [] [] false [] []) (.slice none 0 0)).toArray).alloc (.cells (eCells (.mk 10 [] [] [] false [] [.mk 1 [97] [] [] false [] []]) (.slice (some ⟨w.heap.size, 0, none⟩) 1 1)).toArray 46)
  have hY := Blk.new (w.alloc (.cells (eCells (.mk 1 [97] [] [] false [] []) (.slice none 0 0)).toArray 46)) 46 (eCells (.mk 10 [] [] [] false [] [.mk 1 [97] [] [] false [] []]) (.slice (some ⟨w.heap.size, 0, none⟩) 1 1)).toArray
  rw [size_alloc] at hY
  have h1 := gr_one_new (F := fun _ => True) (sz := 7) hX trivial (cells_elem (e := .mk 1 [97] [] [] false [] []) gr_nil) rfl
  have H2 := Lib.hid (gr_one_new (F := fun _ => True) (sz := 7) hY trivial (cells_elem (e := .mk 10 [] [] [] false [] [.mk 1 [97] [] [] false [] []]) h1) rfl)
  have hb : Below w.heap.size w (w.alloc (.cells (eCells (.mk 1 [97] [] [] false [] []) (.slice none 0 0)).toArray 46)) := (Below.refl _ _).alloc (Nat.le_refl _) _
  have HB := Lib.hid (hb.alloc hb.size (.cells (eCells (.mk 10 [] [] [] false [] [.mk 1 [97] [] [] false [] []]) (.slice (some ⟨w.heap.size, 0, none⟩) 1 1)).toArray 46))
  clear hX hY h1 hb
  go_wp2_with fail
  refine (print_calls aliveE _ (fun _ => True) _ H2.out (fun _ => by rw [alive16_sh]; simp [alivePage16])).mono ?_
  rw [alive16_print]
  rintro e w1 ⟨rfl, h1⟩
  have HB1 := Lib.hid (HB.out.trans (h1.mono HB.out.size))
  clear h1
  go_wp2_with fail
  go_ret
  exact ⟨ret_bool (by rw [toList_bs]; rfl), HB1.out⟩
end Go.Proofs.YtijpfcjlochahaaDoor
namespace Go.Proofs.YtijpfcjlochahaaDoor
open Go Go.RowKit

theorem print_ok {l : List Elem} (h : (printF l).2 = 0) : (printF l).1 = shF l ∧ (shF l).length ≤ 20000 ∧ readF (shF l) = (l, 0) ∧ countF 1000 l ≤ 1000 := by
  unfold printF at h ⊢
  split at h
  · rename_i hp
    rw [if_pos hp]
    unfold pageF at hp ⊢
    split at hp
    · cases hp
    split at hp
    · cases hp
    rename_i h1 h2
    rw [if_neg h1, if_neg h2]
    simp only [Bool.and_eq_true, beq_iff_eq] at hp
    have h3 := likeF_iff.1 hp.2
    refine ⟨rfl, by omega, ?_, by omega⟩
    rw [← hp.1]
    conv => rhs; lhs; rw [h3]
  · cases h
theorem print_cases (l : List Elem) : (printF l).2 = 0 ∨ ((printF l).2 = 1 ∧ (printF l).1 = [] ∧ (pageF l).2 = false) := by
  unfold printF
  split
  · exact .inl rfl
  · rename_i h
    exact .inr ⟨rfl, rfl, by simpa using h⟩
theorem count_small {lim : Nat} {l : List Elem} (hl : lim ≤ 1000) (h : countF lim l ≤ lim) : sizeF l ≤ lim := by
  have := (countF_size h).1
  omega
set_option maxRecDepth 20000 in
set_option maxHeartbeats 4000000 in
theorem showLinks_calls (l : List Elem) (m : Int) (w : World) {v : Value} (hv : GR w (fun _ => True) (.row 7 (l.map Elem.gv)) [v]) (_hm : w.cell? ⟨0, 0, none⟩ = some (.int .i64 m)) (ht : textF l ≤ 1048576) :
    Calls Tryd.prog 11 #[v] w fun e w' => e = .returned (.bool true) ∧ Below w.heap.size w w' := by
  obtain ⟨A, c, rfl, -, -, -⟩ := elems_open hv
  have HV := Lib.hid hv
  have HT := Lib.hid ht
  clear hv _hm ht
  go_enter Tryd.func11, Tryd.ntmps11
  go_wp2_with fail
  refine (rcountL_calls 200 (by omega) l _ _ _ HV.out).mono ?_
  rintro e w1 ⟨rfl, hb1⟩
  have HB1 := Lib.hid hb1
  clear hb1
  by_cases h2 : 200 < countF 200 l
  · have hd1 : (200 : Int) < (countF 200 l : Int) := by omega
    have hd2 : decide ((200 : Int) < (countF 200 l : Int)) = true := by simpa using hd1
    generalize countF 200 l = R at *
    clear h2
    go_wp2_with fail
    refine (alive16_calls _).mono ?_
    rintro e w2 ⟨rfl, hb2⟩
    have HB2 := Lib.hid (HB1.out.trans (hb2.mono HB1.out.size))
    clear hb2
    go_wp2_with fail
    go_ret
    exact ⟨rfl, HB2.out⟩
  have hd1 : ¬ (200 : Int) < (countF 200 l : Int) := by omega
  have hd2 : decide ((200 : Int) < (countF 200 l : Int)) = false := by simpa using hd1
  generalize countF 200 l = R at *
  clear h2
  have HC := Lib.hid (fun (W : World) (h : GR W (fun _ => True) (.row 7 (l.map Elem.gv)) [.slice A l.length c]) => print_calls l _ _ W h (fun hc => shF_ok (Nat.le_trans HT.out (by omega)) hc))
  rcases print_cases l with h0 | ⟨h1, h2, -⟩
  · obtain ⟨p1, p2, p3, p4⟩ := print_ok h0
    have HP : Hid (printF l = (shF l, 0)) := Prod.ext p1 h0
    rw [HP.out] at HC
    have HR := Lib.hid p3
    have HLE : Hid ((bs (shF l)).size ≤ 90000) := by rw [Hid, size_bs]; omega
    clear h0 p1 p2 p3 p4
    go_wp2_with fail
    refine (HC.out _ (HV.out.below HB1.out)).mono ?_
    rintro e w2 ⟨rfl, hb2⟩
    have HB2 := Lib.hid (HB1.out.trans (hb2.mono HB1.out.size))
    clear hb2
    go_wp2_with fail
    refine (read_calls (bs (shF l)) w2 HLE.out).mono ?_
    rw [L_bs, HR.out]
    rintro e w3 ⟨v3, rfl, hg3, hb3⟩
    obtain ⟨A3, c3, rfl, -, -, -⟩ := elems_open hg3
    have HB3 := Lib.hid (HB2.out.trans (hb3.mono HB2.out.size))
    have HG3 := Lib.hid (hg3.weaken (F' := fun _ => True) (fun _ _ => trivial))
    clear hg3 hb3
    go_wp2_with fail
    refine (dlinks_calls l _ _ _ (HV.out.below HB3.out)).mono ?_
    rintro e w4 ⟨v4, rfl, ho4, hb4⟩
    have HB4 := Lib.hid (HB3.out.trans (hb4.mono HB3.out.size))
    have HG4 := Lib.hid (HG3.out.below hb4)
    have HO4 := Lib.hid (OwnR.gr (F := fun _ => True) ho4 (fun _ h => h.elim) (fun _ _ => trivial))
    clear ho4 hb4 HG3
    go_wp2_with fail
    refine (dlinks_calls l _ _ _ HG4.out).mono ?_
    rintro e w5 ⟨v5, rfl, ho5, hb5⟩
    have HB5 := Lib.hid (HB4.out.trans (hb5.mono HB4.out.size))
    have HG5 := Lib.hid (HG4.out.below hb5)
    have HO5 := Lib.hid (OwnR.gr (F := fun _ => True) ho5 (fun _ h => h.elim) (fun _ _ => trivial))
    have HQ4 := Lib.hid (HO4.out.below hb5)
    clear ho5 hb5 HG4 HO4
    generalize linksD l = D at *
    obtain ⟨A4, c4, rfl, -, -, -⟩ := strs_open HQ4.out
    obtain ⟨A5, c5, rfl, -, -, -⟩ := strs_open HO5.out
    go_wp2_with fail
    refine (count_calls l _ _ _ (HV.out.below HB5.out)).mono ?_
    rintro e w6 ⟨rfl, hb6⟩
    have HB6 := Lib.hid (HB5.out.trans (hb6.mono HB5.out.size))
    have HG6 := Lib.hid (HG5.out.below hb6)
    have HQ4 := Lib.hid (HQ4.out.below hb6)
    have HQ5 := Lib.hid (HO5.out.below hb6)
    clear hb6 HO5 HG5
    go_wp2_with fail
    refine (count_calls l _ _ _ HG6.out).mono ?_
    rintro e w7 ⟨rfl, hb7⟩
    have HB7 := Lib.hid (HB6.out.trans (hb7.mono HB6.out.size))
    have HQ4 := Lib.hid (HQ4.out.below hb7)
    have HQ5 := Lib.hid (HQ5.out.below hb7)
    clear hb7 HG6
    generalize countF 1000 l = R2 at *
    obtain ⟨A6, c6, he6, hl6, hm6, hop⟩ := strs_open (GR.lt_heap _ _ HQ4.out)
    obtain ⟨A7, c7, he7, hl7, hm7, hop2⟩ := strs_open (GR.lt_heap _ _ HQ5.out)
    injection he6 with e1 e2 e3
    injection he7 with e4 e5 e6
    subst e1 e3 e4 e6
    have HOP := Lib.hid hop
    have HOP2 := Lib.hid hop2
    clear hop hop2 e2 e5
    unfold maxLen at hm6 hm7
    go_wp2_with fail
    go_loopw [9, 49] (fun _ i wr => ∃ k : Nat, k ≤ D.length ∧ i = .int .i64 k ∧ Hid (Below w7.heap.size w7 wr))
      (fun _ i wr => D.length - (intOf i).toNat)
    case atStart => exact ⟨0, Nat.zero_le _, rfl, Below.refl _ _⟩
    case round =>
      obtain ⟨k, hk, rfl, HB⟩ := hrel
      by_cases hlt : k < D.length
      · obtain ⟨b, off, rfl, ⟨_, hbw⟩, hop⟩ := HOP.out (by rintro rfl; simp at hlt)
        obtain ⟨b2, off2, rfl, ⟨_, hbw2⟩, hop2⟩ := HOP2.out (by rintro rfl; simp at hlt)
        have e1 := (HB.out.cell (p := ⟨b, off + k, none⟩) hbw).trans (hop k hlt)
        have e2 := (HB.out.cell (p := ⟨b2, off2 + k, none⟩) hbw2).trans (hop2 k hlt)
        have hk1 : (0 : Int) ≤ (k : Int) := by omega
        have hk2 : (k : Int) < (D.length : Int) := by omega
        clear hop hop2 hbw hbw2
        generalize D[k] = s at *
        go_wp2_with fail
        go_quiet (fail)
        go_wp2_with fail
        exact ⟨⟨k + 1, hlt, by go_num, below_drewN HB.out _⟩, by simp [intOf]; omega⟩
      · have HBE := Lib.hid (HB7.out.trans (HB.out.mono HB7.out.size))
        go_wp2_with fail
        refine (alive16_calls _).mono ?_
        rintro e w8 ⟨rfl, hb8⟩
        have HB8 := Lib.hid (HBE.out.trans (hb8.mono HBE.out.size))
        clear hb8
        go_wp2_with fail
        go_ret
        exact ⟨rfl, HB8.out⟩
  · have HP : Hid (printF l = ([], 1)) := Prod.ext h2 h1
    rw [HP.out] at HC
    clear h1 h2
    go_wp2_with fail
    refine (HC.out _ (HV.out.below HB1.out)).mono ?_
    rintro e w2 ⟨rfl, hb2⟩
    have HB2 := Lib.hid (HB1.out.trans (hb2.mono HB1.out.size))
    clear hb2
    go_wp2_with fail
    refine (alive16_calls _).mono ?_
    rintro e w3 ⟨rfl, hb3⟩
    have HB3 := Lib.hid (HB2.out.trans (hb3.mono HB2.out.size))
    clear hb3
    go_wp2_with fail
    go_ret
    exact ⟨rfl, HB3.out⟩
end Go.Proofs.YtijpfcjlochahaaDoor
