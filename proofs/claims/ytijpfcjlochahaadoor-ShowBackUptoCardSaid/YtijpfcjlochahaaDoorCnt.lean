/- The walk of doc.Count. -/
import Derived.Test.YtijpfcjlochahaaDoorLexA
import Derived.Test.YtijpfcjlochahaaDoorElem
import Derived.Test.YtijpfcjlochahaaDoorCntP
import Derived.Test.YtijpfcjlochahaaDoorClip
import Derived.Test.YtijpfcjlochahaaDoorAsk
import Derived.Deep.RegionHeld
import Derived.Deep.CutRange
import Derived.Deep.QuietTactic
import Derived.IntWalk
namespace Go.Proofs.YtijpfcjlochahaaDoor
open Go Go.RowKit

theorem info_parts2 {P : Program} {e : TypeId} {z : Value} {n b : Nat} (h : (P.info? e).map (fun i => (i.zero, i.size, i.bytes)) = some (some z, n, b)) : ∃ i, P.info? e = some i ∧ i.zero = some z ∧ i.size = n ∧ i.bytes = b := by
  cases hi : P.info? e with
  | none => rw [hi] at h; cases h
  | some i =>
    rw [hi] at h
    simp only [Option.map_some, Option.some.injEq, Prod.mk.injEq] at h
    exact ⟨i, rfl, h.1, h.2.1, h.2.2⟩
theorem elemTy2 : ElemTy Tryd.prog 39 46 7 104 := by
  obtain ⟨i0, hi, hz0, hz1, hz2⟩ := info_parts2 (show (Tryd.prog.info? 46).map (fun i => (i.zero, i.size, i.bytes)) = some (some (.agg #[.int .i64 0, .string ⟨#[]⟩, .string ⟨#[]⟩, .string ⟨#[]⟩, .bool false, .string ⟨#[]⟩, .slice none 0 0]), 7, 104) by kernel_rfl)
  exact ⟨i0, _, Tryd.underlying39, hi, hz0, hz1, hz2, rfl, by omega⟩
theorem clip_gr {w : World} {F : Nat → Prop} {sz : Nat} {l : List GV} {A : Option Addr} {n c : Nat} (h : GR w F (.row sz l) [.slice A n c]) : GR w F (.row sz l) [.slice A n n] := by
  obtain ⟨A', c', xs, h1, h2, h3, h4, h5, h6⟩ := GR_row.1 h
  simp only [List.cons.injEq, and_true] at h1
  injection h1 with e1 e2 e3
  subst e1 e3
  exact GR_row.2 ⟨A, n, xs, by rw [e2], by omega, by omega, h4, h5, h6⟩
theorem gr_drew {w : World} {F : Nat → Prop} {x : GV} {cs : List Value} (h : GR w F x cs) : GR w.drew F x cs :=
  GR.mono (w := w) (w' := w.drew) (F := F) (F' := F) (fun _ e => e) (fun _ _ _ => rfl) x cs h
set_option maxRecDepth 20000 in
set_option maxHeartbeats 1000000 in
theorem clip_calls (A : Option Addr) (n c : Nat) (hn : n ≤ c) (hc : c ≤ maxLen) (w : World) : Calls Tryd.prog 49 #[.slice A n c] w fun e w' => e = .returned (.slice A n n) ∧ w = w' := by
  unfold maxLen at hc
  have h0 : (0 : Int) ≤ (n : Int) := by omega
  have h1 : (n : Int) ≤ (c : Int) := by omega
  go_enter Tryd.func49, Tryd.ntmps49
  go_wp2_with fail
  all_goals
    go_ret
    exact ⟨rfl, rfl⟩
set_option maxRecDepth 20000 in
set_option maxHeartbeats 4000000 in
theorem count_calls (l : List Elem) (v : Value) (F : Nat → Prop) (w : World) (hv : GR w F (.row 7 (l.map Elem.gv)) [v]) :
    Calls Tryd.prog 27 #[v] w fun e w' => e = .returned (.int .i64 (countF 1000 l)) ∧ Below w.heap.size w w' := by
  obtain ⟨A, c, rfl, hlc, hcm, -⟩ := elems_open hv
  have hgt := row_take hv (min l.length 1001) (by rw [List.length_map]; omega)
  rw [← List.map_take] at hgt
  have hm : l.take (min l.length 1001) = l.take 1001 := by
    rcases Nat.le_total l.length 1001 with h | h
    · rw [Nat.min_eq_left h, List.take_length, List.take_of_length_le h]
    · rw [Nat.min_eq_right h]
  rw [hm] at hgt
  obtain ⟨M, hM⟩ : ∃ M, M = l.take 1001 := ⟨_, rfl⟩
  have hml : M.length = min l.length 1001 := by rw [hM, List.length_take, Nat.min_comm]
  have HCF : Hid (countF 1000 l = bfsF 1000 1002 0 M) := by rw [hM]; rfl
  rw [← hM, ← hml] at hgt
  have hm0 : (0 : Int) ≤ (M.length : Int) := by omega
  have hm1 : (M.length : Int) ≤ (c : Int) := by omega
  have hM1 : M.length ≤ 1001 := by omega
  have HGT := Lib.hid (hgt.weaken (F' := fun _ => True) (fun _ _ => trivial))
  have hmc : M.length ≤ c := by omega
  have HML := Lib.hid hml
  clear hm hM hml hgt hv
  generalize countF 1000 l = R at *
  unfold maxLen at hcm
  go_enter Tryd.func27, Tryd.ntmps27
  go_upto_region 1 with (fail)
  go_cut [3] from 6 to 11 (fun qv wx => qv = .slice A M.length c ∧ wx = w)
  case first =>
    go_wp2_with fail
    all_goals
      go_meet
      case rel =>
        refine ⟨?_, rfl⟩
        have := HML.out
        congr 1
        omega
  case rest =>
   obtain ⟨rfl, hww⟩ := hcut
   have hww := hww.symm
   subst hww
   go_wp2_with fail
   go_loopw [3, 4] (fun qv i wr => ∃ (k : Nat) (q : List Elem) (A' : Option Addr) (c' n : Nat), qv = .slice A' q.length c' ∧ i = .int .i64 k ∧ Hid (GR wr (fun _ => True) (.row 7 (q.map Elem.gv)) [.slice A' q.length c']) ∧ q.length ≤ 1001 ∧ Hid (R = bfsF 1000 n k q) ∧ k + n = 1002 ∧ Hid (Below w.heap.size w wr))
     (fun _ i wr => 1002 - (intOf i).toNat)
   case atStart => exact ⟨0, M, A, c, 1002, rfl, rfl, HGT, hM1, HCF, rfl, Below.refl _ _⟩
   case round =>
     obtain ⟨k, q, A', c', n, rfl, rfl, HG, hq, HR, hkn, HB⟩ := hrel
     by_cases hc : k < q.length ∧ q.length ≤ 1000
     · obtain ⟨hk, hq2⟩ := hc
       obtain ⟨n, rfl⟩ : ∃ n', n = n' + 1 := ⟨n - 1, by omega⟩
       have HR2 := Lib.hid (HR.out.trans (bfsF_more hk hq2))
       obtain ⟨A2, c2, hv2, hqc, hqm, hop⟩ := elems_open HG.out
       injection hv2 with e1 e2 e3
       subst e1 e3
       obtain ⟨b, o, rfl, -, hop⟩ := hop (by rintro e; rw [e] at hk; simp at hk)
       obtain ⟨A3, c3, hE⟩ := hop k hk
       have e6 := hE.c6
       have hkids := hE.kids
       obtain ⟨A4, c4, hv4, hkc, hkm, -⟩ := elems_open hkids
       injection hv4 with e1 e2 e3
       subst e1 e3
       generalize q[k].kids = K at *
       obtain ⟨tn, htn⟩ : ∃ tn, tn = min K.length (1000 + 1 - q.length) := ⟨_, rfl⟩
       have hgt := row_take hkids tn (by rw [List.length_map]; omega)
       rw [← List.map_take] at hgt
       have htk : K.take tn = K.take (1000 + 1 - q.length) := by
         rcases Nat.le_total K.length (1000 + 1 - q.length) with h | h
         · rw [htn, Nat.min_eq_left h, List.take_length, List.take_of_length_le h]
         · rw [htn, Nat.min_eq_right h]
       rw [htk] at hgt
       have HKT := Lib.hid hgt
       have HTL : Hid ((K.take (1000 + 1 - q.length)).length = tn) := by rw [Hid, List.length_take, htn, Nat.min_comm]
       have hk1 : (0 : Int) ≤ (k : Int) := by omega
       have hk2 : (k : Int) < (q.length : Int) := by omega
       have hd1 : decide (k < q.length) = true := by simpa using hk
       have hd2 : decide (q.length ≤ 1000) = true := by simpa using hq2
       have HTN := Lib.hid htn
       have hsb : IntKind.i64.wrap (1001 - (q.length : Int)) = 1001 - (q.length : Int) := IntWalk.i64_in _ (by omega)
       have hmn : min (K.length : Int) (1001 - (q.length : Int)) = (tn : Int) := by omega
       have hmn2 : (if 1001 - (q.length : Int) < (K.length : Int) then 1001 - (q.length : Int) else (K.length : Int)) = (tn : Int) := by split <;> omega
       have ht0 : (0 : Int) ≤ (tn : Int) := by omega
       have ht1 : (tn : Int) ≤ (c3 : Int) := by omega
       have hqt : q.length + tn ≤ 1001 := by omega
       clear hop hE hkids hgt htk htn HR
       go_wp2_with fail
       refine wp_region_held (S := (fun _ => True)) (by kernel_rfl) ?_
       change wpAnyH _ _ _ _ _ _ _ _ (World.drew _)
       refine wpAnyH_take (i := 0) (v := ?_) rfl (by kernel_rfl) (by kernel_rfl) (by kernel_rfl) (fun _ _ _ h => h) (Or.inl ⟨by rfl, ?_⟩) trivial ?_
       rotate_left
       · (intro w_ hS_; obtain _s := hS_; go_simp; try with_reducible rfl)
       refine wpAnyH_take (i := 2) (v := ?_) rfl (by kernel_rfl) (by kernel_rfl) (by kernel_rfl) (fun _ _ _ h => h) (Or.inl ⟨by rfl, ?_⟩) trivial ?_
       rotate_left
       · (intro w_ hS_; obtain _s := hS_; go_simp; try with_reducible rfl)
       refine wpAnyH_take (i := 3) (v := ?_) rfl (by kernel_rfl) (by kernel_rfl) (by kernel_rfl) (fun _ _ _ h => h) (Or.inl ⟨by rfl, ?_⟩) trivial ?_
       rotate_left
       · (intro w_ hS_; obtain _s := hS_; go_simp; try with_reducible rfl)
       refine wpAnyH_take (i := 5) (v := ?_) rfl (by kernel_rfl) (by kernel_rfl) (by kernel_rfl) (fun _ _ _ h => h) (Or.inl ⟨by rfl, ?_⟩) trivial ?_
       rotate_left
       · (intro w_ hS_; obtain _s := hS_; go_simp; try with_reducible rfl)
       refine wpAnyH_ask (i := 1) (v := _) rfl (by kernel_rfl) (by kernel_rfl) (by kernel_rfl) (fun _ _ _ h => h) ⟨by rfl, _, _, ?_, fun w_ hS_ => clip_calls (some ⟨b, o, none⟩) q.length c' hqc hqm w_⟩ trivial ?_
       · (intro w_; go_simp; try with_reducible rfl)
       refine wpAnyH_take (i := 4) (v := ?_) rfl (by kernel_rfl) (by kernel_rfl) (by kernel_rfl) (fun _ _ _ h => h) (Or.inl ⟨by rfl, ?_⟩) trivial ?_
       rotate_left
       · (intro w_ hS_; obtain _s := hS_; go_simp; try with_reducible rfl)
       refine wpAnyH_take (i := 6) (v := ?_) rfl (by kernel_rfl) (by kernel_rfl) (by kernel_rfl) (fun _ _ _ h => h) (Or.inl ⟨by rfl, ?_⟩) trivial ?_
       rotate_left
       · (intro w_ hS_; obtain _s := hS_; go_simp; try with_reducible rfl)
       refine wpAnyH_take (i := 7) (v := ?_) rfl (by kernel_rfl) (by kernel_rfl) (by kernel_rfl) (fun _ _ _ h => h) (Or.inl ⟨by rfl, ?_⟩) trivial ?_
       rotate_left
       · (intro w_ hS_; obtain _s := hS_; go_simp; try with_reducible rfl)
       refine wpAnyH_take (i := 8) (v := ?_) rfl (by kernel_rfl) (by kernel_rfl) (by kernel_rfl) (fun _ _ _ h => h) (Or.inl ⟨by rfl, ?_⟩) trivial ?_
       rotate_left
       · (intro w_ hS_; obtain _s := hS_; go_simp; try with_reducible rfl)
       refine wpAnyH_take (i := 9) (v := ?_) rfl (by kernel_rfl) (by kernel_rfl) (by kernel_rfl) (fun _ _ _ h => h) (Or.inl ⟨by rfl, ?_⟩) trivial ?_
       rotate_left
       · (intro w_ hS_; obtain _s := hS_; go_simp; try with_reducible rfl)
       refine wpAnyH_ready (rs := [10]) (by kernel_rfl) (by simp) ?_
       refine AllReadyH.cons rfl (fun K_ hK_ => ?_) AllReadyH.nil
       refine step_append_clip (A := some ⟨b, o, none⟩) (n := q.length) (Ax := A3) (k := tn) (cx := c3) (F := fun _ => True) (l := q.map Elem.gv) (m := (K.take (1000 + 1 - q.length)).map Elem.gv) (by kernel_rfl) (.tmp 28) (.tmp 36) 39 (by kernel_rfl) elemTy2 (by kernel_rfl) (by kernel_rfl) (by rw [List.length_map]) (by rw [List.length_map]; exact HTL.out.symm) (clip_gr (gr_drew HG.out)) (gr_drew HKT.out) (by rw [List.length_map, List.length_map, HTL.out]; simp only [maxLen]; omega) (by rw [List.length_map, List.length_map, HTL.out]; omega) ?_
       intro A6 c6 w6 hg6 hb6
       refine hK_.out _ _ trivial fun _ => ?_
       clear hK_ K_
       refine wpAnyH_take (i := 11) (v := ?_) rfl (by kernel_rfl) (by kernel_rfl) (by kernel_rfl) (fun _ _ _ h => h) (Or.inl ⟨by rfl, ?_⟩) trivial ?_
       rotate_left
       · (intro w_ hS_; obtain _s := hS_; go_simp; try with_reducible rfl)
       refine wpAnyH_done (by kernel_rfl) ?_ _
       have HG6 : Hid (GR w6 (fun _ => True) (.row 7 ((q ++ K.take (1000 + 1 - q.length)).map Elem.gv)) [.slice A6 (q.length + tn) c6]) := by
         rw [Hid, List.map_append]; exact hg6.weaken (fun _ _ => trivial)
       have HB6 : Hid (Below w.heap.size w w6) := HB.out.drew.trans (hb6.mono HB.out.size)
       have HQL : Hid ((q ++ K.take (1000 + 1 - q.length)).length = q.length + tn) := by rw [Hid, List.length_append, HTL.out]
       clear hg6 hb6
       go_wp2_with fail
       go_roundw
       case rel => exact ⟨k + 1, q ++ K.take (1000 + 1 - q.length), A6, c6, n, by rw [HQL.out], by go_num, by rw [HQL.out]; exact HG6.out, by rw [HQL.out]; exact hqt, HR2.out, by omega, HB6.out⟩
       case measure => simp [intOf]; omega
     · have HR2 := Lib.hid (HR.out.trans (bfsF_stop hc))
       have hd : decide (k < q.length) = false ∨ decide (k < q.length) = true ∧ decide (q.length ≤ 1000) = false := by
         by_cases h : k < q.length
         · exact .inr ⟨by simpa using h, by rw [decide_eq_false_iff_not]; exact fun e => hc ⟨h, e⟩⟩
         · exact .inl (by simpa using h)
       rcases hd with hd | ⟨hd, hd2⟩
       · go_wp2_with fail
         go_ret
         exact ⟨by rw [HR2.out]; rfl, HB.out⟩
       · have hd3 : ¬ ((q.length : Int) ≤ 1000) := by simp at hd2; omega
         have hd4 : decide ((q.length : Int) ≤ 1000) = false := by simpa using hd3
         go_wp2_with fail
         go_ret
         exact ⟨by rw [HR2.out]; rfl, HB.out⟩
end Go.Proofs.YtijpfcjlochahaaDoor
