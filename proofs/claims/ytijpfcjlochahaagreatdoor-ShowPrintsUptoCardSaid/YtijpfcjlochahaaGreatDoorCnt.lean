/- append behind a slice that has no room: what was there, and what is appended, lie in a block of their own. No program is named here. The walk of doc.Count. -/
import Derived.Test.YtijpfcjlochahaaGreatDoorBase
import Derived.Test.YtijpfcjlochahaaGreatDoorLexA
import Derived.Test.YtijpfcjlochahaaGreatDoorElem
import Derived.Test.YtijpfcjlochahaaGreatDoorCntP
import Derived.Test.YtijpfcjlochahaaGreatDoorAsk
import Derived.Deep.RegionHeld
import Derived.Deep.CutRange
import Derived.Deep.QuietTactic
import Derived.IntWalk
namespace Go.Proofs.YtijpfcjlochahaaGreatDoor
open Go Go.RowKit
set_option linter.unusedVariables false
set_option linter.unusedSimpArgs false
section
variable {P : Program} {w : World}
theorem run_append_clip0 (t ty e : TypeId) (i : TypeInfo) (ht : P.underlying t = some (.slice e)) (hi : P.info? e = some i) (A Ax : Option Addr) (n cx : Nat) (hA : A = none → n = 0) :
    (Builtin.append_ #[t, t] ty #[.slice A n n, .slice Ax 0 cx]).run P w = .ok (.slice A n n) w := by
  have hx : (Builtin.firstCells i.size 0 (.slice Ax 0 cx)).run P w = .ok #[] w := by
    cases Ax <;> simp [Builtin.firstCells, loadCells, loadCellsFrom]
  cases A with
  | none =>
    have hn := hA rfl
    subst hn
    simp [Builtin.append_, run_underlying ht, sizeOf, typeInfo, hi, Builtin.lenOf, hx]
  | some a =>
    simp [Builtin.append_, run_underlying ht, sizeOf, typeInfo, hi, Builtin.lenOf, hx, storeCells]
/-- The elements that lie behind one another. -/
theorem run_append_clip {t ty e : TypeId} {size bytes : Nat} (hT : ElemTy P t e size bytes) {F : Nat → Prop} {l m : List GV} {A Ax : Option Addr} {cx : Nat} (hl : GR w F (.row size l) [.slice A l.length l.length]) (hm : GR w F (.row size m) [.slice Ax m.length cx])
    (h63 : l.length + m.length ≤ maxLen) (hbytes : (l.length + m.length) * bytes ≤ 140737488355328) :
    ∃ A' c' w', (Builtin.append_ #[t, t] ty #[.slice A l.length l.length, .slice Ax m.length cx]).run P w = .ok (.slice A' (l.length + m.length) c') w' ∧
      GR w' (fun g => F g ∨ w.heap.size ≤ g) (.row size (l ++ m)) [.slice A' (l.length + m.length) c'] ∧ Below w.heap.size w w' := by
  obtain ⟨i, z, ht, hi, hz, hsize, hby, hzs, hsz⟩ := hT
  subst hsize hby
  obtain ⟨A1, c1, xs, h1, h2, h3, h4, h5, h6⟩ := GR_row.1 hl
  obtain ⟨A2, c2, ys, k1, k2, k3, k4, k5, k6⟩ := GR_row.1 hm
  simp only [List.cons.injEq, and_true] at h1 k1
  injection h1 with e1 e2 e3
  injection k1 with d1 d2 d3
  subst e1 e3 d1 d3
  have hnil : ∀ {q : List Value} {B : Option Addr} {n : Nat}, Cells w F B q → q.length = n * i.size → B = none → n = 0 := by
    intro q B n hq hql hB
    subst hB
    have hq0 : q = [] := Classical.byContradiction fun h => by
      obtain ⟨b, o, hb, -⟩ := hq h
      cases hb
    subst hq0
    rcases Nat.mul_eq_zero.1 hql.symm with h | h
    · exact h
    · omega
  have hcells : ∀ {q : List Value} {ad : Addr}, Cells w F (some ad) q → ∀ j u, q[j]? = some u → w.cell? (ad.add j) = some u := by
    intro q ad hq j u hu
    obtain ⟨b, o, hb, -, hc⟩ := hq (by rintro rfl; simp at hu)
    injection hb with hb
    subst hb
    have hadd : (⟨b, o, none⟩ : Addr).add j = ⟨b, o + j, none⟩ := by unfold Addr.add; split <;> simp_all
    rw [hadd]
    exact hc j u hu
  rcases Nat.eq_zero_or_pos m.length with hm0 | hm0
  · have hmm := List.eq_nil_of_length_eq_zero hm0
    subst hmm
    refine ⟨A, l.length, w, ?_, ?_, Below.refl _ _⟩
    · exact run_append_clip0 t ty e i ht hi A Ax l.length _ (fun h => hnil h5 h4 h)
    · rw [List.append_nil, List.length_nil, Nat.add_zero]
      exact hl.weaken fun g hg => .inl hg
  · obtain ⟨ax, rfl⟩ : ∃ ax, Ax = some ax := by
      cases Ax with
      | none => exact absurd (hnil k5 k4 rfl) (by omega)
      | some ax => exact ⟨ax, rfl⟩
    have hnews := hcells k5
    have hfit : ∀ old, old < l.length + m.length → Builtin.nextslicecap (l.length + m.length) old * i.bytes ≤ 281474976710656 := fun old ho => growslice_fits ho hbytes
    have fin : ∀ old, old < l.length + m.length →
        GR (w.drew.alloc (.cells (xs.toArray ++ ys.toArray ++ Builtin.zeroCells z.cells (grownCap w (l.length + m.length) old e - (l.length + m.length))) e)) (fun g => F g ∨ w.heap.size ≤ g) (.row i.size (l ++ m)) [.slice (some ⟨w.heap.size, 0, none⟩) (l.length + m.length) (grownCap w (l.length + m.length) old e)] ∧
        Below w.heap.size w (w.drew.alloc (.cells (xs.toArray ++ ys.toArray ++ Builtin.zeroCells z.cells (grownCap w (l.length + m.length) old e - (l.length + m.length))) e)) := by
      intro old ho
      have hb : Below w.heap.size w (w.drew.alloc (.cells (xs.toArray ++ ys.toArray ++ Builtin.zeroCells z.cells (grownCap w (l.length + m.length) old e - (l.length + m.length))) e)) := (Below.refl _ _).drew.alloc (Nat.le_refl _) _
      refine ⟨GR_row.2 ⟨_, _, xs ++ ys, by rw [List.length_append], ?_, ?_, ?_, ?_, ?_⟩, hb⟩
      · rw [List.length_append]; exact grownCap_ge w _ old e
      · exact grownCap_le_maxLen w _ old e h63
      · rw [List.length_append, h4, k4, List.length_append, Nat.add_mul]
      · intro _
        refine ⟨w.heap.size, 0, rfl, .inr (Nat.le_refl _), fun j u hu => ?_⟩
        have hnew : Blk (w.drew.alloc (.cells (xs.toArray ++ ys.toArray ++ Builtin.zeroCells z.cells (grownCap w (l.length + m.length) old e - (l.length + m.length))) e)) w.heap.size e (xs.toArray ++ ys.toArray ++ Builtin.zeroCells z.cells (grownCap w (l.length + m.length) old e - (l.length + m.length))) := Blk.new w.drew _ _
        rw [Nat.zero_add, hnew.cell]
        have hj := (List.getElem?_eq_some_iff.1 hu).1
        rw [List.length_append] at hj
        rw [Array.getElem?_append_left (by simp; omega)]
        simpa using hu
      · have h7 := GRl.append k6 h6
        exact GRl.mono (fun k hk => .inl hk.1) (fun k hk hlt => hb.block k hlt) i.size _ _ (GRl.lt_heap i.size _ _ h7)
    cases A with
    | none =>
      have hl0 : l.length = 0 := hnil h5 h4 rfl
      have hll := List.eq_nil_of_length_eq_zero hl0
      subst hll
      have hxs : xs = [] := List.eq_nil_of_length_eq_zero (by simpa using h4)
      subst hxs
      have hr := run_append_nil (P := P) w t ty e i z ht hi hz ax m.length cx ys k4 hnews hm0 (by simp only [maxLen, List.length_nil] at h63; omega) (by simp only [List.length_nil, Nat.zero_add] at hbytes; omega)
      have hf := fin 0 (by simp; omega)
      simp only [List.length_nil, Nat.zero_add, List.nil_append, Array.empty_append] at hf ⊢
      exact ⟨_, _, _, hr, hf.1, hf.2⟩
    | some ad =>
      have hr := run_append_grow (P := P) w t ty e i z ht hi hz ad l.length l.length xs h4 (hcells h5) ax m.length cx ys k4 hnews (by omega) (by simp only [maxLen] at h63; omega) (hfit _ (by omega))
      have hf := fin l.length (by omega)
      exact ⟨_, _, _, hr, hf.1, hf.2⟩
theorem step_append_clip {ops : Array Oper} {o : Oper} {a : Act} {K : Act → World → Prop} {Q : Exit → Act → World → Prop} {E : Prop} (hgd : o.guard = none) (s x : Operand) (t : TypeId)
    (ho : o.op = .call { callee := .builtin .append, args := #[s, x], argTypes := #[t, t] })
    {e : TypeId} {size bytes : Nat} (hT : ElemTy P t e size bytes) {F : Nat → Prop} {l m : List GV} {A Ax : Option Addr} {n k cx : Nat} (hs : a.eval s = .slice A n n) (hv : a.eval x = .slice Ax k cx) (hn : n = l.length) (hk : k = m.length)
    (hl : GR w F (.row size l) [.slice A n n]) (hm : GR w F (.row size m) [.slice Ax k cx]) (h63 : l.length + m.length ≤ maxLen) (hbytes : (l.length + m.length) * bytes ≤ 140737488355328)
    (h : ∀ A' c' w', GR w' (fun g => F g ∨ w.heap.size ≤ g) (.row size (l ++ m)) [.slice A' (n + k) c'] → Below w.heap.size w w' → K (a.put o.dst (.slice A' (n + k) c')) w') :
    if Region.wanted o (yielded ops a.tmps) = true then Oper.wp P o a w K Q else E := by
  have hw : Region.wanted o (yielded ops a.tmps) = true := by simp [Region.wanted, hgd]
  rw [if_pos hw]
  subst hn hk
  obtain ⟨A', c', w', hrun, h2, h3⟩ := run_append_clip (P := P) (ty := o.type) hT hl hm h63 hbytes
  unfold Oper.wp execOp
  simp only [ho, resolve, invoke, builtin, Sem.run_bind, Sem.run_pure, Result.andThen_ok, List.map_toArray, List.map_cons, List.map_nil, hs, hv, hrun]
  exact h A' c' w' h2 h3
end
end Go.Proofs.YtijpfcjlochahaaGreatDoor
namespace Go.Proofs.YtijpfcjlochahaaGreatDoor
set_option linter.unusedVariables false
set_option linter.unusedSimpArgs false
open Go Go.RowKit

theorem info_parts2 {P : Program} {e : TypeId} {z : Value} {n b : Nat} (h : (P.info? e).map (fun i => (i.zero, i.size, i.bytes)) = some (some z, n, b)) : ∃ i, P.info? e = some i ∧ i.zero = some z ∧ i.size = n ∧ i.bytes = b := by
  cases hi : P.info? e with
  | none => rw [hi] at h; cases h
  | some i =>
    rw [hi] at h
    simp only [Option.map_some, Option.some.injEq, Prod.mk.injEq] at h
    exact ⟨i, rfl, h.1, h.2.1, h.2.2⟩
theorem elemTy2 : ElemTy Tryz.prog 36 74 7 104 := by
  obtain ⟨i0, hi, hz0, hz1, hz2⟩ := info_parts2 (show (Tryz.prog.info? 74).map (fun i => (i.zero, i.size, i.bytes)) = some (some (.agg #[.int .i64 0, .string ⟨#[]⟩, .string ⟨#[]⟩, .string ⟨#[]⟩, .bool false, .string ⟨#[]⟩, .slice none 0 0]), 7, 104) by kernel_rfl)
  exact ⟨i0, _, Tryz.underlying36, hi, hz0, hz1, hz2, rfl, by omega⟩
theorem clip_gr {w : World} {F : Nat → Prop} {sz : Nat} {l : List GV} {A : Option Addr} {n c : Nat} (h : GR w F (.row sz l) [.slice A n c]) : GR w F (.row sz l) [.slice A n n] := by
  obtain ⟨A', c', xs, h1, h2, h3, h4, h5, h6⟩ := GR_row.1 h
  simp only [List.cons.injEq, and_true] at h1
  injection h1 with e1 e2 e3
  subst e1 e3
  exact GR_row.2 ⟨A, n, xs, by rw [e2], by omega, by omega, h4, h5, h6⟩
theorem gr_drew {w : World} {F : Nat → Prop} {x : GV} {cs : List Value} (h : GR w F x cs) : GR w.drew F x cs :=
  GR.mono (w := w) (w' := w.drew) (F := F) (F' := F) (fun _ e => e) (fun _ _ _ => rfl) x cs h
set_option maxRecDepth 20000 in
set_option maxHeartbeats 1000000 in
theorem clip_calls (A : Option Addr) (n c : Nat) (hn : n ≤ c) (hc : c ≤ maxLen) (w : World) : Calls Tryz.prog 127 #[.slice A n c] w fun e w' => e = .returned (.slice A n n) ∧ w = w' := by
  unfold maxLen at hc
  have h0 : (0 : Int) ≤ (n : Int) := by omega
  have h1 : (n : Int) ≤ (c : Int) := by omega
  go_enter Tryz.func127, Tryz.ntmps127
  go_wp2_with fail
  all_goals
    go_ret
    exact ⟨rfl, rfl⟩
set_option maxRecDepth 20000 in
set_option maxHeartbeats 4000000 in
theorem count_calls (l : List Elem) (v : Value) (F : Nat → Prop) (w : World) (hv : GR w F (.row 7 (l.map Elem.gv)) [v]) :
    Calls Tryz.prog 78 #[v] w fun e w' => e = .returned (.int .i64 (countF 1000 l)) ∧ Below w.heap.size w w' := by
  obtain ⟨A, c, rfl, hlc, hcm, -⟩ := elems_open hv
  have hgt := row_take hv (min l.length 1001) (by rw [List.length_map]; omega)
  rw [← List.map_take] at hgt
  have hm : l.take (min l.length 1001) = l.take 1001 := by
    rcases Nat.le_total l.length 1001 with h | h
    · rw [Nat.min_eq_left h, List.take_length, List.take_of_length_le h]
    · rw [Nat.min_eq_right h]
  rw [hm] at hgt
  obtain ⟨M, hM⟩ : ∃ M, M = l.take 1001 := ⟨_, rfl⟩
  have hml : M.length = min l.length 1001 := by rw [hM, List.length_take, Nat.min_comm]
  have HCF : Hid (countF 1000 l = bfsF 1000 1002 0 M) := by rw [hM]; rfl
  rw [← hM, ← hml] at hgt
  have hm0 : (0 : Int) ≤ (M.length : Int) := by omega
  have hm1 : (M.length : Int) ≤ (c : Int) := by omega
  have hM1 : M.length ≤ 1001 := by omega
  have HGT := Lib.hid (hgt.weaken (F' := fun _ => True) (fun _ _ => trivial))
  have hmc : M.length ≤ c := by omega
  have HML := Lib.hid hml
  clear hm hM hml hgt hv
  generalize countF 1000 l = R at *
  unfold maxLen at hcm
  go_enter Tryz.func78, Tryz.ntmps78
  go_upto_region 1 with (fail)
  go_cut [3] from 6 to 11 (fun qv wx => qv = .slice A M.length c ∧ wx = w)
  case first =>
    go_wp2_with fail
    all_goals
      go_meet
      case rel =>
        refine ⟨?_, rfl⟩
        have := HML.out
        congr 1
        omega
  case rest =>
   obtain ⟨rfl, hww⟩ := hcut
   have hww := hww.symm
   subst hww
   go_wp2_with fail
   go_loopw [3, 4] (fun qv i wr => ∃ (k : Nat) (q : List Elem) (A' : Option Addr) (c' n : Nat), qv = .slice A' q.length c' ∧ i = .int .i64 k ∧ Hid (GR wr (fun _ => True) (.row 7 (q.map Elem.gv)) [.slice A' q.length c']) ∧ q.length ≤ 1001 ∧ Hid (R = bfsF 1000 n k q) ∧ k + n = 1002 ∧ Hid (Below w.heap.size w wr))
     (fun _ i wr => 1002 - (intOf i).toNat)
   case atStart => exact ⟨0, M, A, c, 1002, rfl, rfl, HGT, hM1, HCF, rfl, Below.refl _ _⟩
   case round =>
     obtain ⟨k, q, A', c', n, rfl, rfl, HG, hq, HR, hkn, HB⟩ := hrel
     by_cases hc : k < q.length ∧ q.length ≤ 1000
     · obtain ⟨hk, hq2⟩ := hc
       obtain ⟨n, rfl⟩ : ∃ n', n = n' + 1 := ⟨n - 1, by omega⟩
       have HR2 := Lib.hid (HR.out.trans (bfsF_more hk hq2))
       obtain ⟨A2, c2, hv2, hqc, hqm, hop⟩ := elems_open HG.out
       injection hv2 with e1 e2 e3
       subst e1 e3
       obtain ⟨b, o, rfl, -, hop⟩ := hop (by rintro e; rw [e] at hk; simp at hk)
       obtain ⟨A3, c3, hE⟩ := hop k hk
       have e6 := hE.c6
       have hkids := hE.kids
       obtain ⟨A4, c4, hv4, hkc, hkm, -⟩ := elems_open hkids
       injection hv4 with e1 e2 e3
       subst e1 e3
       generalize q[k].kids = K at *
       obtain ⟨tn, htn⟩ : ∃ tn, tn = min K.length (1000 + 1 - q.length) := ⟨_, rfl⟩
       have hgt := row_take hkids tn (by rw [List.length_map]; omega)
       rw [← List.map_take] at hgt
       have htk : K.take tn = K.take (1000 + 1 - q.length) := by
         rcases Nat.le_total K.length (1000 + 1 - q.length) with h | h
         · rw [htn, Nat.min_eq_left h, List.take_length, List.take_of_length_le h]
         · rw [htn, Nat.min_eq_right h]
       rw [htk] at hgt
       have HKT := Lib.hid hgt
       have HTL : Hid ((K.take (1000 + 1 - q.length)).length = tn) := by rw [Hid, List.length_take, htn, Nat.min_comm]
       have hk1 : (0 : Int) ≤ (k : Int) := by omega
       have hk2 : (k : Int) < (q.length : Int) := by omega
       have hd1 : decide (k < q.length) = true := by simpa using hk
       have hd2 : decide (q.length ≤ 1000) = true := by simpa using hq2
       have HTN := Lib.hid htn
       have hsb : IntKind.i64.wrap (1001 - (q.length : Int)) = 1001 - (q.length : Int) := IntWalk.i64_in _ (by omega)
       have hmn : min (K.length : Int) (1001 - (q.length : Int)) = (tn : Int) := by omega
       have hmn2 : (if 1001 - (q.length : Int) < (K.length : Int) then 1001 - (q.length : Int) else (K.length : Int)) = (tn : Int) := by split <;> omega
       have ht0 : (0 : Int) ≤ (tn : Int) := by omega
       have ht1 : (tn : Int) ≤ (c3 : Int) := by omega
       have hqt : q.length + tn ≤ 1001 := by omega
       clear hop hE hkids hgt htk htn HR
       go_wp2_with fail
       refine wp_region_held (S := (fun _ => True)) (by kernel_rfl) ?_
       change wpAnyH _ _ _ _ _ _ _ _ (World.drew _)
       refine wpAnyH_take (i := 0) (v := ?_) rfl (by kernel_rfl) (by kernel_rfl) (by kernel_rfl) (fun _ _ _ h => h) (Or.inl ⟨by rfl, ?_⟩) trivial ?_
       rotate_left
       · (intro w_ hS_; obtain _s := hS_; go_simp; try with_reducible rfl)
       refine wpAnyH_take (i := 2) (v := ?_) rfl (by kernel_rfl) (by kernel_rfl) (by kernel_rfl) (fun _ _ _ h => h) (Or.inl ⟨by rfl, ?_⟩) trivial ?_
       rotate_left
       · (intro w_ hS_; obtain _s := hS_; go_simp; try with_reducible rfl)
       refine wpAnyH_take (i := 3) (v := ?_) rfl (by kernel_rfl) (by kernel_rfl) (by kernel_rfl) (fun _ _ _ h => h) (Or.inl ⟨by rfl, ?_⟩) trivial ?_
       rotate_left
       · (intro w_ hS_; obtain _s := hS_; go_simp; try with_reducible rfl)
       refine wpAnyH_take (i := 5) (v := ?_) rfl (by kernel_rfl) (by kernel_rfl) (by kernel_rfl) (fun _ _ _ h => h) (Or.inl ⟨by rfl, ?_⟩) trivial ?_
       rotate_left
       · (intro w_ hS_; obtain _s := hS_; go_simp; try with_reducible rfl)
       refine wpAnyH_ask (i := 1) (v := _) rfl (by kernel_rfl) (by kernel_rfl) (by kernel_rfl) (fun _ _ _ h => h) ⟨by rfl, _, _, ?_, fun w_ hS_ => clip_calls (some ⟨b, o, none⟩) q.length c' hqc hqm w_⟩ trivial ?_
       · (intro w_; go_simp; try with_reducible rfl)
       refine wpAnyH_take (i := 4) (v := ?_) rfl (by kernel_rfl) (by kernel_rfl) (by kernel_rfl) (fun _ _ _ h => h) (Or.inl ⟨by rfl, ?_⟩) trivial ?_
       rotate_left
       · (intro w_ hS_; obtain _s := hS_; go_simp; try with_reducible rfl)
       refine wpAnyH_take (i := 6) (v := ?_) rfl (by kernel_rfl) (by kernel_rfl) (by kernel_rfl) (fun _ _ _ h => h) (Or.inl ⟨by rfl, ?_⟩) trivial ?_
       rotate_left
       · (intro w_ hS_; obtain _s := hS_; go_simp; try with_reducible rfl)
       refine wpAnyH_take (i := 7) (v := ?_) rfl (by kernel_rfl) (by kernel_rfl) (by kernel_rfl) (fun _ _ _ h => h) (Or.inl ⟨by rfl, ?_⟩) trivial ?_
       rotate_left
       · (intro w_ hS_; obtain _s := hS_; go_simp; try with_reducible rfl)
       refine wpAnyH_take (i := 8) (v := ?_) rfl (by kernel_rfl) (by kernel_rfl) (by kernel_rfl) (fun _ _ _ h => h) (Or.inl ⟨by rfl, ?_⟩) trivial ?_
       rotate_left
       · (intro w_ hS_; obtain _s := hS_; go_simp; try with_reducible rfl)
       refine wpAnyH_take (i := 9) (v := ?_) rfl (by kernel_rfl) (by kernel_rfl) (by kernel_rfl) (fun _ _ _ h => h) (Or.inl ⟨by rfl, ?_⟩) trivial ?_
       rotate_left
       · (intro w_ hS_; obtain _s := hS_; go_simp; try with_reducible rfl)
       refine wpAnyH_ready (rs := [10]) (by kernel_rfl) (by simp) ?_
       refine AllReadyH.cons rfl (fun K_ hK_ => ?_) AllReadyH.nil
       refine step_append_clip (A := some ⟨b, o, none⟩) (n := q.length) (Ax := A3) (k := tn) (cx := c3) (F := fun _ => True) (l := q.map Elem.gv) (m := (K.take (1000 + 1 - q.length)).map Elem.gv) (by kernel_rfl) (.tmp 28) (.tmp 36) 36 (by kernel_rfl) elemTy2 (by kernel_rfl) (by kernel_rfl) (by rw [List.length_map]) (by rw [List.length_map]; exact HTL.out.symm) (clip_gr (gr_drew HG.out)) (gr_drew HKT.out) (by rw [List.length_map, List.length_map, HTL.out]; simp only [maxLen]; omega) (by rw [List.length_map, List.length_map, HTL.out]; omega) ?_
       intro A6 c6 w6 hg6 hb6
       refine hK_.out _ _ trivial fun _ => ?_
       clear hK_ K_
       refine wpAnyH_take (i := 11) (v := ?_) rfl (by kernel_rfl) (by kernel_rfl) (by kernel_rfl) (fun _ _ _ h => h) (Or.inl ⟨by rfl, ?_⟩) trivial ?_
       rotate_left
       · (intro w_ hS_; obtain _s := hS_; go_simp; try with_reducible rfl)
       refine wpAnyH_done (by kernel_rfl) ?_ _
       have HG6 : Hid (GR w6 (fun _ => True) (.row 7 ((q ++ K.take (1000 + 1 - q.length)).map Elem.gv)) [.slice A6 (q.length + tn) c6]) := by
         rw [Hid, List.map_append]; exact hg6.weaken (fun _ _ => trivial)
       have HB6 : Hid (Below w.heap.size w w6) := HB.out.drew.trans (hb6.mono HB.out.size)
       have HQL : Hid ((q ++ K.take (1000 + 1 - q.length)).length = q.length + tn) := by rw [Hid, List.length_append, HTL.out]
       clear hg6 hb6
       go_wp2_with fail
       go_roundw
       case rel => exact ⟨k + 1, q ++ K.take (1000 + 1 - q.length), A6, c6, n, by rw [HQL.out], by go_num, by rw [HQL.out]; exact HG6.out, by rw [HQL.out]; exact hqt, HR2.out, by omega, HB6.out⟩
       case measure => simp [intOf]; omega
     · have HR2 := Lib.hid (HR.out.trans (bfsF_stop hc))
       have hd : decide (k < q.length) = false ∨ decide (k < q.length) = true ∧ decide (q.length ≤ 1000) = false := by
         by_cases h : k < q.length
         · exact .inr ⟨by simpa using h, by rw [decide_eq_false_iff_not]; exact fun e => hc ⟨h, e⟩⟩
         · exact .inl (by simpa using h)
       rcases hd with hd | ⟨hd, hd2⟩
       · go_wp2_with fail
         go_ret
         exact ⟨by rw [HR2.out]; rfl, HB.out⟩
       · have hd3 : ¬ ((q.length : Int) ≤ 1000) := by simp at hd2; omega
         have hd4 : decide ((q.length : Int) ≤ 1000) = false := by simpa using hd3
         go_wp2_with fail
         go_ret
         exact ⟨by rw [HR2.out]; rfl, HB.out⟩
end Go.Proofs.YtijpfcjlochahaaGreatDoor
