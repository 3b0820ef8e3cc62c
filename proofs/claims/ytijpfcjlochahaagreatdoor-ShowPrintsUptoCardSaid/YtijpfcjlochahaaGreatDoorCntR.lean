/- The walk of the reference's Count. -/
import Derived.Test.YtijpfcjlochahaaGreatDoorCnt
import Derived.Test.YtijpfcjlochahaaGreatDoorApp
import Derived.Test.YtijpfcjlochahaaGreatDoorLexB
namespace Go.Proofs.YtijpfcjlochahaaGreatDoor
open Go Go.RowKit
set_option linter.unusedVariables false
set_option linter.unusedSimpArgs false

def fillN (q K : List Elem) (j : Nat) : List Elem := q ++ (K.take j).take (1001 - q.length)
theorem fill_len (q K : List Elem) (j : Nat) (hj : j ≤ K.length) : (fillN q K j).length = q.length + min (1001 - q.length) j := by
  rw [fillN, List.length_append, List.length_take, List.length_take]; omega
theorem fill_more {q K : List Elem} {j : Nat} (hj : j < K.length) (h : (fillN q K j).length ≤ 1000) : fillN q K (j + 1) = fillN q K j ++ [K[j]] := by
  rw [fill_len q K j (by omega)] at h
  have h1 : min (1001 - q.length) (j + 1) = j + 1 := by omega
  have h2 : min (1001 - q.length) j = j := by omega
  rw [fillN, fillN, List.take_take, List.take_take, h1, h2, List.take_succ_eq_append_getElem hj, List.append_assoc]
theorem fill_same {q K : List Elem} {j : Nat} (hj : j < K.length) (h : ¬ (fillN q K j).length ≤ 1000) : fillN q K (j + 1) = fillN q K j := by
  rw [fill_len q K j (by omega)] at h
  have h1 : min (1001 - q.length) (j + 1) = min (1001 - q.length) j := by omega
  rw [fillN, fillN, List.take_take, List.take_take, h1]
theorem fill_le {q K : List Elem} {j : Nat} (hj : j ≤ K.length) (h : q.length ≤ 1001) : (fillN q K j).length ≤ 1001 := by
  rw [fill_len q K j hj]; omega
theorem fill_end (q K : List Elem) : fillN q K K.length = q ++ K.take (1001 - q.length) := by rw [fillN, List.take_length]
theorem fill_zero (q K : List Elem) : fillN q K 0 = q := by simp [fillN]

section
variable {W : World} {base : Nat} {G : Nat → Prop} {v : Value} {o : List Elem} {e : Elem} {kv : Value}
/-- A copy of an element, laid in a row of one, is appended to a row of the call's own. -/
theorem app_copy {N : Nat} (ho : OwnR W base 74 7 G v (o.map Elem.gv)) (hk : GR W G (.row 7 (e.kids.map Elem.gv)) [kv]) (hG : ∀ k, G k → k < base) (hb : base ≤ W.heap.size) (hN : N = o.length) (hlen : o.length ≤ 99999) (C : Array Value) (hC : C = (eCells e kv).toArray) :
    App ((W.alloc (.cells C 74)).alloc (.cells C 74)) base 74 7 104 G v (o.map Elem.gv) (some ⟨W.heap.size + 1, 0, none⟩) 1 [e.gv] (eCells e kv) (N + 1) := by
  subst hC hN
  have hb1 : Below W.heap.size W ((W.alloc (.cells (eCells e kv).toArray 74)).alloc (.cells (eCells e kv).toArray 74)) :=
    ((Below.refl _ _).alloc (Nat.le_refl _) _).alloc (by simp) _
  have hB := Blk.new (W.alloc (.cells (eCells e kv).toArray 74)) 74 (eCells e kv).toArray
  rw [size_alloc] at hB
  have hown := ho.below hb1
  have key := App.of_new (bytes := 104) (size := 7) hown hB (GR.mono (F' := fun k => G k ∧ some k ≠ v.ownBlock) (fun k hk => ⟨hk, fun e => by have := (ho.lt k e.symm).1; have := hG k hk; omega⟩) (fun x _ hlt => hb1.block x hlt) _ _ (cells_elem hk)) rfl (by rw [List.length_map]; omega) (by omega) (by rw [size_alloc, size_alloc]; omega)
  rw [List.length_map] at key
  exact key
theorem app_end {w W W2 : World} (hb : Below w.heap.size w W) (ho : OwnR W base 74 7 G v (o.map Elem.gv)) (hbase : w.heap.size ≤ base) (c d : Array Value) (h2 : ((W.alloc (.cells c 74)).alloc (.cells d 74)).grownBy W2 v.ownBlock) : Below w.heap.size w W2 :=
  ((hb.alloc hb.size _).alloc (by have := hb.size; rw [size_alloc]; omega) _).trans (below_of_grown h2 (by have := hb.size; rw [size_alloc, size_alloc]; omega) (fun x hx => by have := (ho.lt x hx).1; omega))
/-- An element of a row of the call's own. -/
theorem own_elem_at {w : World} {t : TypeId} {A : Option Addr} {n c k : Nat} {l : List Elem} (h : OwnR w base t 7 G (.slice A n c) (l.map Elem.gv)) (hn : n = l.length) (hk : k < l.length) :
    ∃ g A' c', A = some ⟨g, 0, none⟩ ∧ n ≤ c ∧ c ≤ maxLen ∧ base ≤ g ∧ g < w.heap.size ∧ w.cell? ⟨g, k * 7 + 6, none⟩ = some (.slice A' l[k].kids.length c') ∧ GR w G (.row 7 (l[k].kids.map Elem.gv)) [.slice A' l[k].kids.length c'] := by
  subst hn
  obtain ⟨xs, hr, hg⟩ := h
  rw [List.length_map] at hr
  have hr0 := hr
  rcases hr.2 with ⟨_, h0⟩ | ⟨g, cap, cur, hv, hb, hh, hn, hm, _⟩
  · omega
  · injection hv with e1 e2 e3
    subst e1 e3
    obtain ⟨cs, h1, h2, h3⟩ := hg.at_ k (by simpa using hk)
    rw [List.getElem_map] at h1
    obtain ⟨A', c', rfl, h4⟩ := elem_cells h1
    have hlt := (hr0.lt g rfl)
    refine ⟨g, A', c', rfl, hn, hm, hlt.1, hlt.2, ?_, h4.weaken (fun _ h => h.1)⟩
    rw [hr0.cellAt _ (by omega)]
    exact h3 6 (by omega)
end
set_option maxRecDepth 20000 in
set_option maxHeartbeats 4000000 in
theorem rcount_calls (l : List Elem) (v : Value) (F : Nat → Prop) (w : World) (hv : GR w F (.row 7 (l.map Elem.gv)) [v]) :
    Calls Tryz.prog 24 #[v, .int .i64 1000] w fun e w' => e = .returned (.int .i64 (countF 1000 l)) ∧ Below w.heap.size w w' := by
  obtain ⟨A, c, rfl, hlc, hcm, hop⟩ := elems_open (GR.lt_heap _ _ hv)
  have HOP := Lib.hid hop
  have HCF : Hid (countF 1000 l = bfsF 1000 1002 0 (fillN [] l l.length)) := by rw [Hid, fill_end]; rfl
  generalize countF 1000 l = R at *
  clear hop hv
  have hb0 : Below w.heap.size w (w.alloc (.cells #[] 74)) := (Below.refl _ _).alloc (Nat.le_refl _) _
  have ho0 : OwnR (w.alloc (.cells #[] 74)) w.heap.size 74 7 (fun g => F g ∧ g < w.heap.size) (.slice (some ⟨w.heap.size, 0, none⟩) 0 0) [] :=
    ⟨[], World.ownsRow_lit w #[] 0 (Nat.le_refl _) (by simp [maxLen]) (by simp), GRl_nil.2 rfl⟩
  have HB0 := Lib.hid hb0
  have HO0 := Lib.hid ho0
  clear hb0 ho0
  unfold maxLen at hcm
  go_enter Tryz.func24, Tryz.ntmps24
  go_wp2_with fail
  go_loopw [5, 7, 14] (fun v _ i wr => ∃ k : Nat, k ≤ l.length ∧ i = .int .i64 k ∧ Hid (Below w.heap.size w wr) ∧ Hid (OwnR wr w.heap.size 74 7 (fun g => F g ∧ g < w.heap.size) v ((fillN [] l k).map Elem.gv)))
     (fun _ _ i wr => l.length - (intOf i).toNat)
  case atStart => exact ⟨0, Nat.zero_le _, rfl, HB0.out, by rw [fill_zero]; exact HO0.out⟩
  case round =>
   obtain ⟨k, hk, rfl, HB, HO⟩ := hrel
   by_cases hlt : k < l.length
   · obtain ⟨b, off, rfl, ⟨_, hbw⟩, hop⟩ := HOP.out (by rintro rfl; simp at hlt)
     obtain ⟨Ak, ck, hE⟩ := hop k hlt
     have hE := hE.below HB.out hbw
     have e0 := hE.c0
     have e1 := hE.c1
     have e2 := hE.c2
     have e3 := hE.c3
     have e4 := hE.c4
     have e5 := hE.c5
     have e6 := hE.c6
     have HKI := Lib.hid hE.kids
     clear hE hop hbw
     have hN := fill_le (q := []) (K := l) hk (by simp)
     have HM : (fillN [] l k).length ≤ 1000 → Hid (fillN [] l (k + 1) = fillN [] l k ++ [l[k]]) := fun h => fill_more hlt h
     have HS : ¬ (fillN [] l k).length ≤ 1000 → Hid (fillN [] l (k + 1) = fillN [] l k) := fun h => fill_same hlt h
     generalize l[k] = x at *
     obtain ⟨o, hoq⟩ : ∃ o, o = fillN [] l k := ⟨_, rfl⟩
     rw [← hoq] at HO HM HS hN
     clear hoq
     obtain ⟨Ao, co, hvo⟩ := HO.out.form
     subst hvo
     rw [List.length_map] at HO ⊢
     obtain ⟨N, hNo⟩ : ∃ N, N = o.length := ⟨_, rfl⟩
     rw [← hNo] at HO HM HS hN ⊢
     have HNO := Lib.hid hNo
     have HB1 : Hid (Below w.heap.size w (wr.alloc (.cells #[.int .i64 x.kind, .string (bs x.text), .string (bs x.src), .string (bs x.alt), .bool x.soft, .string (bs x.test), .slice Ak x.kids.length ck] 74))) := HB.out.alloc HB.out.size _
     have HO1 : Hid (OwnR (wr.alloc (.cells #[.int .i64 x.kind, .string (bs x.text), .string (bs x.src), .string (bs x.alt), .bool x.soft, .string (bs x.test), .slice Ak x.kids.length ck] 74)) w.heap.size 74 7 (fun g => F g ∧ g < w.heap.size) (.slice Ao N co) (o.map Elem.gv)) := HO.out.below ((Below.refl _ _).alloc (Nat.le_refl _) _)
     clear hNo
     by_cases hle : N ≤ 1000
     · have HA := Lib.hid (app_copy (N := N) HO.out HKI.out (fun _ h => h.2) HB.out.size HNO.out (by rw [← HNO.out]; omega) #[.int .i64 x.kind, .string (bs x.text), .string (bs x.src), .string (bs x.alt), .bool x.soft, .string (bs x.test), .slice Ak x.kids.length ck] rfl)
       have HM := HM hle
       have hl1 : (N : Int) ≤ 1000 := by omega
       have hl2 : decide ((N : Int) ≤ 1000) = true := by simpa using hl1
       clear HS
       go_wp2_with (at_builtin; go_loud (refine HA.out.plain rfl _ _ _ rfl elemTy2 rfl rfl ?_); intro A5 c5 w5 hown hgr hor; have HO5 := Lib.hid hown; have HG5 := Lib.hid hgr; clear hown hgr hor)
       go_roundw
       case rel => exact ⟨k + 1, hlt, by go_num, app_end HB.out HO.out (Nat.le_refl _) _ _ HG5.out, by rw [HM.out, List.map_append]; exact HO5.out⟩
       case measure => simp [intOf]; omega
     · have HS := HS hle
       have hl1 : ¬ (N : Int) ≤ 1000 := by omega
       have hl2 : decide ((N : Int) ≤ 1000) = false := by simpa using hl1
       clear HM
       go_wp2_with fail
       go_roundw
       case rel => exact ⟨k + 1, hlt, by go_num, HB1.out, by rw [HS.out]; exact HO1.out⟩
       case measure => simp [intOf]; omega
   · have hkl : k = l.length := by omega
     subst hkl
     have hq0 := fill_le (q := []) (K := l) (Nat.le_refl _) (by simp)
     generalize fillN [] l l.length = q0 at *
     clear HOP hk hlt HB0 HO0
     obtain ⟨w2, rfl⟩ : ∃ w2 : World, w2 = wr := ⟨_, rfl⟩
     go_wp2_with fail
     go_loopw [5, 8, 10] (fun v i _ wr => ∃ (k n : Nat) (q : List Elem), i = .int .i64 k ∧ q.length ≤ 1001 ∧ k + n = 1002 ∧ Hid (R = bfsF 1000 n k q) ∧ Hid (Below w.heap.size w wr) ∧ Hid (OwnR wr w.heap.size 74 7 (fun g => F g ∧ g < w.heap.size) v (q.map Elem.gv)))
       (fun _ i _ wr => 1002 - (intOf i).toNat)
     case atStart => exact ⟨0, 1002, q0, rfl, hq0, rfl, HCF, HB.out, HO.out⟩
     case round =>
      clear HB HO HCF hq0
      obtain ⟨k, n, q, rfl, hq, hkn, HR, HB, HO⟩ := hrel
      obtain ⟨Ao, co, hvo⟩ := HO.out.form
      subst hvo
      rw [List.length_map] at HO ⊢
      by_cases hc : k < q.length ∧ q.length ≤ 1000
      · obtain ⟨hk, hq2⟩ := hc
        obtain ⟨n, rfl⟩ : ∃ n', n = n' + 1 := ⟨n - 1, by omega⟩
        have HR2 := Lib.hid (HR.out.trans (bfsF_more hk hq2))
        obtain ⟨g, A3, c3, rfl, hqc, hqm, hg1, hg2, e6, hkids⟩ := own_elem_at HO.out rfl hk
        have HK0 := Lib.hid (GR.mono (w := wr) (w' := w) (F' := fun g => F g ∧ g < w.heap.size) (fun _ h => h) (fun x hx _ => (HB.out.block x hx.2).symm) _ _ hkids)
        clear hkids HR
        generalize q[k].kids = K at *
        obtain ⟨A4, c4, hv4, hkc, hkm, hop⟩ := elems_open HK0.out
        injection hv4 with e1 e2 e3
        subst e1 e3
        have HOP := Lib.hid hop
        clear hop HK0
        unfold maxLen at hkm hqm
        have hk1 : (0 : Int) ≤ (k : Int) := by omega
        have hk2 : (k : Int) < (q.length : Int) := by omega
        have hd1 : decide (k < q.length) = true := by simpa using hk
        have hd2 : decide (q.length ≤ 1000) = true := by simpa using hq2
        have hHO : Hid (OwnR wr w.heap.size 74 7 (fun g => F g ∧ g < w.heap.size) (.slice (some ⟨g, 0, none⟩) q.length co) ((fillN q K 0).map Elem.gv)) := by rw [fill_zero]; exact HO
        clear HO
        obtain ⟨w3, rfl⟩ : ∃ w3 : World, w3 = wr := ⟨_, rfl⟩
        go_wp2_with fail
        go_loopw [5, 10, 45] (fun v _ i wr => ∃ j : Nat, j ≤ K.length ∧ i = .int .i64 j ∧ Hid (Below w.heap.size w wr) ∧ Hid (OwnR wr w.heap.size 74 7 (fun g => F g ∧ g < w.heap.size) v ((fillN q K j).map Elem.gv)))
          (fun _ _ i wr => K.length - (intOf i).toNat)
        case atStart => exact ⟨0, Nat.zero_le _, rfl, HB.out, hHO.out⟩
        case round =>
         clear HB hHO
         obtain ⟨j, hj, rfl, HB, HO⟩ := hrel
         by_cases hlt : j < K.length
         · obtain ⟨b, off, rfl, ⟨_, hbw⟩, hop⟩ := HOP.out (by rintro rfl; simp at hlt)
           obtain ⟨Ak, ck, hE⟩ := hop j hlt
           have hE := hE.below HB.out hbw
           have e0 := hE.c0
           have e1 := hE.c1
           have e2 := hE.c2
           have e3 := hE.c3
           have e4 := hE.c4
           have e5 := hE.c5
           have e6 := hE.c6
           have HKI := Lib.hid hE.kids
           clear hE hop hbw
           have hN := fill_le (q := q) (K := K) hj hq
           have HM : (fillN q K j).length ≤ 1000 → Hid (fillN q K (j + 1) = fillN q K j ++ [K[j]]) := fun h => fill_more hlt h
           have HS : ¬ (fillN q K j).length ≤ 1000 → Hid (fillN q K (j + 1) = fillN q K j) := fun h => fill_same hlt h
           generalize K[j] = x at *
           obtain ⟨o, hoq⟩ : ∃ o, o = fillN q K j := ⟨_, rfl⟩
           rw [← hoq] at HO HM HS hN
           clear hoq
           obtain ⟨Ao, co, hvo⟩ := HO.out.form
           subst hvo
           rw [List.length_map] at HO ⊢
           obtain ⟨N, hNo⟩ : ∃ N, N = o.length := ⟨_, rfl⟩
           rw [← hNo] at HO HM HS hN ⊢
           have HNO := Lib.hid hNo
           have HB1 : Hid (Below w.heap.size w (wr.alloc (.cells #[.int .i64 x.kind, .string (bs x.text), .string (bs x.src), .string (bs x.alt), .bool x.soft, .string (bs x.test), .slice Ak x.kids.length ck] 74))) := HB.out.alloc HB.out.size _
           have HO1 : Hid (OwnR (wr.alloc (.cells #[.int .i64 x.kind, .string (bs x.text), .string (bs x.src), .string (bs x.alt), .bool x.soft, .string (bs x.test), .slice Ak x.kids.length ck] 74)) w.heap.size 74 7 (fun g => F g ∧ g < w.heap.size) (.slice Ao N co) (o.map Elem.gv)) := HO.out.below ((Below.refl _ _).alloc (Nat.le_refl _) _)
           clear hNo
           by_cases hle : N ≤ 1000
           · have HA := Lib.hid (app_copy (N := N) HO.out HKI.out (fun _ h => h.2) HB.out.size HNO.out (by rw [← HNO.out]; omega) #[.int .i64 x.kind, .string (bs x.text), .string (bs x.src), .string (bs x.alt), .bool x.soft, .string (bs x.test), .slice Ak x.kids.length ck] rfl)
             have HM := HM hle
             have hl1 : (N : Int) ≤ 1000 := by omega
             have hl2 : decide ((N : Int) ≤ 1000) = true := by simpa using hl1
             clear HS
             go_wp2_with (at_builtin; go_loud (refine HA.out.plain rfl _ _ _ rfl elemTy2 rfl rfl ?_); intro A5 c5 w5 hown hgr hor; have HO5 := Lib.hid hown; have HG5 := Lib.hid hgr; clear hown hgr hor)
             go_roundw
             case rel => exact ⟨j + 1, hlt, by go_num, app_end HB.out HO.out (Nat.le_refl _) _ _ HG5.out, by rw [HM.out, List.map_append]; exact HO5.out⟩
             case measure => simp [intOf]; omega
           · have HS := HS hle
             have hl1 : ¬ (N : Int) ≤ 1000 := by omega
             have hl2 : decide ((N : Int) ≤ 1000) = false := by simpa using hl1
             clear HM
             go_wp2_with fail
             go_roundw
             case rel => exact ⟨j + 1, hlt, by go_num, HB1.out, by rw [HS.out]; exact HO1.out⟩
             case measure => simp [intOf]; omega
         · have hjl : j = K.length := by omega
           subst hjl
           rw [fill_end] at HO
           have hqn : (q ++ K.take (1001 - q.length)).length ≤ 1001 := by rw [← fill_end]; exact fill_le (Nat.le_refl _) hq
           go_wp2_with fail
           go_roundw
           case rel => exact ⟨k + 1, n, q ++ K.take (1001 - q.length), by go_num, hqn, by omega, HR2.out, HB.out, HO.out⟩
           case measure => simp [intOf]; omega
      · have HR2 := Lib.hid (HR.out.trans (bfsF_stop hc))
        have hd : decide (k < q.length) = false ∨ decide (k < q.length) = true ∧ decide (q.length ≤ 1000) = false := by
          by_cases h : k < q.length
          · exact .inr ⟨by simpa using h, by rw [decide_eq_false_iff_not]; exact fun e => hc ⟨h, e⟩⟩
          · exact .inl (by simpa using h)
        rcases hd with hd | ⟨hd, hd2⟩
        · go_wp2_with fail
          go_ret
          exact ⟨by rw [HR2.out]; rfl, HB.out⟩
        · have hd3 : ¬ ((q.length : Int) ≤ 1000) := by simp at hd2; omega
          have hd4 : decide ((q.length : Int) ≤ 1000) = false := by simpa using hd3
          go_wp2_with fail
          go_ret
          exact ⟨by rw [HR2.out]; rfl, HB.out⟩
end Go.Proofs.YtijpfcjlochahaaGreatDoor
