/- The walk of show's all, where one is walked. The walk of show's one, where all is walked at its elements. -/
import Derived.Test.YtijpfcjlochahaaGreatDoorShw
namespace Go.Proofs.YtijpfcjlochahaaGreatDoor
open Go Go.RowKit
set_option linter.unusedVariables false
set_option linter.unusedSimpArgs false

theorem Buf.below {B b : Nat} {l : List UInt8} {w w' : World} (h : Buf B b l w) (hb : Below w.heap.size w w') : Buf B b l w' := by
  have key : ∀ p : Value, Lib.BuilderAt 170 5 B b p (Lib.byteCells l) w → Lib.BuilderAt 170 5 B b p (Lib.byteCells l) w' := by
    intro p h
    have hlt := h.lt
    obtain ⟨hB, v, hk, ho, hne⟩ := h
    exact ⟨hB, v, (hb.block b hlt).trans hk, ho.kept (grown_of_below hb none) (by cases v.ownBlock <;> simp), hne⟩
  rcases h with h | h
  · exact .inl (key _ h)
  · exact .inr (key _ h)
def OneDone (x : Elem) (F : Nat → Prop) (w : World) : Prop := ∀ (A : Option Addr) (c : Nat) (W : World), Below w.heap.size w W → GR w F (.row 7 (x.kids.map Elem.gv)) [.slice A x.kids.length c] →
  Calls Tryz.prog 129 #[.agg #[.int .i64 x.kind, .string (bs x.text), .string (bs x.src), .string (bs x.alt), .bool x.soft, .string (bs x.test), .slice A x.kids.length c]] W fun e W' => e = .returned (.string (bs (shE x))) ∧ Below W.heap.size W W'
theorem shF_take (l : List Elem) (k : Nat) (h : k < l.length) : shF (l.take (k + 1)) = shF (l.take k) ++ shE l[k] := by
  rw [List.take_succ_eq_append_getElem h, shF_append]
  simp only [shF, List.append_nil]
theorem shF_take_le (l : List Elem) (k : Nat) : (shF (l.take k)).length ≤ (shF l).length := by
  have e : shF l = shF (l.take k) ++ shF (l.drop k) := by rw [← shF_append, List.take_append_drop]
  rw [e, List.length_append]; omega
set_option maxRecDepth 20000 in
set_option maxHeartbeats 4000000 in
theorem showAll_step (l : List Elem) (v : Value) (F : Nat → Prop) (w : World) (hv : GR w F (.row 7 (l.map Elem.gv)) [v]) (hsz : (shF l).length ≤ 100000000) (hone : ∀ k (h : k < l.length), OneDone l[k] (fun g => F g ∧ g < w.heap.size) w) :
    Calls Tryz.prog 79 #[v] w fun e w' => e = .returned (.string (bs (shF l))) ∧ Below w.heap.size w w' := by
  obtain ⟨A, c, rfl, hlc, hcm, hop⟩ := elems_open (GR.lt_heap _ _ hv)
  have HOP := Lib.hid hop
  have HONE := Lib.hid hone
  have HSZ := Lib.hid hsz
  clear hop hv hone hsz
  unfold maxLen at hcm
  have HB0 : Hid (Buf w.heap.size w.heap.size (shF (l.take 0)) (w.alloc (.cells #[.pointer none, .slice none 0 0] 170))) := by rw [Hid, List.take_zero, shF]; exact Buf.new w
  have HW0 : Hid (Below w.heap.size w (w.alloc (.cells #[.pointer none, .slice none 0 0] 170))) := (Below.refl _ _).alloc (Nat.le_refl _) _
  go_enter Tryz.func79, Tryz.ntmps79
  go_wp2_with fail
  go_loopw [5, 8] (fun _ i wr => ∃ k : Nat, k ≤ l.length ∧ i = .int .i64 k ∧ Hid (Buf w.heap.size w.heap.size (shF (l.take k)) wr) ∧ Hid (Below w.heap.size w wr))
    (fun _ i wr => l.length - (intOf i).toNat)
  case atStart => exact ⟨0, Nat.zero_le _, rfl, HB0.out, HW0.out⟩
  case round =>
    clear HB0 HW0
    obtain ⟨k, hk, rfl, HB, HW⟩ := hrel
    by_cases hlt : k < l.length
    · obtain ⟨b, off, rfl, ⟨_, hbw⟩, hop⟩ := HOP.out (by rintro rfl; simp at hlt)
      obtain ⟨Ak, ck, hE⟩ := hop k hlt
      have HKI := Lib.hid hE.kids
      have hE := hE.below HW.out hbw
      have e0 := hE.c0
      have e1 := hE.c1
      have e2 := hE.c2
      have e3 := hE.c3
      have e4 := hE.c4
      have e5 := hE.c5
      have e6 := hE.c6
      have H1 := Lib.hid (HONE.out k hlt)
      have HTK := Lib.hid (shF_take l k hlt)
      have HLE := Lib.hid (Nat.le_trans (shF_take_le l (k + 1)) HSZ.out)
      clear hE hop hbw
      generalize l[k] = x at *
      go_upto_region 5 with (fail)
      have hX := Blk.new wr 74 #[.int .i64 x.kind, .string (bs x.text), .string (bs x.src), .string (bs x.alt), .bool x.soft, .string (bs x.test), .slice Ak x.kids.length ck]
      have hal : Below wr.heap.size wr (wr.alloc (.cells #[.int .i64 x.kind, .string (bs x.text), .string (bs x.src), .string (bs x.alt), .bool x.soft, .string (bs x.test), .slice Ak x.kids.length ck] 74)) := (Below.refl _ _).alloc (Nat.le_refl _) _
      have HB5 := Lib.hid (HB.out.below hal)
      have HW5 := Lib.hid (HW.out.trans (hal.mono HW.out.size))
      generalize wr.alloc (.cells #[.int .i64 x.kind, .string (bs x.text), .string (bs x.src), .string (bs x.alt), .bool x.soft, .string (bs x.test), .slice Ak x.kids.length ck] 74) = w5 at *
      clear e0 e1 e2 e3 e4 e5 e6 hal HB HW
      generalize wr.heap.size = X at *
      have x0 := hX.cell 0
      have x1 := hX.cell 1
      have x2 := hX.cell 2
      have x3 := hX.cell 3
      have x4 := hX.cell 4
      have x5 := hX.cell 5
      have x6 := hX.cell 6
      clear hX
      go_wp2_with fail
      refine (H1.out _ _ _ HW5.out HKI.out).mono ?_
      rintro e w6 ⟨rfl, h6⟩
      have HB6 := Lib.hid (HB5.out.below h6)
      have HW6 := Lib.hid (HW5.out.trans (h6.mono HW5.out.size))
      clear h6 x0 x1 x2 x3 x4 x5 x6
      go_wp2_with fail
      refine (write_calls w.heap.size w.heap.size _ (shE x) _ HB6.out (by have := HLE.out; rw [HTK.out, List.length_append] at this; omega) HW6.out.size).mono ?_
      rintro e w7 ⟨rfl, hb7, hw7⟩
      have HB7 : Hid (Buf w.heap.size w.heap.size (shF (l.take (k + 1))) w7) := by rw [Hid, HTK.out]; exact hb7
      have HW7 := Lib.hid (HW6.out.trans hw7)
      clear hb7 hw7
      go_wp2_with fail
      go_roundw
      case rel => exact ⟨k + 1, hlt, by go_num, HB7.out, HW7.out⟩
      case measure => simp [intOf]; omega
    · have hkl : k = l.length := by omega
      subst hkl
      rw [List.take_length] at HB
      go_wp2_with fail
      refine (Tryz.Builder_String_any w.heap.size w.heap.size (shF l) wr HB.out HW.out.size).mono ?_
      rintro e w5 ⟨rfl, hw5⟩
      have HW5 := Lib.hid (HW.out.trans hw5)
      clear hw5
      go_wp2_with fail
      go_ret
      exact ⟨rfl, HW5.out⟩
end Go.Proofs.YtijpfcjlochahaaGreatDoor
namespace Go.Proofs.YtijpfcjlochahaaGreatDoor
set_option linter.unusedVariables false
set_option linter.unusedSimpArgs false
open Go Go.RowKit

theorem gr_two {w : World} {g : Nat} {t : TypeId} {a b : List UInt8} (h : Blk w g t #[.string (bs a), .string (bs b)]) : GR w (fun _ => True) (.row 1 ([a, b].map .str)) [.slice (some ⟨g, 0, none⟩) 2 2] :=
  GR_row.2 ⟨some ⟨g, 0, none⟩, 2, [.string (bs a), .string (bs b)], rfl, Nat.le_refl _, by simp [maxLen], rfl, cells_new h, GRl_cons.2 ⟨[_], [_], rfl, rfl, GR_str.2 rfl, GRl_one (GR_str.2 rfl) rfl⟩⟩
def AllDone (l : List Elem) (F : Nat → Prop) (w : World) : Prop := (shF l).length ≤ 100000000 → ∀ (v : Value) (W : World), Below w.heap.size w W → GR w F (.row 7 (l.map Elem.gv)) [v] →
  Calls Tryz.prog 79 #[v] W fun e W' => e = .returned (.string (bs (shF l))) ∧ Below W.heap.size W W'
theorem shTag_len (n inn : List UInt8) (ps : List (List UInt8 × List UInt8)) : n.length + inn.length + (shAttrs ps).length ≤ (shTag n false inn ps).length := by
  rw [shTag, if_neg (by simp)]; simp only [List.length_append, List.length_cons, List.length_nil]; omega
theorem shTag_len1 (n : List UInt8) (ps : List (List UInt8 × List UInt8)) : n.length + (shAttrs ps).length ≤ (shTag n true [] ps).length := by
  rw [shTag, if_pos rfl]; simp only [List.length_append, List.length_cons, List.length_nil]; omega
section
variable {w W : World} {v : Value} {o : List (List UInt8)} {g : Nat} {x : Elem} {kv : Value}
theorem LS.app2 (h : LS w W g x kv v o) {N : Nat} (hN : N = o.length) (hlen : o.length ≤ 9999) (a b : List UInt8) :
    App (W.alloc (.cells #[.string (bs a), .string (bs b)] 9)) w.heap.size 9 1 16 (fun _ => False) v (o.map .str) (some ⟨W.heap.size, 0, none⟩) 2 [.str a, .str b] [.string (bs a), .string (bs b)] (N + 2) := by
  subst hN
  have hs := h.hb.size
  refine ⟨OwnR.below h.ho ((Below.refl _ _).alloc (Nat.le_refl _) _), rfl, cells_new (Blk.new W 9 [.string (bs a), .string (bs b)].toArray), GRl_cons.2 ⟨[_], [_], rfl, rfl, GR_str.2 rfl, GRl_one (GR_str.2 rfl) rfl⟩, ?_, ?_, by rw [size_alloc]; omega, by rw [List.length_append, List.length_map]; rfl⟩
  · rw [List.length_map]; simp only [maxLen, List.length_cons, List.length_nil]; omega
  · rw [List.length_map]; simp only [List.length_cons, List.length_nil]; omega
theorem LS.push2 (h : LS w W g x kv v o) (a b : List UInt8) {N c' : Nat} {A' : Option Addr} {w' : World} (h1 : OwnR w' w.heap.size 9 1 (fun _ => False) (.slice A' N c') (o.map .str ++ [.str a, .str b]))
    (h2 : (W.alloc (.cells #[.string (bs a), .string (bs b)] 9)).grownBy w' v.ownBlock) (h3 : (Value.slice A' N c').ownBlock = v.ownBlock ∨ (Value.slice A' N c').ownBlock = some (W.alloc (.cells #[.string (bs a), .string (bs b)] 9)).heap.size) : LS w w' g x kv (.slice A' N c') (o ++ [a, b]) := by
  have hs := h.hb.size
  refine ⟨(h.hb.alloc hs _).trans (below_of_grown h2 (by rw [size_alloc]; omega) (fun k hk => (OwnR.lt h.ho k hk).1)), ?_, h.hg, (h.hc.alloc _).grown h2 (fun e => h.hne e.symm), ?_⟩
  · rw [OwnS, List.map_append]; exact h1
  · rcases h3 with h3 | h3
    · rw [h3]; exact h.hne
    · rw [h3]; intro e
      have e := Option.some.inj e
      rw [size_alloc] at e
      have := h.hc.lt
      omega
theorem LS.start2 (hb : Below w.heap.size w W) (hX : Blk W g 74 (eCells x kv).toArray) (hg : w.heap.size ≤ g) (a b : List UInt8) :
    LS w (W.alloc (.cells #[.string (bs a), .string (bs b)] 9)) g x kv (.slice (some ⟨W.heap.size, 0, none⟩) 2 2) [a, b] :=
  ⟨hb.alloc hb.size _, ⟨[.string (bs a), .string (bs b)], World.ownsRow_lit W #[.string (bs a), .string (bs b)] 2 hb.size (by simp [maxLen]) (by simp), GRl_cons.2 ⟨[_], [_], rfl, rfl, GR_str.2 rfl, GRl_one (GR_str.2 rfl) rfl⟩⟩, hg, hX.alloc _, fun e => by have e : W.heap.size = g := Option.some.inj e; have := hX.lt; omega⟩
theorem LS.c4 (h : LS w W g x kv v o) : W.cell? ⟨g, 4, none⟩ = some (.bool x.soft) := h.hc.cell 4
end
set_option maxRecDepth 20000 in
set_option maxHeartbeats 4000000 in
theorem showOne_calls (x : Elem) (F : Nat → Prop) (w : World) (hall : AllDone x.kids F w) (hsz : (shE x).length ≤ 100000000) : OneDone x F w := by
  intro A c W hb hk
  have HALL := Lib.hid hall
  have HK := Lib.hid hk
  have HSZ := Lib.hid hsz
  have HE := Lib.hid (shE_eq x)
  have HB0 := Lib.hid hb
  generalize shE x = E at *
  clear hall hk hsz hb
  go_enter Tryz.func129, Tryz.ntmps129
  go_upto_region 1 with (fail)
  have hX := Blk.new W 74 #[.int .i64 x.kind, .string (bs x.text), .string (bs x.src), .string (bs x.alt), .bool x.soft, .string (bs x.test), .slice A x.kids.length c]
  have HB : Hid (Below W.heap.size W (W.alloc (.cells #[.int .i64 x.kind, .string (bs x.text), .string (bs x.src), .string (bs x.alt), .bool x.soft, .string (bs x.test), .slice A x.kids.length c] 74))) := (Below.refl _ _).alloc (Nat.le_refl _) _
  have HBW := Lib.hid (HB0.out.trans (HB.out.mono HB0.out.size))
  generalize W.alloc (.cells #[.int .i64 x.kind, .string (bs x.text), .string (bs x.src), .string (bs x.alt), .bool x.soft, .string (bs x.test), .slice A x.kids.length c] 74) = w5 at *
  generalize hXX : W.heap.size = X at hX ⊢
  have HXX := Lib.hid hXX
  clear hXX
  have x0 := hX.cell 0
  have x1 := hX.cell 1
  have x2 := hX.cell 2
  have x3 := hX.cell 3
  have x4 := hX.cell 4
  have x5 := hX.cell 5
  have x6 := hX.cell 6
  have HX := Lib.hid hX
  clear hX
  by_cases k1 : x.kind = 1
  · have b1 : (x.kind == 1) = true := by rw [k1]; rfl
    have HR : Hid (E = x.text) := by rw [Hid, HE.out, if_pos k1]
    clear k1
    go_wp2_with fail
    go_ret
    exact ⟨by rw [HR.out]; rfl, HB.out⟩
  have b1 : (x.kind == 1) = false := by rw [beq_eq_false_iff_ne]; exact k1
  by_cases k2 : x.kind = 2
  · have b2 : (x.kind == 2) = true := by rw [k2]; rfl
    have HR : Hid (E = shTag [105, 110, 99, 108, 117, 100, 101] true [] (includeP x.src x.alt x.soft)) := by rw [Hid, HE.out, if_neg k1, if_pos k2]
    have HLN : Hid (([105, 110, 99, 108, 117, 100, 101] : List UInt8).length + ([] : List UInt8).length + (shAttrs (includeP x.src x.alt x.soft)).length ≤ 100000000) := by
      have h1 := shTag_len1 [105, 110, 99, 108, 117, 100, 101] (includeP x.src x.alt x.soft)
      have h2 := HSZ.out
      rw [HR.out] at h2
      rw [Hid, List.length_nil]
      omega
    clear k1 k2
    have HL : Hid (LS W (w5.alloc (.cells #[.string ⟨#[115, 114, 99]⟩, .string (bs x.src)] 9)) X x (.slice A x.kids.length c) (.slice (some ⟨w5.heap.size, 0, none⟩) 2 2) [[115, 114, 99], x.src]) := (LS.start2 (a := [115, 114, 99]) (b := x.src) HB.out (x := x) (kv := .slice A x.kids.length c) HX.out (by rw [HXX.out]; exact Nat.le_refl _))
    go_upto_region 6 with (fail)
    generalize w5.alloc (.cells #[.string ⟨#[115, 114, 99]⟩, .string (bs x.src)] 9) = w6 at *
    generalize w5.heap.size = Y at *
    have c3 := HL.out.c3
    have c4 := HL.out.c4
    clear x0 x1 x2 x3 x4 x5 x6
    have HWX : Hid (∀ (W' : World) (v' : Value) (o' : List (List UInt8)), LS W W' X x (.slice A x.kids.length c) v' o' → Below W.heap.size W W') := fun W' v' o' h => h.hb
    have HA1 := Lib.hid (HL.out.app2 (N := 2) rfl (by simp) [97, 108, 116] x.alt)
    have HA2 := Lib.hid (HL.out.app2 (N := 2) rfl (by simp) [111, 110, 101, 114, 114, 111, 114] [99, 111, 110, 116, 105, 110, 117, 101])
    by_cases ha : x.alt = []
    · have hb2 : (bs x.alt).toList.isEmpty = true := by rw [ha, toList_bs]; rfl
      have hb3 : (bs x.alt).toList = [] := by rw [ha, toList_bs]
      cases hs : x.soft with
      | false =>
        have HO : Hid (flatP (includeP x.src x.alt x.soft) = [[115, 114, 99], x.src]) := by rw [Hid, includeP, if_pos ha, hs]; rfl
        rw [hs] at c4
        have HS := Lib.hid hs
        clear hs ha
        have HZ := HL
        have HBE := Lib.hid (HWX.out _ _ _ HZ.out)
        go_wp2_with fail
        refine (shTag_calls [105, 110, 99, 108, 117, 100, 101] true [] (includeP x.src x.alt x.soft) _ (fun _ => True) _ (by rw [HO.out]; exact OwnR.gr HZ.out.ho (fun _ h => h.elim) (fun _ _ => trivial)) HLN.out).mono ?_
        rintro e w9 ⟨rfl, h9⟩
        have HB9 := Lib.hid (HBE.out.trans (h9.mono HBE.out.size))
        clear h9
        go_wp2_with fail
        go_ret
        exact ⟨by rw [HR.out]; rfl, HB9.out⟩
      | true =>
        have HO : Hid (flatP (includeP x.src x.alt x.soft) = [[115, 114, 99], x.src] ++ [[111, 110, 101, 114, 114, 111, 114], [99, 111, 110, 116, 105, 110, 117, 101]]) := by rw [Hid, includeP, if_pos ha, hs]; rfl
        rw [hs] at c4
        have HS := Lib.hid hs
        clear hs ha
        go_wp2_with (at_builtin; go_loud (refine HA2.out.plain rfl _ _ _ rfl strTy rfl rfl ?_); intro A7 c7 w7 hown hgr hor; have HZ := Lib.hid (HL.out.push2 _ _ hown hgr hor); clear hown hgr hor)
        have HBE := Lib.hid (HWX.out _ _ _ HZ.out)
        refine (shTag_calls [105, 110, 99, 108, 117, 100, 101] true [] (includeP x.src x.alt x.soft) _ (fun _ => True) _ (by rw [HO.out]; exact OwnR.gr HZ.out.ho (fun _ h => h.elim) (fun _ _ => trivial)) HLN.out).mono ?_
        rintro e w9 ⟨rfl, h9⟩
        have HB9 := Lib.hid (HBE.out.trans (h9.mono HBE.out.size))
        clear h9
        go_wp2_with fail
        go_ret
        exact ⟨by rw [HR.out]; rfl, HB9.out⟩
    · have hb2 : (bs x.alt).toList.isEmpty = false := by rw [toList_bs]; cases h : x.alt with | nil => exact absurd h ha | cons _ _ => rfl
      have hb3 : ¬ (bs x.alt).toList = [] := by rw [toList_bs]; exact ha
      cases hs : x.soft with
      | false =>
        have HO : Hid (flatP (includeP x.src x.alt x.soft) = [[115, 114, 99], x.src] ++ [[97, 108, 116], x.alt]) := by rw [Hid, includeP, if_neg ha, hs]; rfl
        rw [hs] at c4
        have HS := Lib.hid hs
        clear ha
        go_wp2_with (at_builtin; go_loud (refine HA1.out.plain rfl _ _ _ rfl strTy rfl rfl ?_); intro A7 c7 w7 hown hgr hor; have HZ := Lib.hid (HL.out.push2 _ _ hown hgr hor); have d4 := HZ.out.c4; rw [hs] at d4; clear hown hgr hor)
        clear hs
        have HBE := Lib.hid (HWX.out _ _ _ HZ.out)
        refine (shTag_calls [105, 110, 99, 108, 117, 100, 101] true [] (includeP x.src x.alt x.soft) _ (fun _ => True) _ (by rw [HO.out]; exact OwnR.gr HZ.out.ho (fun _ h => h.elim) (fun _ _ => trivial)) HLN.out).mono ?_
        rintro e w9 ⟨rfl, h9⟩
        have HB9 := Lib.hid (HBE.out.trans (h9.mono HBE.out.size))
        clear h9
        go_wp2_with fail
        go_ret
        exact ⟨by rw [HR.out]; rfl, HB9.out⟩
      | true =>
        have HO : Hid (flatP (includeP x.src x.alt x.soft) = ([[115, 114, 99], x.src] ++ [[97, 108, 116], x.alt]) ++ [[111, 110, 101, 114, 114, 111, 114], [99, 111, 110, 116, 105, 110, 117, 101]]) := by rw [Hid, includeP, if_neg ha, hs]; rfl
        rw [hs] at c4
        have HS := Lib.hid hs
        clear hs ha
        go_upto_region 8 with (at_builtin; go_loud (refine HA1.out.plain rfl _ _ _ rfl strTy rfl rfl ?_); intro A7 c7 w7 hown hgr hor; have HL7 := Lib.hid (HL.out.push2 _ _ hown hgr hor); clear hown hgr hor)
        have d4 := HL7.out.c4
        rw [HS.out] at d4
        have HA3 := Lib.hid (HL7.out.app2 (N := 4) rfl (by simp) [111, 110, 101, 114, 114, 111, 114] [99, 111, 110, 116, 105, 110, 117, 101])
        go_wp2_with (at_builtin; go_loud (refine HA3.out.plain rfl _ _ _ rfl strTy rfl rfl ?_); intro A8 c8 w8 hown hgr hor; have HZ := Lib.hid (HL7.out.push2 _ _ hown hgr hor); clear hown hgr hor)
        have HBE := Lib.hid (HWX.out _ _ _ HZ.out)
        refine (shTag_calls [105, 110, 99, 108, 117, 100, 101] true [] (includeP x.src x.alt x.soft) _ (fun _ => True) _ (by rw [HO.out]; exact OwnR.gr HZ.out.ho (fun _ h => h.elim) (fun _ _ => trivial)) HLN.out).mono ?_
        rintro e w9 ⟨rfl, h9⟩
        have HB9 := Lib.hid (HBE.out.trans (h9.mono HBE.out.size))
        clear h9
        go_wp2_with fail
        go_ret
        exact ⟨by rw [HR.out]; rfl, HB9.out⟩
  have b2 : (x.kind == 2) = false := by rw [beq_eq_false_iff_ne]; exact k2
  by_cases k12 : x.kind = 12
  · have b12 : (x.kind == 12) = true := by rw [k12]; rfl
    have HR : Hid (E = shTag [99, 111, 109, 109, 101, 110, 116] true [] [([116, 101, 120, 116], x.text)]) := by rw [Hid, HE.out, if_neg k1, if_neg k2, if_pos k12]
    have HLN : Hid (([99, 111, 109, 109, 101, 110, 116] : List UInt8).length + ([] : List UInt8).length + (shAttrs [([116, 101, 120, 116], x.text)]).length ≤ 100000000) := by
      have h1 := shTag_len1 [99, 111, 109, 109, 101, 110, 116] [([116, 101, 120, 116], x.text)]
      have h2 := HSZ.out
      rw [HR.out] at h2
      rw [Hid, List.length_nil]
      omega
    clear k1 k2 k12
    have HG := Lib.hid (gr_two (Blk.new w5 9 #[.string (bs [116, 101, 120, 116]), .string (bs x.text)]))
    have hb2 : Below w5.heap.size w5 (w5.alloc (.cells #[.string (bs [116, 101, 120, 116]), .string (bs x.text)] 9)) := (Below.refl _ _).alloc (Nat.le_refl _) _
    have HB2 := Lib.hid (HB.out.trans (hb2.mono HB.out.size))
    clear hb2
    go_wp2_with fail
    refine (shTag_calls [99, 111, 109, 109, 101, 110, 116] true [] [([116, 101, 120, 116], x.text)] _ _ _ HG.out HLN.out).mono ?_
    rintro e w6 ⟨rfl, h6⟩
    have HB6 := Lib.hid (HB2.out.trans (h6.mono HB2.out.size))
    clear h6
    go_wp2_with fail
    go_ret
    exact ⟨by rw [HR.out]; rfl, HB6.out⟩
  have b12 : (x.kind == 12) = false := by rw [beq_eq_false_iff_ne]; exact k12
  by_cases k3 : x.kind = 3
  · have b3 : (x.kind == 3) = true := by rw [k3]; rfl
    have HR : Hid (E = shTag [105, 110, 108, 105, 110, 101] false (shF x.kids) [([110, 97, 109, 101], x.src)]) := by rw [Hid, HE.out, if_neg k1, if_neg k2, if_neg k12, if_pos k3]
    have HLN : Hid (([105, 110, 108, 105, 110, 101] : List UInt8).length + (shF x.kids).length + (shAttrs [([110, 97, 109, 101], x.src)]).length ≤ 100000000) := by
      have h1 := shTag_len [105, 110, 108, 105, 110, 101] (shF x.kids) [([110, 97, 109, 101], x.src)]
      have h2 := HSZ.out
      rw [HR.out] at h2
      rw [Hid]
      omega
    clear k1 k2 k12 k3
    have HXL := Lib.hid HX.out.lt
    have xs := x2
    go_wp2_with fail
    clear x0 x1 x2 x3 x4 x5
    refine wp_region_held (S := (fun w' => w'.cell? ⟨X, 6, none⟩ = some (.slice A x.kids.length c) ∧ w'.cell? ⟨X, 2, none⟩ = some (.string (bs x.src)))) (by kernel_rfl) ?_
    change wpAnyH _ _ _ _ _ _ _ _ (World.drew _)
    refine wpAnyH_take (i := 0) (v := ?_) rfl (by kernel_rfl) (by kernel_rfl) (by kernel_rfl) (fun _ _ _ h => h) (Or.inl ⟨by rfl, ?_⟩) ⟨x6, xs⟩ ?_
    rotate_left
    · (intro w_ hS_; obtain ⟨q6, qs⟩ := hS_; go_simp; try with_reducible rfl)
    refine wpAnyH_take (i := 1) (v := ?_) rfl (by kernel_rfl) (by kernel_rfl) (by kernel_rfl) (fun _ _ _ h => h) (Or.inl ⟨by rfl, ?_⟩) ⟨x6, xs⟩ ?_
    rotate_left
    · (intro w_ hS_; obtain ⟨q6, qs⟩ := hS_; go_simp; try with_reducible rfl)
    refine wpAnyH_take (i := 3) (v := ?_) rfl (by kernel_rfl) (by kernel_rfl) (by kernel_rfl) (fun _ _ _ h => h) (Or.inl ⟨by rfl, ?_⟩) ⟨x6, xs⟩ ?_
    rotate_left
    · (intro w_ hS_; obtain ⟨q6, qs⟩ := hS_; go_simp; try with_reducible rfl)
    refine wpAnyH_take (i := 4) (v := ?_) rfl (by kernel_rfl) (by kernel_rfl) (by kernel_rfl) (fun _ _ _ h => h) (Or.inl ⟨by rfl, ?_⟩) ⟨x6, xs⟩ ?_
    rotate_left
    · (intro w_ hS_; obtain ⟨q6, qs⟩ := hS_; go_simp; try with_reducible rfl)
    refine wpAnyH_ready (rs := [2, 5]) (by kernel_rfl) (by simp) ?_
    refine AllReadyH.cons rfl (fun K_ hK_ => ?_) (AllReadyH.cons rfl (fun K_ hK_ => ?_) AllReadyH.nil)
    · go_simp
      refine (HALL.out (by have := HLN.out; omega) _ w5.drew HBW.out.drew HK.out).mono ?_
      rintro e w6 ⟨rfl, h6⟩
      have g1 := (h6.cell (p := ⟨X, 6, none⟩) HXL.out).trans x6
      have g2 := (h6.cell (p := ⟨X, 2, none⟩) HXL.out).trans xs
      have HB6 := Lib.hid (HB.out.drew.trans (h6.mono HB.out.drew.size))
      have HL6 : Hid (X < w6.heap.size) := Nat.lt_of_lt_of_le HXL.out h6.size
      clear h6
      refine hK_.out _ _ (by exact ⟨g1, g2⟩) fun _ => ?_
      clear hK_ K_
      refine wpAnyH_ready (rs := [5]) (by kernel_rfl) (by simp) ?_
      refine AllReadyH.cons rfl (fun K_ hK_ => ?_) AllReadyH.nil
      go_simp
      have HP := Lib.hid (Blk.new w6 9 #[.string (bs [110, 97, 109, 101]), .string (bs x.src)])
      have hal : Below w6.heap.size w6 (w6.alloc (.cells #[.string (bs [110, 97, 109, 101]), .string (bs x.src)] 9)) := (Below.refl _ _).alloc (Nat.le_refl _) _
      have p6 := (hal.cell (p := ⟨X, 6, none⟩) HL6.out).trans g1
      have ps := (hal.cell (p := ⟨X, 2, none⟩) HL6.out).trans g2
      have HB7 := Lib.hid (HB6.out.trans (hal.mono HB6.out.size))
      have HL7 : Hid (X < (w6.alloc (.cells #[.string (bs [110, 97, 109, 101]), .string (bs x.src)] 9)).heap.size) := Nat.lt_of_lt_of_le HL6.out hal.size
      clear hal
      refine hK_.out _ _ (by exact ⟨p6, ps⟩) fun _ => ?_
      clear hK_ K_
      refine wpAnyH_ready (rs := [6]) (by kernel_rfl) (by simp) ?_
      refine AllReadyH.cons rfl (fun K_ hK_ => ?_) AllReadyH.nil
      go_simp
      refine (shTag_calls [105, 110, 108, 105, 110, 101] false (shF x.kids) [([110, 97, 109, 101], x.src)] _ _ _ (gr_two HP.out) HLN.out).mono ?_
      rintro e w8 ⟨rfl, h8⟩
      have g1 := (h8.cell (p := ⟨X, 6, none⟩) HL7.out).trans p6
      have g2 := (h8.cell (p := ⟨X, 2, none⟩) HL7.out).trans ps
      have HB8 := Lib.hid (HB7.out.trans (h8.mono HB7.out.size))
      clear h8
      refine hK_.out _ _ (by exact ⟨g1, g2⟩) fun _ => ?_
      clear hK_ K_
      refine wpAnyH_take (i := 7) (v := ?_) rfl (by kernel_rfl) (by kernel_rfl) (by kernel_rfl) (fun _ _ _ h => h) (Or.inl ⟨by rfl, ?_⟩) ⟨g1, g2⟩ ?_
      rotate_left
      · (intro w_ hS_; obtain ⟨q6, qs⟩ := hS_; go_simp; try with_reducible rfl)
      refine wpAnyH_done (by kernel_rfl) ?_ _
      go_wp2_with fail
      go_ret
      exact ⟨by rw [HR.out]; rfl, HB8.out⟩
    · go_simp
      have HP0 := Lib.hid (Blk.new w5.drew 9 #[.string (bs [110, 97, 109, 101]), .string (bs x.src)])
      have hal : Below w5.drew.heap.size w5.drew (w5.drew.alloc (.cells #[.string (bs [110, 97, 109, 101]), .string (bs x.src)] 9)) := (Below.refl _ _).alloc (Nat.le_refl _) _
      have g1 := (hal.cell (p := ⟨X, 6, none⟩) HXL.out).trans x6
      have g2 := (hal.cell (p := ⟨X, 2, none⟩) HXL.out).trans xs
      have HB6 := Lib.hid (HB.out.drew.trans (hal.mono HB.out.drew.size))
      have HBW6 := Lib.hid (HBW.out.drew.trans (hal.mono HBW.out.drew.size))
      have HL6 : Hid (X < (w5.drew.alloc (.cells #[.string (bs [110, 97, 109, 101]), .string (bs x.src)] 9)).heap.size) := Nat.lt_of_lt_of_le HXL.out hal.size
      clear hal
      refine hK_.out _ _ (by exact ⟨g1, g2⟩) fun _ => ?_
      clear hK_ K_
      refine wpAnyH_ready (rs := [2]) (by kernel_rfl) (by simp) ?_
      refine AllReadyH.cons rfl (fun K_ hK_ => ?_) AllReadyH.nil
      go_simp
      refine (HALL.out (by have := HLN.out; omega) _ _ HBW6.out HK.out).mono ?_
      rintro e w7 ⟨rfl, h7⟩
      have HP := Lib.hid (HP0.out.below h7 HP0.out.lt)
      have p6 := (h7.cell (p := ⟨X, 6, none⟩) HL6.out).trans g1
      have ps := (h7.cell (p := ⟨X, 2, none⟩) HL6.out).trans g2
      have HB7 := Lib.hid (HB6.out.trans (h7.mono HB6.out.size))
      have HL7 : Hid (X < w7.heap.size) := Nat.lt_of_lt_of_le HL6.out h7.size
      clear h7
      refine hK_.out _ _ (by exact ⟨p6, ps⟩) fun _ => ?_
      clear hK_ K_
      refine wpAnyH_ready (rs := [6]) (by kernel_rfl) (by simp) ?_
      refine AllReadyH.cons rfl (fun K_ hK_ => ?_) AllReadyH.nil
      go_simp
      refine (shTag_calls [105, 110, 108, 105, 110, 101] false (shF x.kids) [([110, 97, 109, 101], x.src)] _ _ _ (gr_two HP.out) HLN.out).mono ?_
      rintro e w8 ⟨rfl, h8⟩
      have g1 := (h8.cell (p := ⟨X, 6, none⟩) HL7.out).trans p6
      have g2 := (h8.cell (p := ⟨X, 2, none⟩) HL7.out).trans ps
      have HB8 := Lib.hid (HB7.out.trans (h8.mono HB7.out.size))
      clear h8
      refine hK_.out _ _ (by exact ⟨g1, g2⟩) fun _ => ?_
      clear hK_ K_
      refine wpAnyH_take (i := 7) (v := ?_) rfl (by kernel_rfl) (by kernel_rfl) (by kernel_rfl) (fun _ _ _ h => h) (Or.inl ⟨by rfl, ?_⟩) ⟨g1, g2⟩ ?_
      rotate_left
      · (intro w_ hS_; obtain ⟨q6, qs⟩ := hS_; go_simp; try with_reducible rfl)
      refine wpAnyH_done (by kernel_rfl) ?_ _
      go_wp2_with fail
      go_ret
      exact ⟨by rw [HR.out]; rfl, HB8.out⟩
  have b3 : (x.kind == 3) = false := by rw [beq_eq_false_iff_ne]; exact k3
  by_cases k8 : x.kind = 8
  · have b8 : (x.kind == 8) = true := by rw [k8]; rfl
    have HR : Hid (E = shTag [119, 104, 101, 110] false (shF x.kids) [([116, 101, 115, 116], x.test)]) := by rw [Hid, HE.out, if_neg k1, if_neg k2, if_neg k12, if_neg k3, if_pos k8]
    have HLN : Hid (([119, 104, 101, 110] : List UInt8).length + (shF x.kids).length + (shAttrs [([116, 101, 115, 116], x.test)]).length ≤ 100000000) := by
      have h1 := shTag_len [119, 104, 101, 110] (shF x.kids) [([116, 101, 115, 116], x.test)]
      have h2 := HSZ.out
      rw [HR.out] at h2
      rw [Hid]
      omega
    clear k1 k2 k12 k3 k8
    have HXL := Lib.hid HX.out.lt
    have xs := x5
    go_wp2_with fail
    clear x0 x1 x2 x3 x4 x5
    refine wp_region_held (S := (fun w' => w'.cell? ⟨X, 6, none⟩ = some (.slice A x.kids.length c) ∧ w'.cell? ⟨X, 5, none⟩ = some (.string (bs x.test)))) (by kernel_rfl) ?_
    change wpAnyH _ _ _ _ _ _ _ _ (World.drew _)
    refine wpAnyH_take (i := 0) (v := ?_) rfl (by kernel_rfl) (by kernel_rfl) (by kernel_rfl) (fun _ _ _ h => h) (Or.inl ⟨by rfl, ?_⟩) ⟨x6, xs⟩ ?_
    rotate_left
    · (intro w_ hS_; obtain ⟨q6, qs⟩ := hS_; go_simp; try with_reducible rfl)
    refine wpAnyH_take (i := 1) (v := ?_) rfl (by kernel_rfl) (by kernel_rfl) (by kernel_rfl) (fun _ _ _ h => h) (Or.inl ⟨by rfl, ?_⟩) ⟨x6, xs⟩ ?_
    rotate_left
    · (intro w_ hS_; obtain ⟨q6, qs⟩ := hS_; go_simp; try with_reducible rfl)
    refine wpAnyH_take (i := 3) (v := ?_) rfl (by kernel_rfl) (by kernel_rfl) (by kernel_rfl) (fun _ _ _ h => h) (Or.inl ⟨by rfl, ?_⟩) ⟨x6, xs⟩ ?_
    rotate_left
    · (intro w_ hS_; obtain ⟨q6, qs⟩ := hS_; go_simp; try with_reducible rfl)
    refine wpAnyH_take (i := 4) (v := ?_) rfl (by kernel_rfl) (by kernel_rfl) (by kernel_rfl) (fun _ _ _ h => h) (Or.inl ⟨by rfl, ?_⟩) ⟨x6, xs⟩ ?_
    rotate_left
    · (intro w_ hS_; obtain ⟨q6, qs⟩ := hS_; go_simp; try with_reducible rfl)
    refine wpAnyH_ready (rs := [2, 5]) (by kernel_rfl) (by simp) ?_
    refine AllReadyH.cons rfl (fun K_ hK_ => ?_) (AllReadyH.cons rfl (fun K_ hK_ => ?_) AllReadyH.nil)
    · go_simp
      refine (HALL.out (by have := HLN.out; omega) _ w5.drew HBW.out.drew HK.out).mono ?_
      rintro e w6 ⟨rfl, h6⟩
      have g1 := (h6.cell (p := ⟨X, 6, none⟩) HXL.out).trans x6
      have g2 := (h6.cell (p := ⟨X, 5, none⟩) HXL.out).trans xs
      have HB6 := Lib.hid (HB.out.drew.trans (h6.mono HB.out.drew.size))
      have HL6 : Hid (X < w6.heap.size) := Nat.lt_of_lt_of_le HXL.out h6.size
      clear h6
      refine hK_.out _ _ (by exact ⟨g1, g2⟩) fun _ => ?_
      clear hK_ K_
      refine wpAnyH_ready (rs := [5]) (by kernel_rfl) (by simp) ?_
      refine AllReadyH.cons rfl (fun K_ hK_ => ?_) AllReadyH.nil
      go_simp
      have HP := Lib.hid (Blk.new w6 9 #[.string (bs [116, 101, 115, 116]), .string (bs x.test)])
      have hal : Below w6.heap.size w6 (w6.alloc (.cells #[.string (bs [116, 101, 115, 116]), .string (bs x.test)] 9)) := (Below.refl _ _).alloc (Nat.le_refl _) _
      have p6 := (hal.cell (p := ⟨X, 6, none⟩) HL6.out).trans g1
      have ps := (hal.cell (p := ⟨X, 5, none⟩) HL6.out).trans g2
      have HB7 := Lib.hid (HB6.out.trans (hal.mono HB6.out.size))
      have HL7 : Hid (X < (w6.alloc (.cells #[.string (bs [116, 101, 115, 116]), .string (bs x.test)] 9)).heap.size) := Nat.lt_of_lt_of_le HL6.out hal.size
      clear hal
      refine hK_.out _ _ (by exact ⟨p6, ps⟩) fun _ => ?_
      clear hK_ K_
      refine wpAnyH_ready (rs := [6]) (by kernel_rfl) (by simp) ?_
      refine AllReadyH.cons rfl (fun K_ hK_ => ?_) AllReadyH.nil
      go_simp
      refine (shTag_calls [119, 104, 101, 110] false (shF x.kids) [([116, 101, 115, 116], x.test)] _ _ _ (gr_two HP.out) HLN.out).mono ?_
      rintro e w8 ⟨rfl, h8⟩
      have g1 := (h8.cell (p := ⟨X, 6, none⟩) HL7.out).trans p6
      have g2 := (h8.cell (p := ⟨X, 5, none⟩) HL7.out).trans ps
      have HB8 := Lib.hid (HB7.out.trans (h8.mono HB7.out.size))
      clear h8
      refine hK_.out _ _ (by exact ⟨g1, g2⟩) fun _ => ?_
      clear hK_ K_
      refine wpAnyH_take (i := 7) (v := ?_) rfl (by kernel_rfl) (by kernel_rfl) (by kernel_rfl) (fun _ _ _ h => h) (Or.inl ⟨by rfl, ?_⟩) ⟨g1, g2⟩ ?_
      rotate_left
      · (intro w_ hS_; obtain ⟨q6, qs⟩ := hS_; go_simp; try with_reducible rfl)
      refine wpAnyH_done (by kernel_rfl) ?_ _
      go_wp2_with fail
      go_ret
      exact ⟨by rw [HR.out]; rfl, HB8.out⟩
    · go_simp
      have HP0 := Lib.hid (Blk.new w5.drew 9 #[.string (bs [116, 101, 115, 116]), .string (bs x.test)])
      have hal : Below w5.drew.heap.size w5.drew (w5.drew.alloc (.cells #[.string (bs [116, 101, 115, 116]), .string (bs x.test)] 9)) := (Below.refl _ _).alloc (Nat.le_refl _) _
      have g1 := (hal.cell (p := ⟨X, 6, none⟩) HXL.out).trans x6
      have g2 := (hal.cell (p := ⟨X, 5, none⟩) HXL.out).trans xs
      have HB6 := Lib.hid (HB.out.drew.trans (hal.mono HB.out.drew.size))
      have HBW6 := Lib.hid (HBW.out.drew.trans (hal.mono HBW.out.drew.size))
      have HL6 : Hid (X < (w5.drew.alloc (.cells #[.string (bs [116, 101, 115, 116]), .string (bs x.test)] 9)).heap.size) := Nat.lt_of_lt_of_le HXL.out hal.size
      clear hal
      refine hK_.out _ _ (by exact ⟨g1, g2⟩) fun _ => ?_
      clear hK_ K_
      refine wpAnyH_ready (rs := [2]) (by kernel_rfl) (by simp) ?_
      refine AllReadyH.cons rfl (fun K_ hK_ => ?_) AllReadyH.nil
      go_simp
      refine (HALL.out (by have := HLN.out; omega) _ _ HBW6.out HK.out).mono ?_
      rintro e w7 ⟨rfl, h7⟩
      have HP := Lib.hid (HP0.out.below h7 HP0.out.lt)
      have p6 := (h7.cell (p := ⟨X, 6, none⟩) HL6.out).trans g1
      have ps := (h7.cell (p := ⟨X, 5, none⟩) HL6.out).trans g2
      have HB7 := Lib.hid (HB6.out.trans (h7.mono HB6.out.size))
      have HL7 : Hid (X < w7.heap.size) := Nat.lt_of_lt_of_le HL6.out h7.size
      clear h7
      refine hK_.out _ _ (by exact ⟨p6, ps⟩) fun _ => ?_
      clear hK_ K_
      refine wpAnyH_ready (rs := [6]) (by kernel_rfl) (by simp) ?_
      refine AllReadyH.cons rfl (fun K_ hK_ => ?_) AllReadyH.nil
      go_simp
      refine (shTag_calls [119, 104, 101, 110] false (shF x.kids) [([116, 101, 115, 116], x.test)] _ _ _ (gr_two HP.out) HLN.out).mono ?_
      rintro e w8 ⟨rfl, h8⟩
      have g1 := (h8.cell (p := ⟨X, 6, none⟩) HL7.out).trans p6
      have g2 := (h8.cell (p := ⟨X, 5, none⟩) HL7.out).trans ps
      have HB8 := Lib.hid (HB7.out.trans (h8.mono HB7.out.size))
      clear h8
      refine hK_.out _ _ (by exact ⟨g1, g2⟩) fun _ => ?_
      clear hK_ K_
      refine wpAnyH_take (i := 7) (v := ?_) rfl (by kernel_rfl) (by kernel_rfl) (by kernel_rfl) (fun _ _ _ h => h) (Or.inl ⟨by rfl, ?_⟩) ⟨g1, g2⟩ ?_
      rotate_left
      · (intro w_ hS_; obtain ⟨q6, qs⟩ := hS_; go_simp; try with_reducible rfl)
      refine wpAnyH_done (by kernel_rfl) ?_ _
      go_wp2_with fail
      go_ret
      exact ⟨by rw [HR.out]; rfl, HB8.out⟩
  have b8 : (x.kind == 8) = false := by rw [beq_eq_false_iff_ne]; exact k8
  have HR : Hid (E = if shName x.kind = [] then [] else shTag (shName x.kind) false (shF x.kids) []) := by rw [Hid, HE.out, if_neg k1, if_neg k2, if_neg k12, if_neg k3, if_neg k8]
  clear k1 k2 k12 k3 k8
  go_wp2_with fail
  refine (shName_calls x.kind w5).mono ?_
  rintro e w6 ⟨rfl, hw6⟩
  subst hw6
  by_cases hn : shName x.kind = []
  · have HR2 : Hid (E = []) := by rw [Hid, HR.out, if_pos hn]
    have n1 : (bs (shName x.kind)).toList.isEmpty = true := by rw [hn, toList_bs]; rfl
    have n2 : (bs (shName x.kind)).toList = [] := by rw [hn, toList_bs]
    clear hn
    go_wp2_with fail
    go_ret
    exact ⟨by rw [HR2.out]; rfl, HB.out⟩
  · have HR2 : Hid (E = shTag (shName x.kind) false (shF x.kids) []) := by rw [Hid, HR.out, if_neg hn]
    have n1 : (bs (shName x.kind)).toList.isEmpty = false := by rw [toList_bs]; cases h : shName x.kind with | nil => exact absurd h hn | cons _ _ => rfl
    have n2 : ¬ (bs (shName x.kind)).toList = [] := by rw [toList_bs]; exact hn
    have HLN : Hid ((shName x.kind).length + (shF x.kids).length + (shAttrs []).length ≤ 100000000) := by
      have h1 := shTag_len (shName x.kind) (shF x.kids) []
      have h2 := HSZ.out
      rw [HR2.out] at h2
      rw [Hid]
      omega
    clear hn
    generalize shName x.kind = nm at *
    go_wp2_with fail
    refine (HALL.out (by have := HLN.out; omega) _ w6 HBW.out HK.out).mono ?_
    rintro e w7 ⟨rfl, h7⟩
    have HB7 := Lib.hid (HB.out.trans (h7.mono HB.out.size))
    clear h7
    go_wp2_with fail
    refine (shTag_calls nm false (shF x.kids) [] _ (fun _ => True) _ gr_nil HLN.out).mono ?_
    rintro e w8 ⟨rfl, h8⟩
    have HB8 := Lib.hid (HB7.out.trans (h8.mono HB7.out.size))
    clear h8
    go_wp2_with fail
    go_ret
    exact ⟨by rw [HR2.out]; rfl, HB8.out⟩
theorem shE_le (l : List Elem) (k : Nat) (h : k < l.length) : (shE l[k]).length ≤ (shF l).length := by
  have h1 := shF_take_le l (k + 1)
  rw [shF_take l k h, List.length_append] at h1
  omega
theorem showAll_calls : ∀ (n : Nat) (l : List Elem) (v : Value) (F : Nat → Prop) (w : World), sizeF l ≤ n → (shF l).length ≤ 100000000 → GR w F (.row 7 (l.map Elem.gv)) [v] →
    Calls Tryz.prog 79 #[v] w fun e w' => e = .returned (.string (bs (shF l))) ∧ Below w.heap.size w w' := by
  intro n
  induction n using Nat.strongRecOn with
  | ind n ih =>
    intro l v F w hn hsz hv
    refine showAll_step l v F w hv hsz fun k hk => showOne_calls l[k] _ w (fun hlen v' W hb hg => ?_) (Nat.le_trans (shE_le l k hk) hsz)
    have h1 := sizeE_mem hk
    have h2 := sizeE_eq l[k]
    exact ih (sizeF l[k].kids) (by omega) l[k].kids v' _ W (Nat.le_refl _) hlen (hg.below hb)
end Go.Proofs.YtijpfcjlochahaaGreatDoor
