/- The walk of the reference's Links. -/
import Derived.Test.YtijpfcjlochahaaGreatDoorCntR
import Derived.Test.YtijpfcjlochahaaGreatDoorLnkP
namespace Go.Proofs.YtijpfcjlochahaaGreatDoor
open Go Go.RowKit
set_option linter.unusedVariables false
set_option linter.unusedSimpArgs false

theorem strTy : ElemTy Tryz.prog 42 9 1 16 := by
  obtain ⟨i0, hi, hz0, hz1, hz2⟩ := info_parts2 (show (Tryz.prog.info? 9).map (fun i => (i.zero, i.size, i.bytes)) = some (some (.string (bs [])), 1, 16) by kernel_rfl)
  exact ⟨i0, _, Tryz.underlying42, hi, hz0, hz1, hz2, rfl, by omega⟩
/-- A row of texts of the call's own. -/
def OwnS (W : World) (base : Nat) (v : Value) (o : List (List UInt8)) : Prop := OwnR W base 9 1 (fun _ => False) v (o.map .str)
theorem grl_str {w w' : World} {F F' : Nat → Prop} : ∀ {l : List (List UInt8)} {xs : List Value}, GRl w F 1 (l.map .str) xs → GRl w' F' 1 (l.map .str) xs
  | [], xs, h => by
    rw [List.map_nil, GRl_nil] at h
    subst h
    exact GRl_nil.2 rfl
  | s :: l, xs, h => by
    rw [List.map_cons] at h
    obtain ⟨a, b, rfl, h1, h2, h3⟩ := GRl_cons.1 h
    rw [List.map_cons]
    exact GRl_cons.2 ⟨a, b, rfl, h1, GR_str.2 (GR_str.1 h2), grl_str h3⟩
section
variable {w W : World} {base : Nat} {v : Value} {o : List (List UInt8)}
theorem app_str {N : Nat} (ho : OwnS W base v o) (hb : base ≤ W.heap.size) (hN : N = o.length) (hlen : o.length ≤ 99999) (s : List UInt8) :
    App (W.alloc (.cells #[.string (bs s)] 9)) base 9 1 16 (fun _ => False) v (o.map .str) (some ⟨W.heap.size, 0, none⟩) 1 [.str s] [.string (bs s)] (N + 1) := by
  subst hN
  have key := App.of_new (bytes := 16) (size := 1) (x := .str s) (OwnR.below ho ((Below.refl _ _).alloc (Nat.le_refl _) (.cells #[.string (bs s)] 9))) (Blk.new W 9 [.string (bs s)].toArray) (GR_str.2 rfl) rfl (by rw [List.length_map]; omega) (by omega) (by rw [size_alloc]; omega)
  rw [List.length_map] at key
  exact key
/-- A row of texts is appended. -/
theorem app_strs {base2 N M : Nat} {A : Option Addr} {c : Nat} {m : List (List UInt8)} (ho : OwnS W base v o) (hb : base ≤ W.heap.size) (h2 : OwnS W base2 (.slice A M c) m) (hN : N = o.length) (hM : M = m.length) (hlen : o.length + m.length ≤ 100000) :
    ∃ news, App W base 9 1 16 (fun _ => False) v (o.map .str) A M (m.map .str) news (N + M) := by
  subst hN hM
  have hr := OwnR.gr (F := fun _ => True) h2 (fun _ h => h.elim) (fun _ _ => trivial)
  obtain ⟨A', c', xs, h1, k2, h3, h4, h5, h6⟩ := GR_row.1 hr
  simp only [List.cons.injEq, and_true] at h1
  injection h1 with e1 e2 e3
  subst e1 e3
  refine ⟨xs, ho, by rw [List.length_map], h5, grl_str h6, ?_, ?_, hb, by rw [List.length_append, List.length_map, List.length_map]⟩
  · rw [List.length_map, List.length_map]; simp only [maxLen]; omega
  · rw [List.length_map, List.length_map]; omega
/-- The state in a round: the row; the element's copy at block g. -/
structure LS (w W : World) (g : Nat) (x : Elem) (kv v : Value) (o : List (List UInt8)) : Prop where
  hb : Below w.heap.size w W
  ho : OwnS W w.heap.size v o
  hg : w.heap.size ≤ g
  hc : Blk W g 74 (eCells x kv).toArray
  hne : v.ownBlock ≠ some g
variable {g : Nat} {x : Elem} {kv : Value}
theorem LS.c0 (h : LS w W g x kv v o) : W.cell? ⟨g, 0, none⟩ = some (.int .i64 x.kind) := h.hc.cell 0
theorem LS.c2 (h : LS w W g x kv v o) : W.cell? ⟨g, 2, none⟩ = some (.string (bs x.src)) := h.hc.cell 2
theorem LS.c3 (h : LS w W g x kv v o) : W.cell? ⟨g, 3, none⟩ = some (.string (bs x.alt)) := h.hc.cell 3
theorem LS.c6 (h : LS w W g x kv v o) : W.cell? ⟨g, 6, none⟩ = some kv := h.hc.cell 6
theorem LS.start (hb : Below w.heap.size w W) (ho : OwnS W w.heap.size v o) (x : Elem) (kv : Value) (C : Array Value) (hC : C = (eCells x kv).toArray) : LS w (W.alloc (.cells C 74)) W.heap.size x kv v o := by
  subst hC
  exact ⟨hb.alloc hb.size _, OwnR.below ho ((Below.refl _ _).alloc (Nat.le_refl _) _), hb.size, Blk.new _ _ _, fun e => by have := (OwnR.lt ho _ e).2; omega⟩
theorem LS.app (h : LS w W g x kv v o) {N : Nat} (hN : N = o.length) (hlen : o.length ≤ 99999) (s : List UInt8) :
    App (W.alloc (.cells #[.string (bs s)] 9)) w.heap.size 9 1 16 (fun _ => False) v (o.map .str) (some ⟨W.heap.size, 0, none⟩) 1 [.str s] [.string (bs s)] (N + 1) := app_str h.ho h.hb.size hN hlen s
theorem LS.push (h : LS w W g x kv v o) (s : List UInt8) {N c' : Nat} {A' : Option Addr} {w' : World} (h1 : OwnR w' w.heap.size 9 1 (fun _ => False) (.slice A' N c') (o.map .str ++ [.str s]))
    (h2 : (W.alloc (.cells #[.string (bs s)] 9)).grownBy w' v.ownBlock) (h3 : (Value.slice A' N c').ownBlock = v.ownBlock ∨ (Value.slice A' N c').ownBlock = some (W.alloc (.cells #[.string (bs s)] 9)).heap.size) : LS w w' g x kv (.slice A' N c') (o ++ [s]) := by
  have hs := h.hb.size
  refine ⟨(h.hb.alloc hs _).trans (below_of_grown h2 (by rw [size_alloc]; omega) (fun k hk => (OwnR.lt h.ho k hk).1)), ?_, h.hg, (h.hc.alloc _).grown h2 (fun e => h.hne e.symm), ?_⟩
  · rw [OwnS, List.map_append]; exact h1
  · rcases h3 with h3 | h3
    · rw [h3]; exact h.hne
    · rw [h3]; intro e
      have e := Option.some.inj e
      rw [size_alloc] at e
      have := h.hc.lt
      omega
end
theorem linksF_take (l : List Elem) (k : Nat) (h : k < l.length) : linksF (l.take (k + 1)) = (linksF (l.take k) ++ ownLinks l[k]) ++ linksF l[k].kids := by
  rw [List.take_succ_eq_append_getElem h, linksF_append]
  simp only [linksF, linksE_eq, List.append_nil, List.append_assoc]
theorem linksF_take_le (l : List Elem) (k : Nat) : (linksF (l.take k)).length ≤ (linksF l).length := by
  have e : linksF l = linksF (l.take k) ++ linksF (l.drop k) := by rw [← linksF_append, List.take_append_drop]
  rw [e, List.length_append]; omega
theorem ownLinks_len (e : Elem) : (ownLinks e).length ≤ 2 := by
  unfold ownLinks
  split
  · split <;> simp
  · simp
def LinksPost (l : List Elem) (w : World) (e : Ending) (w' : World) : Prop := ∃ v', e = .returned v' ∧ OwnS w' w.heap.size v' (linksF l) ∧ Below w.heap.size w w'
set_option maxRecDepth 20000 in
set_option maxHeartbeats 4000000 in
theorem rlinks_calls : ∀ (n : Nat) (l : List Elem) (v : Value) (F : Nat → Prop) (w : World), sizeF l ≤ n → n ≤ 1000 → GR w F (.row 7 (l.map Elem.gv)) [v] →
    Calls Tryz.prog 15 #[v] w (LinksPost l w) := by
  intro n
  induction n using Nat.strongRecOn with
  | ind n ih =>
    intro l v F w hn h1000 hv
    obtain ⟨A, c, rfl, hlc, hcm, hop⟩ := elems_open (GR.lt_heap _ _ hv)
    have HOP := Lib.hid hop
    have IH := Lib.hid ih
    have HLL : Hid ((linksF l).length ≤ 2000) := by have := linksF_len (sizeF l) l (Nat.le_refl _); rw [Hid]; omega
    clear hop hv ih
    have HB0 : Hid (Below w.heap.size w (w.alloc (.cells #[] 9))) := (Below.refl _ _).alloc (Nat.le_refl _) _
    have HO0 : Hid (OwnS (w.alloc (.cells #[] 9)) w.heap.size (.slice (some ⟨w.heap.size, 0, none⟩) 0 0) (linksF (l.take 0))) :=
      ⟨[], World.ownsRow_lit w #[] 0 (Nat.le_refl _) (by simp [maxLen]) (by simp), GRl_nil.2 rfl⟩
    unfold maxLen at hcm
    go_enter Tryz.func15, Tryz.ntmps15
    go_wp2_with fail
    go_loopw [3, 5, 9] (fun v _ i wr => ∃ k : Nat, k ≤ l.length ∧ i = .int .i64 k ∧ Hid (Below w.heap.size w wr) ∧ Hid (OwnS wr w.heap.size v (linksF (l.take k))))
       (fun _ _ i wr => l.length - (intOf i).toNat)
    case atStart => exact ⟨0, Nat.zero_le _, rfl, HB0.out, HO0.out⟩
    case round =>
     clear HB0 HO0
     obtain ⟨k, hk, rfl, HB, HO⟩ := hrel
     by_cases hlt : k < l.length
     · obtain ⟨b, off, rfl, ⟨_, hbw⟩, hop⟩ := HOP.out (by rintro rfl; simp at hlt)
       obtain ⟨Ak, ck, hE⟩ := hop k hlt
       have HKI := Lib.hid hE.kids
       have hE := hE.below HB.out hbw
       have e0 := hE.c0
       have e1 := hE.c1
       have e2 := hE.c2
       have e3 := hE.c3
       have e4 := hE.c4
       have e5 := hE.c5
       have e6 := hE.c6
       clear hE hop hbw
       have HT := Lib.hid (linksF_take l k hlt)
       have hol := Nat.le_trans (linksF_take_le l k) HLL.out
       have hsz : sizeF l[k].kids < n := by have h1 := sizeE_mem hlt; have h2 := sizeE_eq l[k]; omega
       have hok : (linksF (l.take k)).length + (ownLinks l[k]).length + (linksF l[k].kids).length ≤ 2000 := by
         have h1 := Nat.le_trans (linksF_take_le l (k + 1)) HLL.out
         rw [HT.out, List.length_append, List.length_append] at h1
         exact h1
       generalize l[k] = x at *
       generalize linksF (l.take k) = o at *
       obtain ⟨Ao, co, hvo⟩ := OwnR.form HO.out
       subst hvo
       rw [List.length_map] at HO ⊢
       obtain ⟨N, hNo⟩ : ∃ N, N = o.length := ⟨_, rfl⟩
       rw [← hNo] at HO hok hol ⊢
       have HNO := Lib.hid hNo
       have HOK := Lib.hid hok
       have HSZ := Lib.hid hsz
       clear hNo hok hsz
       go_upto_region 5 with (fail)
       have HL := Lib.hid (LS.start HB.out HO.out x (.slice Ak x.kids.length ck) #[.int .i64 x.kind, .string (bs x.text), .string (bs x.src), .string (bs x.alt), .bool x.soft, .string (bs x.test), .slice Ak x.kids.length ck] rfl)
       generalize wr.alloc (.cells #[.int .i64 x.kind, .string (bs x.text), .string (bs x.src), .string (bs x.alt), .bool x.soft, .string (bs x.test), .slice Ak x.kids.length ck] 74) = w5 at *
       generalize wr.heap.size = X at *
       clear HB HO e0 e1 e2 e3 e4 e5 e6
       have c0 := HL.out.c0
       have c2 := HL.out.c2
       have c3 := HL.out.c3
       go_upto_if 15 with (fail)
       go_cut [3] from 15 to 28 (fun v wx => Hid (LS w wx X x (.slice Ak x.kids.length ck) v (o ++ ownLinks x)))
       case first =>
         by_cases h2 : x.kind = 2
         · have hk2 : (x.kind == 2) = true := by rw [h2]; rfl
           have HA := Lib.hid (HL.out.app HNO.out (by rw [← HNO.out]; omega) x.src)
           have HPU : Hid (∀ A' c' w', OwnR w' w.heap.size 9 1 (fun _ => False) (.slice A' (N + 1) c') (o.map .str ++ [.str x.src]) → (w5.alloc (.cells #[.string (bs x.src)] 9)).grownBy w' (Value.slice Ao N co).ownBlock →
             ((Value.slice A' (N + 1) c').ownBlock = (Value.slice Ao N co).ownBlock ∨ (Value.slice A' (N + 1) c').ownBlock = some (w5.alloc (.cells #[.string (bs x.src)] 9)).heap.size) → LS w w' X x (.slice Ak x.kids.length ck) (.slice A' (N + 1) c') (o ++ [x.src])) := fun A' c' w' h1 h2 h3 => HL.out.push _ h1 h2 h3
           have HN1 : Hid (N + 1 = (o ++ [x.src]).length) := by rw [Hid, List.length_append, ← HNO.out]; rfl
           clear h2
           by_cases h3 : x.alt = []
           · have hb2 : (bs x.alt).toList.isEmpty = true := by rw [h3, toList_bs]; rfl
             have hb3 : (bs x.alt).toList = [] := by rw [h3, toList_bs]
             have HOL : Hid (ownLinks x = [x.src]) := by rw [Hid, ownLinks, if_pos (by simpa using hk2), if_pos h3]
             clear h3
             go_wp2_with (at_builtin; go_loud (refine HA.out.plain rfl _ _ _ rfl strTy rfl rfl ?_); intro A6 c6 w6 hown hgr hor; have HL6 := Lib.hid (HPU.out _ _ _ hown hgr hor); have d3 := HL6.out.c3; clear hown hgr hor)
             go_meet
             case rel => rw [HOL.out]; exact HL6.out
           · have hb2 : (bs x.alt).toList.isEmpty = false := by rw [toList_bs]; cases h : x.alt with | nil => exact absurd h h3 | cons _ _ => rfl
             have hb3 : ¬ (bs x.alt).toList = [] := by rw [toList_bs]; exact h3
             have HOL : Hid (ownLinks x = [x.src] ++ [x.alt]) := by rw [Hid, ownLinks, if_pos (by simpa using hk2), if_neg h3]; rfl
             clear h3
             go_wp2_with (at_builtin; first | (go_loud (refine HA.out.plain rfl _ _ _ rfl strTy rfl rfl ?_); intro A6 c6 w6 hown hgr hor; have HL6 := Lib.hid (HPU.out _ _ _ hown hgr hor); have d3 := HL6.out.c3; have HA2 := Lib.hid (HL6.out.app HN1.out (by rw [← HN1.out]; omega) x.alt); clear hown hgr hor) | (go_loud (refine HA2.out.plain rfl _ _ _ rfl strTy rfl rfl ?_); intro A7 c7 w7 hown hgr hor; have HL7 := Lib.hid (HL6.out.push _ hown hgr hor); clear hown hgr hor))
             go_meet
             case rel => rw [HOL.out, ← List.append_assoc]; exact HL7.out
         · have hk2 : (x.kind == 2) = false := by rw [beq_eq_false_iff_ne]; exact h2
           have HOL : Hid (ownLinks x = []) := by rw [Hid, ownLinks, if_neg h2]
           clear h2
           go_wp2_with fail
           go_meet
           case rel => rw [HOL.out, List.append_nil]; exact HL.out
       case rest =>
         clear c0 c2 c3 HL
         have HL := hcut
         clear hcut
         obtain ⟨Ap, cp, hvp⟩ := OwnR.form HL.out.ho
         subst hvp
         rw [List.length_map] at HL ⊢
         obtain ⟨M, hM⟩ : ∃ M, M = (o ++ ownLinks x).length := ⟨_, rfl⟩
         rw [← hM] at HL ⊢
         have HM := Lib.hid hM
         clear hM
         have c6 := HL.out.c6
         have HKX := Lib.hid (HKI.out.below HL.out.hb)
         go_wp2_with fail
         refine (IH.out _ HSZ.out x.kids _ _ _ (Nat.le_refl _) (by have := HSZ.out; omega) HKX.out).mono ?_
         rintro e w7 ⟨v7, rfl, ho7, hb7⟩
         obtain ⟨A7, c7, hv7⟩ := OwnR.form ho7
         subst hv7
         rw [List.length_map] at ho7 ⊢
         obtain ⟨Q, hQ⟩ : ∃ Q, Q = (linksF x.kids).length := ⟨_, rfl⟩
         rw [← hQ] at ho7 ⊢
         have HO7 : Hid (OwnS w7 w.heap.size (.slice Ap M cp) (o ++ ownLinks x)) := OwnR.below HL.out.ho hb7
         obtain ⟨news, hA⟩ := app_strs HO7.out (Nat.le_trans HL.out.hb.size hb7.size) ho7 HM.out hQ (by rw [List.length_append, ← HNO.out]; have := HOK.out; omega)
         have HA := Lib.hid hA
         have HB7 := Lib.hid (HL.out.hb.trans (hb7.mono HL.out.hb.size))
         clear ho7 hb7 hA hQ
         go_wp2_with (at_builtin; go_loud (refine HA.out.plain rfl _ _ _ rfl strTy rfl rfl ?_); intro A8 c8 w8 hown hgr hor; have HO8 := Lib.hid hown; have HG8 := Lib.hid hgr; clear hown hgr hor)
         go_roundw
         case rel => exact ⟨k + 1, hlt, by go_num, HB7.out.trans (below_of_grown HG8.out HB7.out.size (fun q hq => (OwnR.lt HO7.out q hq).1)), by rw [HT.out, OwnS, List.map_append]; exact HO8.out⟩
         case measure => simp [intOf]; omega
     · have hkl : k = l.length := by omega
       subst hkl
       rw [List.take_length] at HO
       go_wp2_with fail
       go_ret
       exact ⟨_, rfl, HO.out, HB.out⟩
theorem strs_open {w : World} {F : Nat → Prop} {l : List (List UInt8)} {v : Value} (h : GR w F (.row 1 (l.map .str)) [v]) :
    ∃ A c, v = .slice A l.length c ∧ l.length ≤ c ∧ c ≤ maxLen ∧ (l ≠ [] → ∃ b o, A = some ⟨b, o, none⟩ ∧ F b ∧ ∀ i (hi : i < l.length), w.cell? ⟨b, o + i, none⟩ = some (.string (bs l[i]))) := by
  obtain ⟨A, c, h1, h2, h3, h4⟩ := row_open h (by omega)
  simp only [List.length_map] at h1 h2 h4
  refine ⟨A, c, h1, h2, h3, fun hne => ?_⟩
  obtain ⟨b, o, hA, hF, hc⟩ := h4 (by simpa using hne)
  refine ⟨b, o, hA, hF, fun i hi => ?_⟩
  obtain ⟨cs, g1, _, g3⟩ := hc i hi
  rw [List.getElem_map, GR_str] at g1
  subst g1
  have := g3 0 _ rfl
  rw [Nat.mul_one, Nat.add_zero] at this
  exact this
end Go.Proofs.YtijpfcjlochahaaGreatDoor
