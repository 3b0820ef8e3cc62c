/- The walks of doc.Links, of its closure, of doc.walk. -/
import Derived.Test.YtijpfcjlochahaaDoorLnkR
namespace Go.Proofs.YtijpfcjlochahaaDoor
open Go Go.RowKit

section
variable {w W : World} {X g : Nat} {x : Elem} {kv v : Value} {o : List (List UInt8)}
/-- The state: as LS, and the row's value lies in the variable at block X. -/
structure LW (w W : World) (X g : Nat) (x : Elem) (kv v : Value) (o : List (List UInt8)) : Prop where
  ls : LS w W g x kv v o
  hX : Blk W X 50 #[v]
  hXb : w.heap.size ≤ X
  hXg : g ≠ X
  hXo : v.ownBlock ≠ some X
theorem LW.alloc (h : LW w W X g x kv v o) (a : Obj) : LW w (W.alloc a) X g x kv v o :=
  ⟨⟨h.ls.hb.alloc h.ls.hb.size _, OwnR.below h.ls.ho ((Below.refl _ _).alloc (Nat.le_refl _) _), h.ls.hg, h.ls.hc.alloc _, h.ls.hne⟩, h.hX.alloc _, h.hXb, h.hXg, h.hXo⟩
/-- The variable and the row, whatever is copied. -/
structure WS (w : World) (X : Nat) (W : World) (v : Value) (o : List (List UInt8)) : Prop where
  hb : Below w.heap.size w W
  ho : OwnS W w.heap.size v o
  hX : Blk W X 50 #[v]
  hXb : w.heap.size ≤ X
  hXo : v.ownBlock ≠ some X
theorem LW.ws (h : LW w W X g x kv v o) : WS w X W v o := ⟨h.ls.hb, h.ls.ho, h.hX, h.hXb, h.hXo⟩
theorem WS.copy (h : WS w X W v o) (x : Elem) (kv : Value) (C : Array Value) (hC : C = (eCells x kv).toArray) : LW w (W.alloc (.cells C 46)) X W.heap.size x kv v o :=
  ⟨LS.start h.hb h.ho x kv C hC, h.hX.alloc _, h.hXb, fun e => by have := h.hX.lt; omega, h.hXo⟩
theorem LW.push (h : LW w W X g x kv v o) (s : List UInt8) {N c' : Nat} {A' : Option Addr} {w' : World} (h1 : OwnR w' w.heap.size 9 1 (fun _ => False) (.slice A' N c') (o.map .str ++ [.str s]))
    (h2 : (W.alloc (.cells #[.string (bs s)] 9)).grownBy w' v.ownBlock) (h3 : (Value.slice A' N c').ownBlock = v.ownBlock ∨ (Value.slice A' N c').ownBlock = some (W.alloc (.cells #[.string (bs s)] 9)).heap.size) :
    Blk w' X 50 #[v] ∧ LW w (w'.setCell ⟨X, 0, none⟩ (.slice A' N c')) X g x kv (.slice A' N c') (o ++ [s]) := by
  have hl := h.ls.push s h1 h2 h3
  have hX1 : Blk w' X 50 #[v] := (h.hX.alloc _).grown h2 (fun e => h.hXo e.symm)
  have hne : (Value.slice A' N c').ownBlock ≠ some X := by
    rcases h3 with h3 | h3
    · rw [h3]; exact h.hXo
    · rw [h3]; intro e
      have e := Option.some.inj e
      rw [size_alloc] at e
      have := h.hX.lt
      omega
  have hgr : w'.grownBy (w'.setCell ⟨X, 0, none⟩ (.slice A' N c')) (some X) := grown_setCell (grown_refl _ _) (.inl rfl) _
  refine ⟨hX1, ⟨hl.hb.trans (below_of_grown hgr hl.hb.size (fun k hk => by have hk : X = k := Option.some.inj hk; have := h.hXb; omega)), ?_, hl.hg, hl.hc.far h.hXg _, hl.hne⟩, hX1.set_ 0 _, h.hXb, h.hXg, hne⟩
  exact OwnR.kept hl.ho hgr (.inr hne) (fun _ e => e.elim)
theorem LW.x0 (h : LW w W X g x kv v o) : W.cell? ⟨X, 0, none⟩ = some v := h.hX.cell 0
end
def StrPost (w : World) (X g : Nat) (x : Elem) (kv : Value) (o : List (List UInt8)) (e : Ending) (W' : World) : Prop := e = .returned (.tuple #[]) ∧ ∃ v', LW w W' X g x kv v' o
set_option maxRecDepth 20000 in
set_option maxHeartbeats 2000000 in
theorem link1_calls (w W : World) (X g : Nat) (x : Elem) (Ak : Option Addr) (nk ck : Nat) (v : Value) (o : List (List UInt8)) (h : LW w W X g x (.slice Ak nk ck) v o) (hol : o.length ≤ 5000) :
    Calls Tryd.prog 51 #[.agg #[.int .i64 x.kind, .string (bs x.text), .string (bs x.src), .string (bs x.alt), .bool x.soft, .string (bs x.test), .slice Ak nk ck], .pointer (some ⟨X, 0, none⟩)] W (StrPost w X g x (.slice Ak nk ck) (o ++ ownLinks x)) := by
  obtain ⟨Ao, co, hvo⟩ := OwnR.form h.ls.ho
  subst hvo
  rw [List.length_map] at h
  obtain ⟨N, hNo⟩ : ∃ N, N = o.length := ⟨_, rfl⟩
  rw [← hNo] at h
  have HNO := Lib.hid hNo
  have HL := Lib.hid h
  have hN : N ≤ 5000 := by omega
  clear hNo h hol
  go_enter Tryd.func51, Tryd.ntmps51
  go_upto_region 1 with (fail)
  have HG := Lib.hid (HL.out.alloc (.cells #[.int .i64 x.kind, .string (bs x.text), .string (bs x.src), .string (bs x.alt), .bool x.soft, .string (bs x.test), .slice Ak nk ck] 46))
  have HC := Lib.hid (HL.out.ws.copy x (.slice Ak nk ck) #[.int .i64 x.kind, .string (bs x.text), .string (bs x.src), .string (bs x.alt), .bool x.soft, .string (bs x.test), .slice Ak nk ck] rfl)
  generalize W.alloc (.cells #[.int .i64 x.kind, .string (bs x.text), .string (bs x.src), .string (bs x.alt), .bool x.soft, .string (bs x.test), .slice Ak nk ck] 46) = w5 at *
  generalize W.heap.size = g2 at *
  clear HL
  have c0 := HC.out.ls.c0
  have c2 := HC.out.ls.c2
  have cx := HC.out.x0
  by_cases h2 : x.kind = 2
  · have hk2 : (x.kind == 2) = true := by rw [h2]; rfl
    have HA := Lib.hid (HC.out.ls.app HNO.out (by rw [← HNO.out]; omega) x.src)
    have HN1 : Hid (N + 1 = (o ++ [x.src]).length) := by rw [Hid, List.length_append, ← HNO.out]; rfl
    go_upto_region 3 with (at_builtin; go_loud (refine HA.out.plain rfl _ _ _ rfl strTy rfl rfl ?_); intro A6 c6 w6 hown hgr hor; have HG6 := Lib.hid (HG.out.push _ hown hgr hor).2; have HC6 := Lib.hid (HC.out.push _ hown hgr hor).2; have x6 := (HC.out.push _ hown hgr hor).1.cell 0; have z6 := (HC.out.push _ hown hgr hor).1.frozen 0; clear hown hgr hor)
    clear x6 z6 c0 c2 cx HA HG HC
    generalize w6.setCell ⟨X, 0, none⟩ (.slice A6 (N + 1) c6) = w7 at *
    have c3 := HC6.out.ls.c3
    have cx := HC6.out.x0
    by_cases h3 : x.alt = []
    · have hb2 : (bs x.alt).toList.isEmpty = true := by rw [h3, toList_bs]; rfl
      have hb3 : (bs x.alt).toList = [] := by rw [h3, toList_bs]
      have HOL : Hid (ownLinks x = [x.src]) := by rw [Hid, ownLinks, if_pos h2, if_pos h3]
      clear h3 h2
      go_wp2_with fail
      refine bodyPost_ret (results_none rfl _ _ _) rfl ?_
      exact ⟨rfl, _, by rw [HOL.out]; exact HG6.out⟩
    · have hb2 : (bs x.alt).toList.isEmpty = false := by rw [toList_bs]; cases h : x.alt with | nil => exact absurd h h3 | cons _ _ => rfl
      have hb3 : ¬ (bs x.alt).toList = [] := by rw [toList_bs]; exact h3
      have HOL : Hid (ownLinks x = [x.src] ++ [x.alt]) := by rw [Hid, ownLinks, if_pos h2, if_neg h3]; rfl
      have HA2 := Lib.hid (HC6.out.ls.app HN1.out (by rw [← HN1.out]; omega) x.alt)
      clear h3 h2
      go_wp2_with (at_builtin; go_loud (refine HA2.out.plain rfl _ _ _ rfl strTy rfl rfl ?_); intro A8 c8 w8 hown hgr hor; have HG8 := Lib.hid (HG6.out.push _ hown hgr hor).2; have x8 := (HC6.out.push _ hown hgr hor).1.cell 0; have z8 := (HC6.out.push _ hown hgr hor).1.frozen 0; clear hown hgr hor)
      refine bodyPost_ret (results_none rfl _ _ _) rfl ?_
      exact ⟨rfl, _, by rw [HOL.out, ← List.append_assoc]; exact HG8.out⟩
  · have hk2 : (x.kind == 2) = false := by rw [beq_eq_false_iff_ne]; exact h2
    have HOL : Hid (ownLinks x = []) := by rw [Hid, ownLinks, if_neg h2]
    clear h2
    go_wp2_with fail
    refine bodyPost_ret (results_none rfl _ _ _) rfl ?_
    exact ⟨rfl, _, by rw [HOL.out, List.append_nil]; exact HG.out⟩
def WalkPost (w : World) (X : Nat) (o : List (List UInt8)) (e : Ending) (W' : World) : Prop := e = .returned (.tuple #[]) ∧ ∃ v', WS w X W' v' o
set_option maxRecDepth 20000 in
set_option maxHeartbeats 2000000 in
theorem walk_calls (w : World) (X : Nat) (F : Nat → Prop) : ∀ (n : Nat) (l : List Elem) (ve v : Value) (W : World) (o : List (List UInt8)), sizeF l ≤ n → n ≤ 1000 → o.length + 2 * sizeF l ≤ 4000 → GR w F (.row 7 (l.map Elem.gv)) [ve] → WS w X W v o →
    Calls Tryd.prog 50 #[ve, .func (.func 51) #[] #[.pointer (some ⟨X, 0, none⟩)]] W (WalkPost w X (o ++ linksF l)) := by
  intro n
  induction n using Nat.strongRecOn with
  | ind n ih =>
    intro l ve v W o hn h1000 hol hv hws
    obtain ⟨A, c, rfl, hlc, hcm, hop⟩ := elems_open (GR.lt_heap _ _ hv)
    have HOP := Lib.hid hop
    have IH := Lib.hid ih
    have HWS := Lib.hid hws
    clear hop hv ih hws
    unfold maxLen at hcm
    go_enter Tryd.func50, Tryd.ntmps50
    go_wp2_with fail
    go_loopw [5, 8] (fun _ i wr => ∃ (k : Nat) (v : Value), k ≤ l.length ∧ i = .int .i64 k ∧ Hid (WS w X wr v (o ++ linksF (l.take k))))
       (fun _ i wr => l.length - (intOf i).toNat)
    case atStart => exact ⟨0, v, Nat.zero_le _, rfl, by rw [List.take_zero, linksF, List.append_nil]; exact HWS.out⟩
    case round =>
     clear HWS
     obtain ⟨k, v, hk, rfl, HS⟩ := hrel
     by_cases hlt : k < l.length
     · obtain ⟨b, off, rfl, ⟨_, hbw⟩, hop⟩ := HOP.out (by rintro rfl; simp at hlt)
       obtain ⟨Ak, ck, hE⟩ := hop k hlt
       have HKI := Lib.hid hE.kids
       have hE := hE.below HS.out.hb hbw
       have e0 := hE.c0
       have e1 := hE.c1
       have e2 := hE.c2
       have e3 := hE.c3
       have e4 := hE.c4
       have e5 := hE.c5
       have e6 := hE.c6
       clear hE hop hbw
       have HT := Lib.hid (linksF_take l k hlt)
       have hsz : sizeF l[k].kids < n := by have h1 := sizeE_mem hlt; have h2 := sizeE_eq l[k]; omega
       have hln : (linksF (l.take k)).length + (ownLinks l[k]).length + 2 * sizeF l[k].kids ≤ 2 * sizeF l := by
         have h0 : sizeF (l.take (k + 1)) ≤ sizeF l := by
           have e := sizeF_append (l.take (k + 1)) (l.drop (k + 1))
           rw [List.take_append_drop] at e
           omega
         rw [List.take_succ_eq_append_getElem hlt, sizeF_append] at h0
         simp only [sizeF, sizeE_eq] at h0
         have h1 := linksF_len (sizeF (l.take k)) (l.take k) (Nat.le_refl _)
         have h2 := ownLinks_len l[k]
         omega
       generalize l[k] = x at *
       have HLN := Lib.hid hln
       have HSZ := Lib.hid hsz
       clear hln hsz
       go_upto_region 3 with (fail)
       have HL := Lib.hid (HS.out.copy x (.slice Ak x.kids.length ck) #[.int .i64 x.kind, .string (bs x.text), .string (bs x.src), .string (bs x.alt), .bool x.soft, .string (bs x.test), .slice Ak x.kids.length ck] rfl)
       generalize wr.alloc (.cells #[.int .i64 x.kind, .string (bs x.text), .string (bs x.src), .string (bs x.alt), .bool x.soft, .string (bs x.test), .slice Ak x.kids.length ck] 46) = w5 at *
       generalize wr.heap.size = g at *
       clear HS e0 e1 e2 e3 e4 e5 e6
       have x0 : w5.cell? ⟨g, 0, none⟩ = some (.int .i64 x.kind) := HL.out.ls.hc.cell 0
       have x1 : w5.cell? ⟨g, 1, none⟩ = some (.string (bs x.text)) := HL.out.ls.hc.cell 1
       have x2 : w5.cell? ⟨g, 2, none⟩ = some (.string (bs x.src)) := HL.out.ls.hc.cell 2
       have x3 : w5.cell? ⟨g, 3, none⟩ = some (.string (bs x.alt)) := HL.out.ls.hc.cell 3
       have x4 : w5.cell? ⟨g, 4, none⟩ = some (.bool x.soft) := HL.out.ls.hc.cell 4
       have x5 : w5.cell? ⟨g, 5, none⟩ = some (.string (bs x.test)) := HL.out.ls.hc.cell 5
       have x6 : w5.cell? ⟨g, 6, none⟩ = some (.slice Ak x.kids.length ck) := HL.out.ls.hc.cell 6
       go_wp2_with fail
       refine (link1_calls w w5 X g x _ _ _ v _ HL.out (by rw [List.length_append]; have := HLN.out; omega)).mono ?_
       rintro e w6 ⟨rfl, v6, hl6⟩
       have HL6 := Lib.hid hl6
       clear hl6 x0 x1 x2 x3 x4 x5 x6 HL
       have x6 := HL6.out.ls.c6
       go_wp2_with fail
       refine (IH.out _ HSZ.out x.kids _ v6 w6 _ (Nat.le_refl _) (by have := HSZ.out; omega) (by rw [List.length_append, List.length_append]; have := HLN.out; omega) (HKI.out.weaken (fun _ h => h.1)) HL6.out.ws).mono ?_
       rintro e w7 ⟨rfl, v7, hl7⟩
       have HL7 := Lib.hid hl7
       clear hl7
       go_wp2_with fail
       go_roundw
       case rel => exact ⟨k + 1, v7, hlt, by go_num, by rw [HT.out, ← List.append_assoc, ← List.append_assoc]; exact HL7.out⟩
       case measure => simp [intOf]; omega
     · have hkl : k = l.length := by omega
       subst hkl
       rw [List.take_length] at HS
       go_wp2_with fail
       refine bodyPost_ret (results_none rfl _ _ _) rfl ?_
       exact ⟨rfl, v, HS.out⟩
end Go.Proofs.YtijpfcjlochahaaDoor
