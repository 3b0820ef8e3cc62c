/- The walks of lex's reader: marks, letter, blank, plain, peek, need, run, name. -/
import Derived.Test.YtijpfcjlochahaaGreatDoorLexF
import Derived.Test.YtijpfcjlochahaaGreatDoorProg
import Derived.WalkLawsBesides
import Derived.WalkSpells
import Derived.Outline
import Derived.BigQuiet
import Derived.Deep.RegionHeld3
set_option linter.unusedVariables false
set_option linter.unusedSimpArgs false
namespace Go.Proofs.YtijpfcjlochahaaGreatDoor
open Go Go.RowKit

/-- The reader at block b: its text, and its place. -/
def Rd (w : World) (b : Nat) (s : ByteArray) (k : Nat) : Prop :=
  w.cell? ⟨b, 0, none⟩ = some (.string s) ∧ w.cell? ⟨b, 1, none⟩ = some (.int .i64 k) ∧ w.frozen? ⟨b, 1, none⟩ = false
/-- What a reader panics with. -/
def shortV : Value := .iface 116 (.agg #[])
def errV (e : Int) : Value := .iface 29 (.int .i64 e)
def raised (v : Value) : Ending := .panicked [{ v := v, recovered := false }]

set_option maxHeartbeats 400000 in
theorem marks_calls (b : Bool) (w : World) :
    Calls Tryz.prog 62 #[.bool b] w fun e w' => e = .returned (.slice (some ⟨w.heap.size, 0, none⟩) 3 3) ∧
      w.alloc (.cells #[.string (bs openB), .string (bs closB), .string (bs (lastMark b))] 9) = w' := by
  cases b
  · go_enter Tryz.func62, Tryz.ntmps62
    go_wp2
    go_ret
    exact ⟨rfl, rfl⟩
  · go_enter Tryz.func62, Tryz.ntmps62
    go_wp2
    go_ret
    exact ⟨rfl, rfl⟩

set_option maxRecDepth 20000 in
set_option maxHeartbeats 400000 in
theorem peek_ok (s : ByteArray) (k b : Nat) (w : World) (h : Rd w b s k) (hi : k < s.size) (h4 : k < 400) (_hs : s.size ≤ 10000000) :
    Calls Tryz.prog 101 #[.pointer (some ⟨b, 0, none⟩)] w fun e w' => e = .returned (.int .u8 s[k].toNat) ∧ ∃ n, w' = w.drewN n := by
  obtain ⟨h0, h1, h2⟩ := h
  go_enter Tryz.func101, Tryz.ntmps101
  go_wp2
  go_quiet (fail)
  go_wp2
  go_quiet (fail)
  go_wp2
  go_ret
  exact ⟨rfl, _, World.drewN_drewN _ _ _⟩
set_option maxRecDepth 20000 in
set_option maxHeartbeats 400000 in
theorem peek_short (s : ByteArray) (k b : Nat) (w : World) (h : Rd w b s k) (hi : s.size ≤ k) (_hs : s.size ≤ 10000000) (_hk : k ≤ 10000000) :
    Calls Tryz.prog 101 #[.pointer (some ⟨b, 0, none⟩)] w fun e w' => e = raised shortV ∧ ∃ n, w' = w.drewN n := by
  obtain ⟨h0, h1, h2⟩ := h
  go_enter Tryz.func101, Tryz.ntmps101
  go_wp2
  go_quiet (fail)
  go_wp2
  exact ⟨rfl, rfl, _, rfl⟩
set_option maxRecDepth 20000 in
set_option maxHeartbeats 400000 in
theorem peek_long (s : ByteArray) (k b : Nat) (w : World) (h : Rd w b s k) (hi : k < s.size) (h4 : 400 ≤ k) (_hs : s.size ≤ 10000000) :
    Calls Tryz.prog 101 #[.pointer (some ⟨b, 0, none⟩)] w fun e w' => e = raised (errV 2) ∧ ∃ n, w' = w.drewN n := by
  obtain ⟨h0, h1, h2⟩ := h
  go_enter Tryz.func101, Tryz.ntmps101
  go_wp2
  go_quiet (fail)
  go_wp2
  exact ⟨rfl, rfl, _, rfl⟩

theorem letter_calls (c : UInt8) (w : World) : Calls Tryz.prog 159 #[.int .u8 c.toNat] w fun e w' => e = .returned (.bool (letterB c)) ∧ w = w' := by
  go_enter Tryz.func159, Tryz.ntmps159
  go_wp2
  all_goals
    go_ret
    refine ⟨ret_bool ?_, rfl⟩
    simp only [letterB, u8_beq, u8_le, UInt8.reduceToNat]
    first | rfl | (simp [*]; done) | (simp [*]; omega)
theorem blank_calls (c : UInt8) (w : World) : Calls Tryz.prog 100 #[.int .u8 c.toNat] w fun e w' => e = .returned (.bool (blankB c)) ∧ w = w' := by
  go_enter Tryz.func100, Tryz.ntmps100
  go_wp2
  all_goals
    go_ret
    refine ⟨ret_bool ?_, rfl⟩
    simp only [blankB, u8_beq, UInt8.reduceToNat]
    first | rfl | (simp [*]; done)
theorem plain_calls (c : UInt8) (w : World) : Calls Tryz.prog 103 #[.int .u8 c.toNat] w fun e w' => e = .returned (.bool (plainB c)) ∧ w = w' := by
  go_enter Tryz.func103, Tryz.ntmps103
  go_wp2
  all_goals
    go_ret
    refine ⟨ret_bool ?_, rfl⟩
    simp only [plainB, u8_bne, UInt8.reduceToNat]
    first | rfl | (simp [*]; done)

/-- What a method of the reader does: it ends as the plain function says, and has turned its own block alone. -/
def RdPost {α : Type} (b : Nat) (s : ByteArray) (w : World) (o : Out α) (val : α → Value) (e : Ending) (w' : World) : Prop :=
  w.grownBy w' (some b) ∧ match o with
    | .ok a r k => e = .returned (val a) ∧ r = (L s).drop k ∧ k ≤ s.size ∧ Rd w' b s k
    | .short => e = raised shortV
    | .bad n => e = raised (errV n)

theorem Rd.drewN {w : World} {b : Nat} {s : ByteArray} {k : Nat} (h : Rd w b s k) (n : Nat) : Rd (w.drewN n) b s k := h
theorem Rd.below {w w' : World} {b : Nat} {s : ByteArray} {k : Nat} (h : Rd w b s k) (hb : Below w.heap.size w w') : Rd w' b s k := by
  have hl : b < w.heap.size := World.block_lt_of_cell? w _ h.1
  exact ⟨(hb.cell hl).trans h.1, (hb.cell hl).trans h.2.1, (hb.frozen hl).trans h.2.2⟩
theorem Rd.grown {w w' : World} {b : Nat} {s : ByteArray} {k : Nat} {row : Option Nat} (h : Rd w b s k) (hb : w.grownBy w' row) (hr : some b ≠ row) : Rd w' b s k := by
  have hl : b < w.heap.size := World.block_lt_of_cell? w _ h.1
  have e := hb.block b hl hr
  exact ⟨(World.cell?_of_block (w := w) (a := ⟨b, 0, none⟩) e).trans h.1, (World.cell?_of_block (w := w) (a := ⟨b, 1, none⟩) e).trans h.2.1, (World.frozen?_of_block (w := w) (a := ⟨b, 1, none⟩) e).trans h.2.2⟩
theorem Rd.step {w : World} {b : Nat} {s : ByteArray} {k : Nat} (h : Rd w b s k) (k' : Nat) : Rd (w.setCell ⟨b, 1, none⟩ (.int .i64 k')) b s k' := by
  obtain ⟨h0, h1, h2⟩ := h
  refine ⟨?_, ?_, ?_⟩
  · rw [World.cell?_setCell_other _ _ _ _ (by simp)]; exact h0
  · exact World.cell?_setCell_same w ⟨b, 1, none⟩ (.int .i64 k') h1
  · rw [World.frozen?_setCell]; exact h2

theorem drop_cons_L {l : List UInt8} {k : Nat} (h : k < l.length) : l.drop k = l[k] :: l.drop (k + 1) := List.drop_eq_getElem_cons h
theorem peekF_short {s : ByteArray} {k : Nat} (h : s.size ≤ k) : peekF ((L s).drop k) k = .short := by
  rw [List.drop_of_length_le (by rw [← size_L]; exact h)]; rfl
theorem peekF_long {s : ByteArray} {k : Nat} (h : k < s.size) (h4 : 400 ≤ k) : peekF ((L s).drop k) k = .bad 2 := by
  rw [drop_cons_L (by rw [← size_L]; exact h)]; simp [peekF, h4]
theorem peekF_ok {s : ByteArray} {k : Nat} (h : k < s.size) (h4 : k < 400) : peekF ((L s).drop k) k = .ok s[k] ((L s).drop k) k := by
  rw [drop_cons_L (by rw [← size_L]; exact h)]; simp [peekF, Nat.not_le.2 h4]; rfl

set_option maxRecDepth 20000 in
set_option maxHeartbeats 1000000 in
theorem need_calls (s m : ByteArray) (b k : Nat) (w : World) (h : Rd w b s k) (hk : k ≤ s.size) (hs : s.size ≤ 10000000) (hm : m.size ≤ 100) :
    Calls Tryz.prog 97 #[.pointer (some ⟨b, 0, none⟩), .string m] w (RdPost b s w (needF (L m) ((L s).drop k) k) (fun _ => .tuple #[])) := by
  generalize hF : needF (L m) ((L s).drop k) k = F
  have HF := Lib.hid hF
  clear hF
  go_enter Tryz.func97, Tryz.ntmps97
  go_wp2
  go_loopw [4, 7] (fun _ i wr => ∃ j k' : Nat, j ≤ m.size ∧ i = .int .i64 j ∧ Rd wr b s k' ∧ k' ≤ s.size ∧ w.grownBy wr (some b) ∧ Hid (F = needF ((L m).drop j) ((L s).drop k') k'))
     (fun _ i wr => m.size - (intOf i).toNat)
  case atStart => exact ⟨0, k, Nat.zero_le _, rfl, h, hk, World.grownBy.refl w _, HF.out.symm⟩
  case round =>
    obtain ⟨j, k', hj, rfl, hr, hk', hg, HF'⟩ := hrel
    by_cases hlt : j < m.size
    · have HE : Hid ((L m).drop j = m[j] :: (L m).drop (j + 1)) := drop_cons_L (by rw [← size_L]; exact hlt)
      have hj0 : (0 : Int) ≤ (j : Int) := by omega
      have hj1 : (j : Int) < (m.size : Int) := by omega
      rcases Nat.lt_or_ge k' s.size with hks | hks
      · rcases Nat.lt_or_ge k' 400 with h4 | h4
        · have HP : Hid (peekF ((L s).drop k') k' = .ok s[k'] ((L s).drop k') k') := peekF_ok hks h4
          have hrd := hr
          obtain ⟨c0, c1, c2⟩ := hrd
          by_cases hc : s[k'] = m[j]
          · have hb1 : ((s[k'].toNat : Int) != (m[j].toNat : Int)) = false := by rw [hc]; simp
            have HC := Lib.hid hc
            clear hc
            go_wp2_with fail
            refine wp_region_any (by kernel_rfl) ?_
            refine wpAny_take (i := 0) (v := ?_) rfl (by kernel_rfl) (by kernel_rfl) (by kernel_rfl) (fun _ _ _ h => h) (Or.inl ⟨by rfl, ?_⟩) ?_
            rotate_left
            · (intro w_; go_simp; try with_reducible rfl)
            refine wpAny_take (i := 2) (v := ?_) rfl (by kernel_rfl) (by kernel_rfl) (by kernel_rfl) (fun _ _ _ h => h) (Or.inl ⟨by rfl, ?_⟩) ?_
            rotate_left
            · (intro w_; go_simp; try with_reducible rfl)
            refine wpAny_take (i := 3) (v := ?_) rfl (by kernel_rfl) (by kernel_rfl) (by kernel_rfl) (fun _ _ _ h => h) (Or.inl ⟨by rfl, ?_⟩) ?_
            rotate_left
            · (intro w_; go_simp; try with_reducible rfl)
            refine wpAny_take (i := 4) (v := ?_) rfl (by kernel_rfl) (by kernel_rfl) (by kernel_rfl) (fun _ _ _ h => h) (Or.inl ⟨by rfl, ?_⟩) ?_
            rotate_left
            · (intro w_; go_simp; try with_reducible rfl)
            refine wpAny_ready (rs := [1]) (by kernel_rfl) (by simp) ?_
            refine AllReady.cons rfl (fun K_ hK_ => ?_) AllReady.nil
            go_simp
            refine (peek_ok s k' b _ (hr.drewN _) hks h4 hs).mono ?_
            rintro e w' ⟨rfl, n, rfl⟩
            refine hK_ _ _ ?_
            clear hK_ K_
            refine wpAny_ready (rs := [5]) (by kernel_rfl) (by simp) ?_
            refine AllReady.cons rfl (fun K_ hK_ => ?_) AllReady.nil
            go_simp
            refine hK_ _ _ ?_
            clear hK_ K_
            refine wpAny_done (by kernel_rfl) ?_ _
            go_wp2_with fail
            go_roundw
            case rel => exact ⟨j + 1, k' + 1, by omega, by go_num, Rd.step (Rd.drewN hr _) _, by omega, grown_setCell (grown_drewN hg _) (.inl rfl) _, by
                refine HF'.out.trans ?_
                rw [HE.out, needF, HP.out]
                simp only [Out.bind, HC.out, if_true, List.tail_drop]⟩
            case measure => simp [intOf]; omega
          · have hb1 : ((s[k'].toNat : Int) != (m[j].toNat : Int)) = true := by rw [bne_iff_ne]; exact fun e => hc ((u8_eq _ _).2 e)
            have HC := Lib.hid hc
            clear hc
            go_wp2_with fail
            refine wp_region_any (by kernel_rfl) ?_
            refine wpAny_take (i := 0) (v := ?_) rfl (by kernel_rfl) (by kernel_rfl) (by kernel_rfl) (fun _ _ _ h => h) (Or.inl ⟨by rfl, ?_⟩) ?_
            rotate_left
            · (intro w_; go_simp; try with_reducible rfl)
            refine wpAny_take (i := 2) (v := ?_) rfl (by kernel_rfl) (by kernel_rfl) (by kernel_rfl) (fun _ _ _ h => h) (Or.inl ⟨by rfl, ?_⟩) ?_
            rotate_left
            · (intro w_; go_simp; try with_reducible rfl)
            refine wpAny_take (i := 3) (v := ?_) rfl (by kernel_rfl) (by kernel_rfl) (by kernel_rfl) (fun _ _ _ h => h) (Or.inl ⟨by rfl, ?_⟩) ?_
            rotate_left
            · (intro w_; go_simp; try with_reducible rfl)
            refine wpAny_take (i := 4) (v := ?_) rfl (by kernel_rfl) (by kernel_rfl) (by kernel_rfl) (fun _ _ _ h => h) (Or.inl ⟨by rfl, ?_⟩) ?_
            rotate_left
            · (intro w_; go_simp; try with_reducible rfl)
            refine wpAny_ready (rs := [1]) (by kernel_rfl) (by simp) ?_
            refine AllReady.cons rfl (fun K_ hK_ => ?_) AllReady.nil
            go_simp
            refine (peek_ok s k' b _ (hr.drewN _) hks h4 hs).mono ?_
            rintro e w' ⟨rfl, n, rfl⟩
            refine hK_ _ _ ?_
            clear hK_ K_
            refine wpAny_ready (rs := [5]) (by kernel_rfl) (by simp) ?_
            refine AllReady.cons rfl (fun K_ hK_ => ?_) AllReady.nil
            go_simp
            refine hK_ _ _ ?_
            clear hK_ K_
            refine wpAny_done (by kernel_rfl) ?_ _
            go_wp2_with fail
            exact ⟨rfl, grown_drewN hg _, by rw [HF'.out, HE.out, needF, HP.out]; simp only [Out.bind, if_neg HC.out]; rfl⟩
        · have HP : Hid (peekF ((L s).drop k') k' = .bad 2) := peekF_long hks h4
          go_wp2_with fail
          refine wp_region_any (by kernel_rfl) ?_
          refine wpAny_take (i := 0) (v := ?_) rfl (by kernel_rfl) (by kernel_rfl) (by kernel_rfl) (fun _ _ _ h => h) (Or.inl ⟨by rfl, ?_⟩) ?_
          rotate_left
          · (intro w_; go_simp; try with_reducible rfl)
          refine wpAny_take (i := 2) (v := ?_) rfl (by kernel_rfl) (by kernel_rfl) (by kernel_rfl) (fun _ _ _ h => h) (Or.inl ⟨by rfl, ?_⟩) ?_
          rotate_left
          · (intro w_; go_simp; try with_reducible rfl)
          refine wpAny_take (i := 3) (v := ?_) rfl (by kernel_rfl) (by kernel_rfl) (by kernel_rfl) (fun _ _ _ h => h) (Or.inl ⟨by rfl, ?_⟩) ?_
          rotate_left
          · (intro w_; go_simp; try with_reducible rfl)
          refine wpAny_take (i := 4) (v := ?_) rfl (by kernel_rfl) (by kernel_rfl) (by kernel_rfl) (fun _ _ _ h => h) (Or.inl ⟨by rfl, ?_⟩) ?_
          rotate_left
          · (intro w_; go_simp; try with_reducible rfl)
          refine wpAny_ready (rs := [1]) (by kernel_rfl) (by simp) ?_
          refine AllReady.cons rfl (fun K_ hK_ => ?_) AllReady.nil
          go_simp
          refine (peek_long s k' b _ (hr.drewN _) hks h4 hs).mono ?_
          rintro e w' ⟨rfl, n, rfl⟩
          exact ⟨rfl, grown_drewN (grown_drewN hg _) _, by rw [HF'.out, HE.out, needF, HP.out]; rfl⟩
      · have HP : Hid (peekF ((L s).drop k') k' = .short) := peekF_short hks
        go_wp2_with fail
        refine wp_region_any (by kernel_rfl) ?_
        refine wpAny_take (i := 0) (v := ?_) rfl (by kernel_rfl) (by kernel_rfl) (by kernel_rfl) (fun _ _ _ h => h) (Or.inl ⟨by rfl, ?_⟩) ?_
        rotate_left
        · (intro w_; go_simp; try with_reducible rfl)
        refine wpAny_take (i := 2) (v := ?_) rfl (by kernel_rfl) (by kernel_rfl) (by kernel_rfl) (fun _ _ _ h => h) (Or.inl ⟨by rfl, ?_⟩) ?_
        rotate_left
        · (intro w_; go_simp; try with_reducible rfl)
        refine wpAny_take (i := 3) (v := ?_) rfl (by kernel_rfl) (by kernel_rfl) (by kernel_rfl) (fun _ _ _ h => h) (Or.inl ⟨by rfl, ?_⟩) ?_
        rotate_left
        · (intro w_; go_simp; try with_reducible rfl)
        refine wpAny_take (i := 4) (v := ?_) rfl (by kernel_rfl) (by kernel_rfl) (by kernel_rfl) (fun _ _ _ h => h) (Or.inl ⟨by rfl, ?_⟩) ?_
        rotate_left
        · (intro w_; go_simp; try with_reducible rfl)
        refine wpAny_ready (rs := [1]) (by kernel_rfl) (by simp) ?_
        refine AllReady.cons rfl (fun K_ hK_ => ?_) AllReady.nil
        go_simp
        refine (peek_short s k' b _ (hr.drewN _) hks hs (by omega)).mono ?_
        rintro e w' ⟨rfl, n, rfl⟩
        exact ⟨rfl, grown_drewN (grown_drewN hg _) _, by rw [HF'.out, HE.out, needF, HP.out]; rfl⟩
    · have HE : Hid ((L m).drop j = []) := List.drop_of_length_le (by rw [← size_L]; omega)
      go_wp2_with fail
      go_end0
      exact ⟨hg, by rw [HF'.out, HE.out]; exact ⟨rfl, rfl, hk', hr⟩⟩

/-- How a predicate's function is known: what it answers at each byte; no world is turned. -/
structure PredOk (f : Nat) (p : UInt8 → Bool) : Prop where
  enters : ∀ (args : Array Value) (w : World), (callFunc f args).run Tryz.prog w = .ok (.enter f args) w
  calls : ∀ (c : UInt8) (w : World), Calls Tryz.prog f #[.int .u8 c.toNat] w fun e w' => e = .returned (.bool (p c)) ∧ w = w'
theorem letter_ok : PredOk 159 letterB := ⟨fun _ _ => by kernel_rfl, letter_calls⟩
theorem blank_ok : PredOk 100 blankB := ⟨fun _ _ => by kernel_rfl, blank_calls⟩
theorem plain_ok : PredOk 103 plainB := ⟨fun _ _ => by kernel_rfl, plain_calls⟩

/-- As runF: but only where it ends. -/
def runTo (p : UInt8 → Bool) : List UInt8 → Nat → Out Unit
  | [], _ => .short
  | c :: r, k => if 400 ≤ k then .bad 2 else if p c then runTo p r (k + 1) else .ok () (c :: r) k
theorem runF_eq (p : UInt8 → Bool) : ∀ (r : List UInt8) (k : Nat), runF p r k = (runTo p r k).bind fun _ r' k' => .ok (r.take (k' - k)) r' k'
  | [], k => rfl
  | c :: r, k => by
    have key : ∀ (r : List UInt8) (k : Nat), ∀ r' k', runTo p r k = .ok () r' k' → k ≤ k' := by
      intro r
      induction r with
      | nil => intro k r' k' h; simp [runTo] at h
      | cons c r ih =>
        intro k r' k' h
        simp only [runTo] at h
        split at h
        · cases h
        · split at h
          · have := ih _ _ _ h; omega
          · injection h with _ _ h; omega
    simp only [runF, runTo]
    split
    · rfl
    · split
      · rw [runF_eq p r (k + 1)]
        cases h : runTo p r (k + 1) with
        | ok a r' k' =>
          have := key _ _ _ _ h
          simp only [Out.bind]
          rw [show k' - k = (k' - (k + 1)) + 1 by omega, List.take_succ_cons]
        | short => rfl
        | bad e => rfl
      · simp [Out.bind]
theorem runTo_short {p : UInt8 → Bool} {s : ByteArray} {k : Nat} (h : s.size ≤ k) : runTo p ((L s).drop k) k = .short := by
  rw [List.drop_of_length_le (by rw [← size_L]; exact h)]; rfl
theorem runTo_long {p : UInt8 → Bool} {s : ByteArray} {k : Nat} (h : k < s.size) (h4 : 400 ≤ k) : runTo p ((L s).drop k) k = .bad 2 := by
  rw [drop_cons_L (by rw [← size_L]; exact h)]; simp [runTo, h4]
theorem runTo_stop {p : UInt8 → Bool} {s : ByteArray} {k : Nat} (h : k < s.size) (h4 : k < 400) (hp : p s[k] = false) : runTo p ((L s).drop k) k = .ok () ((L s).drop k) k := by
  have e := drop_cons_L (l := L s) (k := k) (by rw [← size_L]; exact h)
  rw [e, runTo, if_neg (by omega), if_neg (by rw [← getElem_L s k h, hp]; simp)]
theorem runTo_go {p : UInt8 → Bool} {s : ByteArray} {k : Nat} (h : k < s.size) (h4 : k < 400) (hp : p s[k] = true) :
    runTo p ((L s).drop k) k = runTo p ((L s).drop (k + 1)) (k + 1) := by
  have e := drop_cons_L (l := L s) (k := k) (by rw [← size_L]; exact h)
  rw [e, runTo, if_neg (by omega), if_pos (by rw [← getElem_L s k h, hp])]

set_option maxRecDepth 20000 in
set_option maxHeartbeats 1000000 in
theorem run_calls (f : Nat) (p : UInt8 → Bool) (hp : PredOk f p) (s : ByteArray) (b k : Nat) (w : World) (h : Rd w b s k) (hk : k ≤ s.size) (hs : s.size ≤ 10000000) :
    Calls Tryz.prog 99 #[.pointer (some ⟨b, 0, none⟩), .func (.func f) #[] #[]] w (RdPost b s w (runF p ((L s).drop k) k) (fun l => .string (bs l))) := by
  have hen := hp.enters
  have HP0 := Lib.hid hp
  clear hp
  generalize hF : runTo p ((L s).drop k) k = F
  have HF := Lib.hid hF
  clear hF
  obtain ⟨c0, c1, c2⟩ := id h
  go_enter Tryz.func99, Tryz.ntmps99
  go_wp2_with fail
  clear c0 c1 c2
  go_loopw [] (fun wr => ∃ k' : Nat, k ≤ k' ∧ Rd wr b s k' ∧ k' ≤ s.size ∧ w.grownBy wr (some b) ∧ Hid (F = runTo p ((L s).drop k') k'))
     (fun wr => s.size - (intOf ((wr.cell? ⟨b, 1, none⟩).getD undef)).toNat)
  case atStart => exact ⟨k, Nat.le_refl _, h, hk, World.grownBy.refl w _, HF.out.symm⟩
  case round =>
    obtain ⟨k', hkk, hr, hk', hg, HF'⟩ := hrel
    obtain ⟨c0, c1, c2⟩ := id hr
    rcases Nat.lt_or_ge k' s.size with hks | hks
    · rcases Nat.lt_or_ge k' 400 with h4 | h4
      · cases hpc : p s[k'] with
        | true =>
          have HC := Lib.hid hpc
          clear hpc
          go_wp2_with fail
          refine (peek_ok s k' b _ hr hks h4 hs).mono ?_
          rintro e w' ⟨rfl, n, rfl⟩
          go_wp2_with fail
          refine (HP0.out.calls _ _).mono ?_
          rintro e w' ⟨rfl, rfl⟩
          have hpt : p s[k'] = true := HC.out
          go_wp2_with fail
          go_roundw
          case rel => exact ⟨k' + 1, by omega, Rd.step (Rd.drewN hr _) _, by omega, grown_setCell (grown_drewN hg _) (.inl rfl) _, by
            refine HF'.out.trans ?_
            exact runTo_go hks h4 HC.out⟩
          case measure =>
            have e1 := (Rd.step (Rd.drewN hr n) (k' + 1)).2.1
            simp only [Int.natCast_add, Int.natCast_one] at e1
            rw [c1]
            simp [intOf, e1]
            omega
        | false =>
          have HC := Lib.hid hpc
          clear hpc
          go_wp2_with fail
          refine (peek_ok s k' b _ hr hks h4 hs).mono ?_
          rintro e w' ⟨rfl, n, rfl⟩
          go_wp2_with fail
          refine (HP0.out.calls _ _).mono ?_
          rintro e w' ⟨rfl, rfl⟩
          have hpt : p s[k'] = false := HC.out
          go_wp2_with fail
          go_quiet (fail)
          go_wp2_with fail
          go_ret
          refine ⟨grown_drewN (grown_drewN hg _) _, ?_⟩
          rw [runF_eq, HF.out, HF'.out, runTo_stop hks h4 HC.out]
          exact ⟨ret_eq (congrArg Value.string (L_ext (by rw [L_extract, L_bs, List.drop_take]))), rfl, hk', hr⟩
      · go_wp2_with fail
        refine (peek_long s k' b _ hr hks h4 hs).mono ?_
        rintro e w' ⟨rfl, n, rfl⟩
        exact ⟨rfl, grown_drewN hg _, by rw [runF_eq, HF.out, HF'.out, runTo_long hks h4]; rfl⟩
    · go_wp2_with fail
      refine (peek_short s k' b _ hr hks hs (by omega)).mono ?_
      rintro e w' ⟨rfl, n, rfl⟩
      exact ⟨rfl, grown_drewN hg _, by rw [runF_eq, HF.out, HF'.out, runTo_short hks]; rfl⟩

set_option maxRecDepth 20000 in
set_option maxHeartbeats 1000000 in
theorem name_calls (s : ByteArray) (b k : Nat) (w : World) (h : Rd w b s k) (hk : k ≤ s.size) (hs : s.size ≤ 10000000) :
    Calls Tryz.prog 98 #[.pointer (some ⟨b, 0, none⟩)] w (RdPost b s w (nameF ((L s).drop k) k) (fun l => .string (bs l))) := by
  have hc := run_calls _ _ letter_ok s b k w h hk hs
  cases hF : runF letterB ((L s).drop k) k with
  | ok l r k' =>
    rw [hF] at hc
    have HC := Lib.hid hc
    have HF := Lib.hid hF
    clear hc hF
    go_enter Tryz.func98, Tryz.ntmps98
    go_wp2_with fail
    refine HC.out.mono ?_
    rintro e w' ⟨hg, rfl, hr, hk2, hrd⟩
    have HR := Lib.hid hr
    clear hr
    go_wp2_with fail
    · refine ⟨rfl, hg, ?_⟩
      have e : l = [] := by
        have : (bs l).toList.isEmpty = true := by assumption
        simpa [toList_bs] using this
      rw [nameF, HF.out]
      simp [Out.bind, e, raised, errV]
    · go_ret
      refine ⟨hg, ?_⟩
      have e : l ≠ [] := by
        have : (bs l).toList.isEmpty = false := by assumption
        simpa [toList_bs] using this
      rw [nameF, HF.out]
      simp only [Out.bind, if_neg e]
      exact ⟨rfl, HR.out, hk2, hrd⟩
  | short =>
    rw [hF] at hc
    have HC := Lib.hid hc
    have HF := Lib.hid hF
    clear hc hF
    go_enter Tryz.func98, Tryz.ntmps98
    go_wp2_with fail
    refine HC.out.mono ?_
    rintro e w' ⟨hg, rfl⟩
    exact ⟨rfl, hg, by rw [nameF, HF.out]; rfl⟩
  | bad n =>
    rw [hF] at hc
    have HC := Lib.hid hc
    have HF := Lib.hid hF
    clear hc hF
    go_enter Tryz.func98, Tryz.ntmps98
    go_wp2_with fail
    refine HC.out.mono ?_
    rintro e w' ⟨hg, rfl⟩
    exact ⟨rfl, hg, by rw [nameF, HF.out]; rfl⟩

theorem peekF_cases {s : ByteArray} {k : Nat} : (peekF ((L s).drop k) k = .short ∧ s.size ≤ k) ∨ (peekF ((L s).drop k) k = .bad 2 ∧ k < s.size ∧ 400 ≤ k) ∨
    ∃ h : k < s.size, peekF ((L s).drop k) k = .ok s[k] ((L s).drop k) k ∧ k < 400 := by
  rcases Nat.lt_or_ge k s.size with h | h
  · rcases Nat.lt_or_ge k 400 with h4 | h4
    · exact .inr (.inr ⟨h, peekF_ok h h4, h4⟩)
    · exact .inr (.inl ⟨peekF_long h h4, h, h4⟩)
  · exact .inl ⟨peekF_short h, h⟩

/-- What the reader panics with, where it does not read. -/
def fails {α : Type} (o : Out α) (x : Value) : Prop := (o = .short ∧ x = shortV) ∨ ∃ n, o = .bad n ∧ x = errV n
theorem fails_bind {α β : Type} {o : Out α} {f : α → List UInt8 → Nat → Out β} {x : Value} (h : fails o x) : fails (o.bind f) x := by
  rcases h with ⟨rfl, rfl⟩ | ⟨n, rfl, rfl⟩
  · exact .inl ⟨rfl, rfl⟩
  · exact .inr ⟨n, rfl, rfl⟩
theorem RdPost.cases {α : Type} {b : Nat} {s : ByteArray} {w w' : World} {o : Out α} {val : α → Value} {e : Ending} (h : RdPost b s w o val e w') :
    w.grownBy w' (some b) ∧ ((∃ x, e = raised x ∧ Hid (fails o x)) ∨ ∃ a r k, Hid (o = .ok a r k) ∧ e = .returned (val a) ∧ Hid (r = (L s).drop k) ∧ k ≤ s.size ∧ Rd w' b s k) := by
  obtain ⟨hg, h⟩ := h
  refine ⟨hg, ?_⟩
  cases o with
  | ok a r k => exact .inr ⟨a, r, k, rfl, h.1, h.2.1, h.2.2.1, h.2.2.2⟩
  | short => exact .inl ⟨_, h, .inl ⟨rfl, rfl⟩⟩
  | bad n => exact .inl ⟨_, h, .inr ⟨n, rfl, rfl⟩⟩
theorem peek_calls (s : ByteArray) (k b : Nat) (w : World) (h : Rd w b s k) (hk : k ≤ s.size) (hs : s.size ≤ 10000000) :
    Calls Tryz.prog 101 #[.pointer (some ⟨b, 0, none⟩)] w fun e w' => (∃ n, w' = w.drewN n) ∧
      ((∃ x, e = raised x ∧ Hid (fails (peekF ((L s).drop k) k) x)) ∨ ∃ c, Hid (peekF ((L s).drop k) k = .ok c ((L s).drop k) k) ∧ e = .returned (.int .u8 c.toNat) ∧ k < s.size) := by
  rcases peekF_cases (s := s) (k := k) with ⟨e, h1⟩ | ⟨e, h1, h2⟩ | ⟨h1, e, h2⟩
  · exact (peek_short s k b w h h1 hs (by omega)).mono fun _ _ ⟨a, n, b⟩ => ⟨⟨n, b⟩, .inl ⟨_, a, .inl ⟨e, rfl⟩⟩⟩
  · exact (peek_long s k b w h h1 h2 hs).mono fun _ _ ⟨a, n, b⟩ => ⟨⟨n, b⟩, .inl ⟨_, a, .inr ⟨2, e, rfl⟩⟩⟩
  · exact (peek_ok s k b w h h1 h2 hs).mono fun _ _ ⟨a, n, b⟩ => ⟨⟨n, b⟩, .inr ⟨_, e, a, h1⟩⟩
end Go.Proofs.YtijpfcjlochahaaGreatDoor
