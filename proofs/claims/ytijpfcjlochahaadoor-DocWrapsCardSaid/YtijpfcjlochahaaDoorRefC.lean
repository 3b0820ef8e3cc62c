/- The walks of the reference's reader of tags: goes, next, fail, need, letter, blank. The walks of the reference's reader of tags: name, blanks, value. The walks of the reference's reader of tags: blanks; name and value at any state. -/
import Derived.Test.YtijpfcjlochahaaDoorRefP
import Derived.Test.YtijpfcjlochahaaDoorLexB
namespace Go.Proofs.YtijpfcjlochahaaDoor
open Go Go.RowKit

/-- The reader's fields at a state. -/
def rsIs (s : ByteArray) : Rs → Int → Int → Bool → Prop
  | .go k, a, z, sh => k ≤ s.size ∧ a = k ∧ z = 0 ∧ sh = false
  | .short, _, z, sh => z = 0 ∧ sh = true
  | .bad n, _, z, sh => z = n ∧ n ≠ 0 ∧ sh = false
def rCells (s : ByteArray) (a z : Int) (sh : Bool) : Array Value := #[.string s, .int .i64 a, .int .i64 z, .bool sh]
def RsIn (w : World) (b : Nat) (s : ByteArray) (x : Rs) : Prop := ∃ a z sh, Blk w b 115 (rCells s a z sh) ∧ rsIs s x a z sh
theorem RsIn.lt {w : World} {b : Nat} {s : ByteArray} {x : Rs} (h : RsIn w b s x) : b < w.heap.size := by
  obtain ⟨a, z, sh, hb, _⟩ := h
  exact hb.lt
theorem RsIn.grown {w w' : World} {b : Nat} {s : ByteArray} {x : Rs} {row : Option Nat} (h : RsIn w b s x) (hg : w.grownBy w' row) (hr : some b ≠ row) : RsIn w' b s x := by
  obtain ⟨a, z, sh, hb, hi⟩ := h
  exact ⟨a, z, sh, hb.grown hg hr, hi⟩
theorem RsIn.below {w w' : World} {b : Nat} {s : ByteArray} {x : Rs} (h : RsIn w b s x) (hb : Below w.heap.size w w') : RsIn w' b s x := by
  obtain ⟨a, z, sh, h1, hi⟩ := h
  exact ⟨a, z, sh, h1.below hb h1.lt, hi⟩
theorem RsIn.drewN {w : World} {b : Nat} {s : ByteArray} {x : Rs} (h : RsIn w b s x) (n : Nat) : RsIn (w.drewN n) b s x := h
/-- Its cells. -/
theorem rblk {w : World} {b : Nat} {s : ByteArray} {a z : Int} {sh : Bool} (h : Blk w b 115 (rCells s a z sh)) :
    (w.cell? ⟨b, 0, none⟩ = some (.string s) ∧ w.cell? ⟨b, 1, none⟩ = some (.int .i64 a) ∧ w.cell? ⟨b, 2, none⟩ = some (.int .i64 z) ∧ w.cell? ⟨b, 3, none⟩ = some (.bool sh)) ∧
      w.frozen? ⟨b, 1, none⟩ = false ∧ w.frozen? ⟨b, 2, none⟩ = false ∧ w.frozen? ⟨b, 3, none⟩ = false :=
  ⟨⟨h.cell 0, h.cell 1, h.cell 2, h.cell 3⟩, h.frozen 1, h.frozen 2, h.frozen 3⟩
theorem rset1 {w : World} {b : Nat} {s : ByteArray} {a z : Int} {sh : Bool} (h : Blk w b 115 (rCells s a z sh)) (n : Int) : Blk (w.setCell ⟨b, 1, none⟩ (.int .i64 n)) b 115 (rCells s n z sh) := h.set_ 1 _
theorem rset2 {w : World} {b : Nat} {s : ByteArray} {a z : Int} {sh : Bool} (h : Blk w b 115 (rCells s a z sh)) (n : Int) : Blk (w.setCell ⟨b, 2, none⟩ (.int .i64 n)) b 115 (rCells s a n sh) := h.set_ 2 _
theorem rset3 {w : World} {b : Nat} {s : ByteArray} {a z : Int} {sh : Bool} (h : Blk w b 115 (rCells s a z sh)) (q : Bool) : Blk (w.setCell ⟨b, 3, none⟩ (.bool q)) b 115 (rCells s a z q) := h.set_ 3 _

theorem rletter_calls (c : UInt8) (w : World) : Calls Tryd.prog 135 #[.int .u8 c.toNat] w fun e w' => e = .returned (.bool (letterB c)) ∧ w = w' := by
  go_enter Tryd.func135, Tryd.ntmps135
  go_wp2
  all_goals
    go_ret
    refine ⟨ret_bool ?_, rfl⟩
    simp only [letterB, u8_beq, u8_le, UInt8.reduceToNat]
    first | rfl | (simp [*]; done) | (simp [*]; omega)
theorem rblank_calls (c : UInt8) (w : World) : Calls Tryd.prog 136 #[.int .u8 c.toNat] w fun e w' => e = .returned (.bool (blankB c)) ∧ w = w' := by
  go_enter Tryd.func136, Tryd.ntmps136
  go_wp2
  all_goals
    go_ret
    refine ⟨ret_bool ?_, rfl⟩
    simp only [blankB, u8_beq, UInt8.reduceToNat]
    first | rfl | (simp [*]; done)

set_option maxRecDepth 20000 in
set_option maxHeartbeats 400000 in
theorem goes_calls (s : ByteArray) (b : Nat) (x : Rs) (w : World) (h : RsIn w b s x) :
    Calls Tryd.prog 127 #[.pointer (some ⟨b, 0, none⟩)] w fun e w' => e = .returned (.bool x.live) ∧ w = w' := by
  obtain ⟨a, z, sh, hb, hi⟩ := h
  obtain ⟨⟨c0, c1, c2, c3⟩, f1, f2, f3⟩ := rblk hb
  cases x with
  | go k =>
    obtain ⟨hk, rfl, rfl, rfl⟩ := hi
    go_enter Tryd.func127, Tryd.ntmps127
    go_wp2_with fail
    go_ret
    exact ⟨rfl, rfl⟩
  | short =>
    obtain ⟨rfl, rfl⟩ := hi
    go_enter Tryd.func127, Tryd.ntmps127
    go_wp2_with fail
    go_ret
    exact ⟨rfl, rfl⟩
  | bad n =>
    obtain ⟨rfl, hz, rfl⟩ := hi
    have hz1 : (z == 0) = false := by rw [beq_eq_false_iff_ne]; exact hz
    clear hz
    go_enter Tryd.func127, Tryd.ntmps127
    go_wp2_with fail
    go_ret
    exact ⟨rfl, rfl⟩

/-- The byte that next answers. -/
def nextC (s : List UInt8) : Rs → UInt8
  | .go k => match peekF (s.drop k) k with
    | .ok c _ _ => c
    | _ => 0
  | _ => 0
set_option maxRecDepth 20000 in
set_option maxHeartbeats 1000000 in
theorem next_calls (s : ByteArray) (b : Nat) (x : Rs) (w : World) (h : RsIn w b s x) (hs : s.size ≤ 10000000) :
    Calls Tryd.prog 128 #[.pointer (some ⟨b, 0, none⟩)] w fun e w' => e = .returned (.int .u8 (nextC (L s) x).toNat) ∧ RsIn w' b s (x.after (L s) peekF) ∧ w.grownBy w' (some b) := by
  obtain ⟨a, z, sh, hb, hi⟩ := h
  have HB := Lib.hid hb
  obtain ⟨⟨c0, c1, c2, c3⟩, f1, f2, f3⟩ := rblk hb
  clear hb
  cases x with
  | go k =>
    obtain ⟨hk, rfl, rfl, rfl⟩ := hi
    rcases Nat.lt_or_ge k s.size with hks | hks
    · rcases Nat.lt_or_ge k 400 with h4 | h4
      · go_enter Tryd.func128, Tryd.ntmps128
        go_wp2_with fail
        go_quiet (fail)
        go_wp2_with fail
        go_quiet (fail)
        go_wp2_with fail
        go_ret
        refine ⟨?_, ⟨_, _, _, HB.out, ?_⟩, grown_drewN (grown_drewN (grown_refl _ _) _) _⟩
        · rw [nextC, peekF_ok hks h4]; rfl
        · rw [Rs.after, peekF_ok hks h4]
          exact ⟨hk, rfl, rfl, rfl⟩
      · go_enter Tryd.func128, Tryd.ntmps128
        go_wp2_with fail
        go_quiet (fail)
        go_wp2_with fail
        go_ret
        refine ⟨?_, ⟨_, _, _, rset2 HB.out 2, ?_⟩, grown_setCell (grown_drewN (grown_refl _ _) _) (.inl rfl) _⟩
        · rw [nextC, peekF_long hks h4]; rfl
        · rw [Rs.after, peekF_long hks h4]
          exact ⟨rfl, by decide, rfl⟩
    · go_enter Tryd.func128, Tryd.ntmps128
      go_wp2_with fail
      go_quiet (fail)
      go_wp2_with fail
      go_ret
      refine ⟨?_, ⟨_, _, _, rset3 HB.out true, ?_⟩, grown_setCell (grown_drewN (grown_refl _ _) _) (.inl rfl) _⟩
      · rw [nextC, peekF_short hks]; rfl
      · rw [Rs.after, peekF_short hks]
        exact ⟨rfl, rfl⟩
  | short =>
    obtain ⟨rfl, rfl⟩ := hi
    go_enter Tryd.func128, Tryd.ntmps128
    go_wp2_with fail
    go_ret
    exact ⟨rfl, ⟨_, _, _, HB.out, rfl, rfl⟩, grown_refl _ _⟩
  | bad n =>
    obtain ⟨rfl, hz, rfl⟩ := hi
    have HZ := Lib.hid hz
    have hz1 : (z != 0) = true := by rw [bne_iff_ne]; exact hz
    clear hz
    go_enter Tryd.func128, Tryd.ntmps128
    go_wp2_with fail
    go_ret
    exact ⟨rfl, ⟨_, _, _, HB.out, rfl, HZ.out, rfl⟩, grown_refl _ _⟩

set_option maxRecDepth 20000 in
set_option maxHeartbeats 1000000 in
theorem fail_calls (s : ByteArray) (b : Nat) (x : Rs) (n : Int) (hn : n ≠ 0) (w : World) (h : RsIn w b s x) :
    Calls Tryd.prog 129 #[.pointer (some ⟨b, 0, none⟩), .int .i64 n] w fun e w' => e = .returned (.tuple #[]) ∧ RsIn w' b s (x.fail n) ∧ w.grownBy w' (some b) := by
  have HN := Lib.hid hn
  clear hn
  cases x with
  | go k =>
    have H := Lib.hid h
    obtain ⟨a, z, sh, hb, hi⟩ := h
    have HB := Lib.hid hb
    obtain ⟨hk, rfl, rfl, rfl⟩ := hi
    obtain ⟨⟨c0, c1, c2, c3⟩, f1, f2, f3⟩ := rblk hb
    clear hb
    go_enter Tryd.func129, Tryd.ntmps129
    go_wp2_with fail
    refine (goes_calls s b _ w H.out).mono ?_
    rintro e w1 ⟨rfl, rfl⟩
    have hlive : Rs.live (.go k) = true := rfl
    go_wp2_with fail
    go_end0
    exact ⟨rfl, ⟨_, _, _, rset2 HB.out n, rfl, HN.out, rfl⟩, grown_setCell (grown_refl _ _) (.inl rfl) _⟩
  | short =>
    have H := Lib.hid h
    clear h
    go_enter Tryd.func129, Tryd.ntmps129
    go_wp2_with fail
    refine (goes_calls s b _ w H.out).mono ?_
    rintro e w1 ⟨rfl, rfl⟩
    have hlive : Rs.live .short = false := rfl
    go_wp2_with fail
    go_end0
    exact ⟨rfl, H.out, grown_refl _ _⟩
  | bad z =>
    have H := Lib.hid h
    clear h
    go_enter Tryd.func129, Tryd.ntmps129
    go_wp2_with fail
    refine (goes_calls s b _ w H.out).mono ?_
    rintro e w1 ⟨rfl, rfl⟩
    have hlive : Rs.live (.bad z) = false := rfl
    go_wp2_with fail
    go_end0
    exact ⟨rfl, H.out, grown_refl _ _⟩

theorem need_state (s : List UInt8) (c : UInt8) (x : Rs) : x.after s (needF [c]) = match x.after s peekF with
    | .go k => if nextC s x = c then .go (k + 1) else .bad 40
    | d => d := by
  cases x with
  | go k =>
    rw [Rs.after, Rs.after, nextC, needF]
    cases h : peekF (s.drop k) k with
    | ok y r k1 =>
      by_cases hc : y = c
      · simp only [Out.bind, Rs.of, if_pos hc, needF]
      · simp only [Out.bind, Rs.of, if_neg hc]
    | short => rfl
    | bad n => rfl
  | short => rfl
  | bad n => rfl
theorem after_peek_lt {s : ByteArray} {x : Rs} {k : Nat} (h : x.after (L s) peekF = .go k) : k < s.size := by
  cases x with
  | go j =>
    rw [Rs.after] at h
    cases hp : peekF ((L s).drop j) j with
    | ok y r k1 =>
      rw [hp] at h
      injection h with h
      subst h
      obtain ⟨rfl, rfl, -, t, ht⟩ := peekF_inv hp
      have := congrArg List.length ht
      rw [List.length_drop, List.length_cons, ← size_L] at this
      omega
    | short => rw [hp] at h; cases h
    | bad n => rw [hp] at h; cases h
  | short => cases h
  | bad n => cases h
set_option maxRecDepth 20000 in
set_option maxHeartbeats 1000000 in
theorem rneed_calls (s : ByteArray) (b : Nat) (x : Rs) (c : UInt8) (w : World) (h : RsIn w b s x) (hs : s.size ≤ 10000000) :
    Calls Tryd.prog 126 #[.pointer (some ⟨b, 0, none⟩), .int .u8 c.toNat] w fun e w' => e = .returned (.tuple #[]) ∧ RsIn w' b s (x.after (L s) (needF [c])) ∧ w.grownBy w' (some b) := by
  rw [need_state]
  have HL := Lib.hid (fun k => after_peek_lt (s := s) (x := x) (k := k))
  have HN := Lib.hid (next_calls s b x w h hs)
  clear h
  generalize nextC (L s) x = d at *
  generalize x.after (L s) peekF = y at *
  go_enter Tryd.func126, Tryd.ntmps126
  go_wp2_with fail
  refine HN.out.mono ?_
  rintro e w1 ⟨rfl, h1, hg1⟩
  have H1 := Lib.hid h1
  have HG1 := Lib.hid hg1
  clear hg1
  go_wp2_with fail
  refine (goes_calls s b _ w1 H1.out).mono ?_
  rintro e w2 ⟨rfl, rfl⟩
  cases y with
  | go k =>
    have hlive : Rs.live (.go k) = true := rfl
    have hk := HL.out k rfl
    obtain ⟨a, z, sh, hb, hi⟩ := h1
    have HB := Lib.hid hb
    obtain ⟨hk0, rfl, rfl, rfl⟩ := hi
    obtain ⟨⟨c0, c1, c2, c3⟩, f1, f2, f3⟩ := rblk hb
    clear hb
    by_cases hc : d = c
    · have hc1 : ((d.toNat : Int) != (c.toNat : Int)) = false := by rw [hc]; simp
      have HC := Lib.hid hc
      clear hc
      go_wp2_with fail
      refine (goes_calls s b _ w1 H1.out).mono ?_
      rintro e w3 ⟨rfl, rfl⟩
      go_wp2_with fail
      go_end0
      refine ⟨rfl, ⟨_, _, _, rset1 HB.out ((k : Int) + 1), ?_⟩, grown_setCell HG1.out (.inl rfl) _⟩
      exact ⟨hk, by omega, rfl, rfl⟩
    · have hc1 : ((d.toNat : Int) != (c.toNat : Int)) = true := by rw [bne_iff_ne]; exact fun e => hc ((u8_eq _ _).2 e)
      have HC := Lib.hid hc
      clear hc
      have H2 : Hid (RsIn (w1.setCell ⟨b, 2, none⟩ (.int .i64 40)) b s (.bad 40)) := ⟨_, _, _, rset2 HB.out 40, rfl, by decide, rfl⟩
      have hlive2 : Rs.live (.bad 40) = false := rfl
      go_wp2_with fail
      refine (goes_calls s b _ _ H2.out).mono ?_
      rintro e w3 ⟨rfl, rfl⟩
      go_wp2_with fail
      go_end0
      refine ⟨rfl, ?_, grown_setCell HG1.out (.inl rfl) _⟩
      exact H2.out
  | short =>
    have hlive : Rs.live .short = false := rfl
    clear h1
    go_wp2_with fail
    refine (goes_calls s b _ w1 H1.out).mono ?_
    rintro e w3 ⟨rfl, rfl⟩
    go_wp2_with fail
    go_end0
    exact ⟨rfl, H1.out, HG1.out⟩
  | bad n =>
    have hlive : Rs.live (.bad n) = false := rfl
    clear h1
    go_wp2_with fail
    refine (goes_calls s b _ w1 H1.out).mono ?_
    rintro e w3 ⟨rfl, rfl⟩
    go_wp2_with fail
    go_end0
    exact ⟨rfl, H1.out, HG1.out⟩
end Go.Proofs.YtijpfcjlochahaaDoor
namespace Go.Proofs.YtijpfcjlochahaaDoor
open Go Go.RowKit

theorem dead_after {α : Type} {s : List UInt8} {x : Rs} (h : x.live = false) (f : List UInt8 → Nat → Out α) : x.after s f = x := by
  cases x with
  | go k => cases h
  | short => rfl
  | bad n => rfl
theorem dead_fail {x : Rs} (h : x.live = false) (n : Int) : x.fail n = x := by
  cases x with
  | go k => cases h
  | short => rfl
  | bad n => rfl
theorem live_go {x : Rs} (h : x.live = true) : ∃ k, x = .go k := by
  cases x with
  | go k => exact ⟨k, rfl⟩
  | short => cases h
  | bad n => cases h
theorem peek_idem {s : List UInt8} {x y : Rs} (h : y = x.after s peekF) : y.after s peekF = y := by
  subst h
  cases x with
  | go k =>
    rw [Rs.after]
    cases hp : peekF (s.drop k) k with
    | ok c r k1 =>
      obtain ⟨rfl, rfl, _⟩ := peekF_inv hp
      show Rs.of (peekF (s.drop k1) k1) = _
      rw [hp]
    | short => rfl
    | bad n => rfl
  | short => rfl
  | bad n => rfl
theorem peek_pred (p : UInt8 → Bool) (s : ByteArray) (k : Nat) :
    ((((Rs.go k).after (L s) peekF).live && p (nextC (L s) (.go k))) = true → k < s.size ∧ k < 400 ∧ (Rs.go k).after (L s) peekF = .go k ∧ runTo p ((L s).drop k) k = runTo p ((L s).drop (k + 1)) (k + 1)) ∧
    ((((Rs.go k).after (L s) peekF).live && p (nextC (L s) (.go k))) = false → Rs.of (runTo p ((L s).drop k) k) = (Rs.go k).after (L s) peekF ∧ ∀ k', (Rs.go k).after (L s) peekF = .go k' → k' = k ∧ runTo p ((L s).drop k) k = .ok () ((L s).drop k) k) := by
  rcases Nat.lt_or_ge k s.size with hks | hks
  · rcases Nat.lt_or_ge k 400 with h4 | h4
    · have e1 : (Rs.go k).after (L s) peekF = .go k := by rw [Rs.after, peekF_ok hks h4]; rfl
      have e2 : nextC (L s) (.go k) = s[k] := by rw [nextC, peekF_ok hks h4]
      rw [e1, e2]
      refine ⟨fun h => ⟨hks, h4, rfl, runTo_go hks h4 (by simpa [Rs.live] using h)⟩, fun h => ?_⟩
      have hp : p s[k] = false := by simpa [Rs.live] using h
      rw [runTo_stop hks h4 hp]
      exact ⟨rfl, fun k' h => by injection h with h; exact ⟨h.symm, rfl⟩⟩
    · have e1 : (Rs.go k).after (L s) peekF = .bad 2 := by rw [Rs.after, peekF_long hks h4]; rfl
      rw [e1, runTo_long hks h4]
      exact ⟨fun h => (by cases h), fun _ => ⟨rfl, fun k' h => (by cases h)⟩⟩
  · have e1 : (Rs.go k).after (L s) peekF = .short := by rw [Rs.after, peekF_short hks]; rfl
    rw [e1, runTo_short hks]
    exact ⟨fun h => (by cases h), fun _ => ⟨rfl, fun k' h => (by cases h)⟩⟩
theorem ext_snoc (s : ByteArray) {i k : Nat} (h : i ≤ k) : s.extract i k ++ s.extract k (k + 1) = s.extract i (k + 1) := by
  apply L_ext
  rw [L_append, L_extract, L_extract, L_extract, List.drop_take, List.drop_take, List.drop_take, show k + 1 - i = (k - i) + (k + 1 - k) by omega, List.take_add, List.drop_drop, show i + (k - i) = k by omega]
theorem runF_of {p : UInt8 → Bool} {s : List UInt8} {k : Nat} {y : Rs} {F : Out Unit} (hF : F = runTo p (s.drop k) k) (hy : Rs.of F = y) : Rs.of (runF p (s.drop k) k) = y := by
  rw [runF_eq, ← hF, ← hy]
  cases F <;> rfl
/-- What is returned where the reader goes on: a text. -/
def StrPost (b : Nat) (s : ByteArray) (w : World) (x : Rs) (f : List UInt8 → Nat → Out (List UInt8)) (e : Ending) (w' : World) : Prop :=
  (∃ v : ByteArray, e = .returned (.string v) ∧ v.size ≤ 10000000 ∧ ∀ k l r k', x = .go k → f ((L s).drop k) k = .ok l r k' → L v = l) ∧ RsIn w' b s (x.after (L s) f) ∧ w.grownBy w' (some b)
theorem run_text {p : UInt8 → Bool} {s : ByteArray} {k k' : Nat} {y : Rs} {F : Out Unit} (hF : F = runTo p ((L s).drop k) k) (hy : Rs.of F = y) (hk : ∀ k2, y = .go k2 → k2 = k' ∧ F = .ok () ((L s).drop k') k') :
    ∀ l r k2, runF p ((L s).drop k) k = .ok l r k2 → L (s.extract k k') = l := by
  intro l r k2 h
  have h1 := runF_of hF hy
  rw [h] at h1
  obtain ⟨-, h3⟩ := hk k2 h1.symm
  rw [runF_eq, ← hF, h3] at h
  injection h with h _ _
  rw [← h, L_extract, List.drop_take]

set_option maxRecDepth 20000 in
set_option maxHeartbeats 2000000 in
theorem value_live (s : ByteArray) (b k : Nat) (w : World) (h : RsIn w b s (.go k)) (hs : s.size ≤ 10000000) :
    Calls Tryd.prog 137 #[.pointer (some ⟨b, 0, none⟩)] w (StrPost b s w (.go k) (runF plainB)) := by
  generalize hF : runTo plainB ((L s).drop k) k = F
  have HF := Lib.hid hF
  clear hF
  go_enter Tryd.func137, Tryd.ntmps137
  go_wp2_with fail
  go_loopw [3] (fun o wr => ∃ (q : ByteArray) (k' : Nat), o = .string q ∧ k ≤ k' ∧ RsIn wr b s (.go k') ∧ w.grownBy wr (some b) ∧ Hid (q = s.extract k k') ∧ Hid (F = runTo plainB ((L s).drop k') k'))
     (fun _ wr => s.size - (intOf ((wr.cell? ⟨b, 1, none⟩).getD undef)).toNat)
  case atStart => exact ⟨_, k, rfl, Nat.le_refl _, h, World.grownBy.refl w _, by rw [Hid]; exact L_ext (by rw [L_extract, List.drop_take, Nat.sub_self]; rfl), HF.out.symm⟩
  case round =>
    obtain ⟨q, k', rfl, hkk, hr, hg, HQ, HF'⟩ := hrel
    have HR := Lib.hid hr
    have HPP := Lib.hid (peek_pred plainB s k')
    have HKS : Hid (k' ≤ s.size) := by obtain ⟨_, _, _, _, hi⟩ := hr; exact hi.1
    have HM : Hid ((wr.cell? ⟨b, 1, none⟩).getD undef = .int .i64 (k' : Int)) := by
      obtain ⟨_, _, _, hb, hi⟩ := hr
      rw [Hid, (rblk hb).1.2.1, hi.2.1]; rfl
    clear hr
    have HN := Lib.hid (next_calls s b (.go k') wr HR.out hs)
    generalize hc : nextC (L s) (.go k') = c at *
    generalize hy : (Rs.go k').after (L s) peekF = y at *
    have HY := Lib.hid hy
    clear hc hy
    go_wp2_with fail
    refine HN.out.mono ?_
    rintro e w1 ⟨rfl, h1, hg1⟩
    have H1 := Lib.hid h1
    have HG1 := Lib.hid (grown_grown hg hg1 (fun _ h => .inl h))
    clear hg1 h1
    go_wp2_with fail
    refine (goes_calls s b _ w1 H1.out).mono ?_
    rintro e w2 ⟨rfl, rfl⟩
    have HFB : Hid ((y.live && plainB c) = false → StrPost b s w (.go k) (runF plainB) (.returned (.string q)) w1) := by
      intro hf
      obtain ⟨e1, e2⟩ := HPP.out.2 hf
      have hof : Rs.of F = y := by rw [HF'.out]; exact e1
      refine ⟨⟨q, rfl, ?_, fun k2 l r k3 hk2 hr2 => ?_⟩, ?_, HG1.out⟩
      · rw [HQ.out, ByteArray.size_extract]; omega
      · injection hk2 with hk2
        subst hk2
        rw [HQ.out]
        exact run_text HF.out.symm hof (fun k2 h => by rw [HF'.out]; exact e2 k2 h) l r k3 hr2
      · show RsIn w1 b s (Rs.of (runF plainB ((L s).drop k) k))
        rw [runF_of HF.out.symm hof]
        exact H1.out
    cases hyl : y.live with
    | false =>
      have HFIN := Lib.hid (HFB.out (by rw [hyl]; rfl))
      clear HPP HFB
      go_wp2_with fail
      go_ret
      exact HFIN.out
    | true =>
      cases hp : plainB c with
      | false =>
        have HFIN := Lib.hid (HFB.out (by rw [hyl, hp]; rfl))
        have hp2 : c = 34 ∨ c = 60 ∨ c = 62 := by
          simp only [plainB, Bool.and_eq_false_iff, bne_eq_false_iff_eq] at hp
          rcases hp with (h | h) | h
          · exact .inl h
          · exact .inr (.inl h)
          · exact .inr (.inr h)
        clear HPP HFB HN hp
        rcases hp2 with rfl | rfl | rfl
        all_goals
          go_wp2_with fail
          go_ret
          exact HFIN.out
      | true =>
        obtain ⟨e1, e2, e3, e4⟩ := HPP.out.1 (by rw [hyl, hp]; rfl)
        have HE4 := Lib.hid e4
        have hp1 : ((c.toNat : Int) == 34) = false := by
          have h : c ≠ 34 := by intro h; subst h; cases hp
          rw [beq_eq_false_iff_ne]; exact fun e => h ((u8_eq c 34).2 e)
        have hp2 : ((c.toNat : Int) == 60) = false := by
          have h : c ≠ 60 := by intro h; subst h; cases hp
          rw [beq_eq_false_iff_ne]; exact fun e => h ((u8_eq c 60).2 e)
        have hp3 : ((c.toNat : Int) == 62) = false := by
          have h : c ≠ 62 := by intro h; subst h; cases hp
          rw [beq_eq_false_iff_ne]; exact fun e => h ((u8_eq c 62).2 e)
        clear HPP HFB HN
        subst e3
        obtain ⟨a, z, sh, hb, hi⟩ := H1.out
        have HB := Lib.hid hb
        obtain ⟨hk0, rfl, rfl, rfl⟩ := hi
        obtain ⟨⟨c0, c1, c2, c3⟩, f1, f2, f3⟩ := rblk hb
        have hqs : q.size ≤ 10000000 := by rw [HQ.out, ByteArray.size_extract]; omega
        have hqt : q.size + (s.extract k' (k' + 1)).size ≤ 20000000 := by rw [ByteArray.size_extract]; omega
        have hkb : (k' : Int) < 10000000 := by omega
        clear e4 hp hb
        go_wp2_with fail
        go_quiet (fail)
        go_wp2_with fail
        go_roundw
        case rel => exact ⟨_, k' + 1, rfl, by omega, ⟨_, _, _, rset1 HB.out ((k' : Int) + 1), e1, by omega, rfl, rfl⟩, grown_setCell (grown_drewN HG1.out _) (.inl rfl) _, by
            rw [Hid, HQ.out]; exact ext_snoc s hkk, by rw [Hid, HF'.out]; exact HE4.out⟩
        case measure =>
          have e5 := fun n => (rblk (rset1 (HB.out.drewN n) ((k' : Int) + 1))).1.2.1
          rw [HM.out]
          simp [intOf, e5]
          omega

theorem nextC_dead {s : List UInt8} {x : Rs} (h : (x.after s peekF).live = false) : nextC s x = 0 := by
  cases x with
  | go k =>
    rw [nextC]
    rw [Rs.after] at h
    cases hp : peekF (s.drop k) k with
    | ok c r k1 => rw [hp] at h; cases h
    | short => rfl
    | bad n => rfl
  | short => rfl
  | bad n => rfl
theorem name_fin {s : List UInt8} {k : Nat} {q : ByteArray} {y : Rs} (h1 : Rs.of (runF letterB (s.drop k) k) = y) (h2 : ∀ l r k2, runF letterB (s.drop k) k = .ok l r k2 → L q = l) :
    Rs.of (nameF (s.drop k) k) = (if L q = [] then y.fail 40 else y) ∧ ∀ l r k2, nameF (s.drop k) k = .ok l r k2 → L q = l := by
  unfold nameF
  cases h : runF letterB (s.drop k) k with
  | ok l r k2 =>
    rw [h] at h1
    have e := h2 l r k2 h
    subst h1
    simp only [Out.bind]
    rw [e]
    by_cases hl : l = []
    · rw [if_pos hl, if_pos hl]
      exact ⟨rfl, fun _ _ _ h => by cases h⟩
    · rw [if_neg hl, if_neg hl]
      exact ⟨rfl, fun _ _ _ h => by injection h with h _ _⟩
  | short =>
    rw [h] at h1
    subst h1
    refine ⟨?_, fun _ _ _ h => by cases h⟩
    split <;> rfl
  | bad n =>
    rw [h] at h1
    subst h1
    refine ⟨?_, fun _ _ _ h => by cases h⟩
    split <;> rfl

set_option maxRecDepth 20000 in
set_option maxHeartbeats 2000000 in
theorem name_live (s : ByteArray) (b k : Nat) (w : World) (h : RsIn w b s (.go k)) (hs : s.size ≤ 10000000) :
    Calls Tryd.prog 124 #[.pointer (some ⟨b, 0, none⟩)] w (StrPost b s w (.go k) nameF) := by
  generalize hF : runTo letterB ((L s).drop k) k = F
  have HF := Lib.hid hF
  clear hF
  go_enter Tryd.func124, Tryd.ntmps124
  go_wp2_with fail
  go_loopw [3] (fun o wr => ∃ (q : ByteArray) (k' : Nat), o = .string q ∧ k ≤ k' ∧ RsIn wr b s (.go k') ∧ w.grownBy wr (some b) ∧ Hid (q = s.extract k k') ∧ Hid (F = runTo letterB ((L s).drop k') k'))
     (fun _ wr => s.size - (intOf ((wr.cell? ⟨b, 1, none⟩).getD undef)).toNat)
  case atStart => exact ⟨_, k, rfl, Nat.le_refl _, h, World.grownBy.refl w _, by rw [Hid]; exact L_ext (by rw [L_extract, List.drop_take, Nat.sub_self]; rfl), HF.out.symm⟩
  case round =>
    obtain ⟨q, k', rfl, hkk, hr, hg, HQ, HF'⟩ := hrel
    have HR := Lib.hid hr
    have HPP := Lib.hid (peek_pred letterB s k')
    have HKS : Hid (k' ≤ s.size) := by obtain ⟨_, _, _, _, hi⟩ := hr; exact hi.1
    have HM : Hid ((wr.cell? ⟨b, 1, none⟩).getD undef = .int .i64 (k' : Int)) := by
      obtain ⟨_, _, _, hb, hi⟩ := hr
      rw [Hid, (rblk hb).1.2.1, hi.2.1]; rfl
    clear hr
    have HN := Lib.hid (next_calls s b (.go k') wr HR.out hs)
    have HY0 := Lib.hid (nextC_dead (s := L s) (x := .go k'))
    have HID : Hid (((Rs.go k').after (L s) peekF).after (L s) peekF = (Rs.go k').after (L s) peekF) := peek_idem rfl
    generalize hc : nextC (L s) (.go k') = c at *
    generalize hy : (Rs.go k').after (L s) peekF = y at *
    clear hc hy
    have hlive : (Rs.go k').live = true := rfl
    go_wp2_with fail
    refine (goes_calls s b _ wr HR.out).mono ?_
    rintro e w0 ⟨rfl, rfl⟩
    go_wp2_with fail
    refine HN.out.mono ?_
    rintro e w1 ⟨rfl, h1, hg1⟩
    have H1 := Lib.hid h1
    have HG1 := Lib.hid (grown_grown hg hg1 (fun _ h => .inl h))
    clear hg1 h1
    go_wp2_with fail
    refine (rletter_calls c w1).mono ?_
    rintro e w2 ⟨rfl, rfl⟩
    cases hp : letterB c with
    | false =>
      have HFB : Hid (Rs.of (nameF ((L s).drop k) k) = (if L q = [] then y.fail 40 else y) ∧ ∀ l r k2, nameF ((L s).drop k) k = .ok l r k2 → L q = l) := by
        obtain ⟨e1, e2⟩ := HPP.out.2 (by rw [hp, Bool.and_false])
        have hof : Rs.of F = y := by rw [HF'.out]; exact e1
        refine name_fin (runF_of HF.out.symm hof) (fun l r k2 h => ?_)
        rw [HQ.out]
        exact run_text HF.out.symm hof (fun k2 h => by rw [HF'.out]; exact e2 k2 h) l r k2 h
      have HQS : Hid (q.size ≤ 10000000) := by rw [Hid, HQ.out, ByteArray.size_extract]; omega
      have HN2 := Lib.hid (next_calls s b y w1 H1.out hs)
      rw [HID.out] at HN2
      clear HPP HN HY0 hlive
      generalize nextC (L s) y = c2 at *
      cases hq : q.toList.isEmpty with
      | true =>
        have HQE : Hid (L q = []) := by rw [toList_L] at hq; exact List.isEmpty_iff.1 hq
        go_wp2_with fail
        refine HN2.out.mono ?_
        rintro e w3 ⟨rfl, h3, hg3⟩
        have H3 := Lib.hid h3
        have HG3 := Lib.hid (grown_grown HG1.out hg3 (fun _ h => .inl h))
        clear h3 hg3
        go_wp2_with fail
        refine (fail_calls s b y 40 (by decide) w3 H3.out).mono ?_
        rintro e w4 ⟨rfl, h4, hg4⟩
        have H4 := Lib.hid h4
        have HG4 := Lib.hid (grown_grown HG3.out hg4 (fun _ h => .inl h))
        clear h4 hg4
        go_wp2_with fail
        go_ret
        refine ⟨⟨q, rfl, HQS.out, fun k2 l r k3 hk2 hr2 => ?_⟩, ?_, HG4.out⟩
        · injection hk2 with hk2
          subst hk2
          exact HFB.out.2 l r k3 hr2
        · show RsIn w4 b s (Rs.of (nameF ((L s).drop k) k))
          rw [HFB.out.1, if_pos HQE.out]
          exact H4.out
      | false =>
        have HQE : Hid (¬ L q = []) := by rw [toList_L] at hq; exact fun h => by rw [h] at hq; cases hq
        go_wp2_with fail
        refine HN2.out.mono ?_
        rintro e w3 ⟨rfl, h3, hg3⟩
        have H3 := Lib.hid h3
        have HG3 := Lib.hid (grown_grown HG1.out hg3 (fun _ h => .inl h))
        clear h3 hg3
        go_wp2_with fail
        go_ret
        refine ⟨⟨q, rfl, HQS.out, fun k2 l r k3 hk2 hr2 => ?_⟩, ?_, HG3.out⟩
        · injection hk2 with hk2
          subst hk2
          exact HFB.out.2 l r k3 hr2
        · show RsIn w3 b s (Rs.of (nameF ((L s).drop k) k))
          rw [HFB.out.1, if_neg HQE.out]
          exact H3.out
    | true =>
      have hyl : y.live = true := by
        cases h : y.live with
        | true => rfl
        | false => rw [HY0.out h] at hp; cases hp
      obtain ⟨e1, e2, e3, e4⟩ := HPP.out.1 (by rw [hyl, hp]; rfl)
      have HE4 := Lib.hid e4
      clear HPP HN HY0 HID hyl
      subst e3
      obtain ⟨a, z, sh, hb, hi⟩ := H1.out
      have HB := Lib.hid hb
      obtain ⟨hk0, rfl, rfl, rfl⟩ := hi
      obtain ⟨⟨c0, c1, c2, c3⟩, f1, f2, f3⟩ := rblk hb
      have hqs : q.size ≤ 10000000 := by rw [HQ.out, ByteArray.size_extract]; omega
      have hqt : q.size + (s.extract k' (k' + 1)).size ≤ 20000000 := by rw [ByteArray.size_extract]; omega
      have hkb : (k' : Int) < 10000000 := by omega
      clear e4 hb
      go_wp2_with fail
      go_quiet (fail)
      go_wp2_with fail
      go_roundw
      case rel => exact ⟨_, k' + 1, rfl, by omega, ⟨_, _, _, rset1 HB.out ((k' : Int) + 1), e1, by omega, rfl, rfl⟩, grown_setCell (grown_drewN HG1.out _) (.inl rfl) _, by
          rw [Hid, HQ.out]; exact ext_snoc s hkk, by rw [Hid, HF'.out]; exact HE4.out⟩
      case measure =>
        have e5 := fun n => (rblk (rset1 (HB.out.drewN n) ((k' : Int) + 1))).1.2.1
        rw [HM.out]
        simp [intOf, e5]
        omega
end Go.Proofs.YtijpfcjlochahaaDoor
namespace Go.Proofs.YtijpfcjlochahaaDoor
open Go Go.RowKit

/-- What is returned where the reader goes on: a count. -/
def CntPost (b : Nat) (s : ByteArray) (w : World) (x : Rs) (f : List UInt8 → Nat → Out (List UInt8)) (e : Ending) (w' : World) : Prop :=
  (∃ n : Nat, e = .returned (.int .i64 n) ∧ n ≤ 10000000 ∧ ∀ k l r k', x = .go k → f ((L s).drop k) k = .ok l r k' → n = l.length) ∧ RsIn w' b s (x.after (L s) f) ∧ w.grownBy w' (some b)
theorem run_count {p : UInt8 → Bool} {s : ByteArray} {k k' : Nat} {y : Rs} {F : Out Unit} (hF : F = runTo p ((L s).drop k) k) (hy : Rs.of F = y) (hk : ∀ k2, y = .go k2 → k2 = k' ∧ F = .ok () ((L s).drop k') k') :
    ∀ l r k2, runF p ((L s).drop k) k = .ok l r k2 → k' = k + l.length := by
  intro l r k2 h
  have h1 := runF_of hF hy
  rw [h] at h1
  obtain ⟨rfl, -⟩ := hk k2 h1.symm
  exact runF_pos h
set_option maxRecDepth 20000 in
set_option maxHeartbeats 2000000 in
theorem blanks_live (s : ByteArray) (b k : Nat) (w : World) (h : RsIn w b s (.go k)) (hs : s.size ≤ 10000000) :
    Calls Tryd.prog 125 #[.pointer (some ⟨b, 0, none⟩)] w (CntPost b s w (.go k) (runF blankB)) := by
  generalize hF : runTo blankB ((L s).drop k) k = F
  have HF := Lib.hid hF
  clear hF
  go_enter Tryd.func125, Tryd.ntmps125
  go_wp2_with fail
  go_loopw [3] (fun o wr => ∃ (n k' : Nat), o = .int .i64 n ∧ k' = k + n ∧ RsIn wr b s (.go k') ∧ w.grownBy wr (some b) ∧ Hid (F = runTo blankB ((L s).drop k') k'))
     (fun _ wr => s.size - (intOf ((wr.cell? ⟨b, 1, none⟩).getD undef)).toNat)
  case atStart => exact ⟨0, k, rfl, rfl, h, World.grownBy.refl w _, HF.out.symm⟩
  case round =>
    obtain ⟨n, k', rfl, hkk, hr, hg, HF'⟩ := hrel
    have HKK := Lib.hid hkk
    have HR := Lib.hid hr
    have HPP := Lib.hid (peek_pred blankB s k')
    have HKS : Hid (k' ≤ s.size) := by obtain ⟨_, _, _, _, hi⟩ := hr; exact hi.1
    have hnb : n ≤ 10000000 := by have := HKS.out; omega
    have HM : Hid ((wr.cell? ⟨b, 1, none⟩).getD undef = .int .i64 (k' : Int)) := by
      obtain ⟨_, _, _, hb, hi⟩ := hr
      rw [Hid, (rblk hb).1.2.1, hi.2.1]; rfl
    clear hr hkk
    have HN := Lib.hid (next_calls s b (.go k') wr HR.out hs)
    have HY0 := Lib.hid (nextC_dead (s := L s) (x := .go k'))
    have HID : Hid (((Rs.go k').after (L s) peekF).after (L s) peekF = (Rs.go k').after (L s) peekF) := peek_idem rfl
    generalize hc : nextC (L s) (.go k') = c at *
    generalize hy : (Rs.go k').after (L s) peekF = y at *
    clear hc hy
    have hlive : (Rs.go k').live = true := rfl
    go_wp2_with fail
    refine (goes_calls s b _ wr HR.out).mono ?_
    rintro e w0 ⟨rfl, rfl⟩
    go_wp2_with fail
    refine HN.out.mono ?_
    rintro e w1 ⟨rfl, h1, hg1⟩
    have H1 := Lib.hid h1
    have HG1 := Lib.hid (grown_grown hg hg1 (fun _ h => .inl h))
    clear hg1 h1
    go_wp2_with fail
    refine (rblank_calls c w1).mono ?_
    rintro e w2 ⟨rfl, rfl⟩
    cases hp : blankB c with
    | false =>
      have HFB : Hid (Rs.of (runF blankB ((L s).drop k) k) = y ∧ ∀ l r k2, runF blankB ((L s).drop k) k = .ok l r k2 → n = l.length) := by
        obtain ⟨e1, e2⟩ := HPP.out.2 (by rw [hp, Bool.and_false])
        have hof : Rs.of F = y := by rw [HF'.out]; exact e1
        refine ⟨runF_of HF.out.symm hof, fun l r k2 h => ?_⟩
        have := run_count HF.out.symm hof (fun k2 h => by rw [HF'.out]; exact e2 k2 h) l r k2 h
        have := HKK.out
        omega
      have HN2 := Lib.hid (next_calls s b y w1 H1.out hs)
      rw [HID.out] at HN2
      clear HPP HN HY0 hlive
      generalize nextC (L s) y = c2 at *
      go_wp2_with fail
      refine HN2.out.mono ?_
      rintro e w3 ⟨rfl, h3, hg3⟩
      have H3 := Lib.hid h3
      have HG3 := Lib.hid (grown_grown HG1.out hg3 (fun _ h => .inl h))
      clear h3 hg3
      go_wp2_with fail
      go_ret
      refine ⟨⟨n, rfl, hnb, fun k2 l r k3 hk2 hr2 => ?_⟩, ?_, HG3.out⟩
      · injection hk2 with hk2
        subst hk2
        exact HFB.out.2 l r k3 hr2
      · show RsIn w3 b s (Rs.of (runF blankB ((L s).drop k) k))
        rw [HFB.out.1]
        exact H3.out
    | true =>
      have hyl : y.live = true := by
        cases h : y.live with
        | true => rfl
        | false => rw [HY0.out h] at hp; cases hp
      obtain ⟨e1, e2, e3, e4⟩ := HPP.out.1 (by rw [hyl, hp]; rfl)
      have HE4 := Lib.hid e4
      clear HPP HN HY0 HID hyl
      subst e3
      obtain ⟨a, z, sh, hb, hi⟩ := H1.out
      have HB := Lib.hid hb
      obtain ⟨hk0, rfl, rfl, rfl⟩ := hi
      obtain ⟨⟨c0, c1, c2, c3⟩, f1, f2, f3⟩ := rblk hb
      have hkb : (k' : Int) < 10000000 := by omega
      clear e4 hb
      go_wp2_with fail
      go_roundw
      case rel => exact ⟨n + 1, k' + 1, by go_num, by have := HKK.out; omega, ⟨_, _, _, rset1 HB.out ((k' : Int) + 1), e1, by omega, rfl, rfl⟩, grown_setCell HG1.out (.inl rfl) _, by rw [Hid, HF'.out]; exact HE4.out⟩
      case measure =>
        have e5 := (rblk (rset1 HB.out ((k' : Int) + 1))).1.2.1
        rw [HM.out]
        simp [intOf, e5]
        omega
set_option maxRecDepth 20000 in
set_option maxHeartbeats 2000000 in
theorem blanks_dead (s : ByteArray) (b : Nat) (x : Rs) (hx : x.live = false) (w : World) (h : RsIn w b s x) (hs : s.size ≤ 10000000) :
    Calls Tryd.prog 125 #[.pointer (some ⟨b, 0, none⟩)] w (CntPost b s w x (runF blankB)) := by
  have H := Lib.hid h
  have HX := Lib.hid hx
  have HN := Lib.hid (next_calls s b x w h hs)
  rw [dead_after hx] at HN
  generalize nextC (L s) x = c at *
  clear h
  go_enter Tryd.func125, Tryd.ntmps125
  go_wp2_with fail
  go_loopw [3] (fun o wr => o = .int .i64 0 ∧ wr = w) (fun _ _ => 0)
  case atStart => exact ⟨rfl, rfl⟩
  case round =>
    obtain ⟨rfl, rfl⟩ := hrel
    go_wp2_with fail
    refine (goes_calls s b _ _ H.out).mono ?_
    rintro e w0 ⟨rfl, rfl⟩
    go_wp2_with fail
    refine HN.out.mono ?_
    rintro e w3 ⟨rfl, h3, hg3⟩
    have H3 := Lib.hid h3
    have HG3 := Lib.hid hg3
    clear h3 hg3
    go_wp2_with fail
    go_ret
    refine ⟨⟨0, rfl, Nat.zero_le _, fun k2 l r k3 hk2 hr2 => ?_⟩, ?_, HG3.out⟩
    · rw [hk2] at hx; cases hx
    · rw [dead_after HX.out]
      exact H3.out
set_option maxRecDepth 20000 in
set_option maxHeartbeats 2000000 in
theorem name_dead (s : ByteArray) (b : Nat) (x : Rs) (hx : x.live = false) (w : World) (h : RsIn w b s x) (hs : s.size ≤ 10000000) :
    Calls Tryd.prog 124 #[.pointer (some ⟨b, 0, none⟩)] w (StrPost b s w x nameF) := by
  have H := Lib.hid h
  have HX := Lib.hid hx
  have HN := Lib.hid (next_calls s b x w h hs)
  rw [dead_after hx] at HN
  generalize nextC (L s) x = c at *
  clear h
  go_enter Tryd.func124, Tryd.ntmps124
  go_wp2_with fail
  go_loopw [3] (fun o wr => o = .string ⟨#[]⟩ ∧ wr = w) (fun _ _ => 0)
  case atStart => exact ⟨rfl, rfl⟩
  case round =>
    obtain ⟨rfl, rfl⟩ := hrel
    go_wp2_with fail
    refine (goes_calls s b _ _ H.out).mono ?_
    rintro e w0 ⟨rfl, rfl⟩
    go_wp2_with fail
    refine HN.out.mono ?_
    rintro e w3 ⟨rfl, h3, hg3⟩
    have H3 := Lib.hid h3
    have HG3 := Lib.hid hg3
    clear h3 hg3
    go_wp2_with fail
    refine (fail_calls s b x 40 (by decide) w3 H3.out).mono ?_
    rintro e w4 ⟨rfl, h4, hg4⟩
    have H4 := Lib.hid h4
    have HG4 := Lib.hid (grown_grown HG3.out hg4 (fun _ h => .inl h))
    clear h4 hg4
    go_wp2_with fail
    go_ret
    refine ⟨⟨_, rfl, Nat.zero_le _, fun k2 l r k3 hk2 hr2 => ?_⟩, ?_, HG4.out⟩
    · rw [hk2] at hx; cases hx
    · rw [dead_after HX.out]
      have h := H4.out
      rw [dead_fail HX.out] at h
      exact h
set_option maxRecDepth 20000 in
set_option maxHeartbeats 2000000 in
theorem value_dead (s : ByteArray) (b : Nat) (x : Rs) (hx : x.live = false) (w : World) (h : RsIn w b s x) (hs : s.size ≤ 10000000) :
    Calls Tryd.prog 137 #[.pointer (some ⟨b, 0, none⟩)] w (StrPost b s w x (runF plainB)) := by
  have H := Lib.hid h
  have HX := Lib.hid hx
  have HN := Lib.hid (next_calls s b x w h hs)
  rw [dead_after hx] at HN
  generalize nextC (L s) x = c at *
  clear h
  go_enter Tryd.func137, Tryd.ntmps137
  go_wp2_with fail
  go_loopw [3] (fun o wr => o = .string ⟨#[]⟩ ∧ wr = w) (fun _ _ => 0)
  case atStart => exact ⟨rfl, rfl⟩
  case round =>
    obtain ⟨rfl, rfl⟩ := hrel
    go_wp2_with fail
    refine HN.out.mono ?_
    rintro e w3 ⟨rfl, h3, hg3⟩
    have H3 := Lib.hid h3
    have HG3 := Lib.hid hg3
    clear h3 hg3
    go_wp2_with fail
    refine (goes_calls s b _ _ H3.out).mono ?_
    rintro e w0 ⟨rfl, rfl⟩
    go_wp2_with fail
    go_ret
    refine ⟨⟨_, rfl, Nat.zero_le _, fun k2 l r k3 hk2 hr2 => ?_⟩, ?_, HG3.out⟩
    · rw [hk2] at hx; cases hx
    · rw [dead_after HX.out]
      exact H3.out
theorem rname_calls (s : ByteArray) (b : Nat) (x : Rs) (w : World) (h : RsIn w b s x) (hs : s.size ≤ 10000000) :
    Calls Tryd.prog 124 #[.pointer (some ⟨b, 0, none⟩)] w (StrPost b s w x nameF) := by
  cases hx : x.live with
  | true =>
    obtain ⟨k, rfl⟩ := live_go hx
    exact name_live s b k w h hs
  | false => exact name_dead s b x hx w h hs
theorem rvalue_calls (s : ByteArray) (b : Nat) (x : Rs) (w : World) (h : RsIn w b s x) (hs : s.size ≤ 10000000) :
    Calls Tryd.prog 137 #[.pointer (some ⟨b, 0, none⟩)] w (StrPost b s w x (runF plainB)) := by
  cases hx : x.live with
  | true =>
    obtain ⟨k, rfl⟩ := live_go hx
    exact value_live s b k w h hs
  | false => exact value_dead s b x hx w h hs
theorem rblanks_calls (s : ByteArray) (b : Nat) (x : Rs) (w : World) (h : RsIn w b s x) (hs : s.size ≤ 10000000) :
    Calls Tryd.prog 125 #[.pointer (some ⟨b, 0, none⟩)] w (CntPost b s w x (runF blankB)) := by
  cases hx : x.live with
  | true =>
    obtain ⟨k, rfl⟩ := live_go hx
    exact blanks_live s b k w h hs
  | false => exact blanks_dead s b x hx w h hs
end Go.Proofs.YtijpfcjlochahaaDoor
