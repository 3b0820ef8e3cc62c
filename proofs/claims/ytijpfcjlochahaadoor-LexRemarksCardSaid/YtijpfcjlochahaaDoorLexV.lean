/- Plain laws of texts without the bytes that marks begin with; strings.ReplaceAll at one byte. -/
import Derived.Test.YtijpfcjlochahaaDoorLexQ
import Derived.Lib.ReplaceLaws
namespace Go.Proofs.YtijpfcjlochahaaDoor
open Go Go.RowKit

/-- One byte put for another. -/
def putB (a b : UInt8) (l : List UInt8) : List UInt8 := l.map fun c => if c = a then b else c
theorem replaceK_ne {a b c : UInt8} (h : c ≠ a) (k : Nat) (l : List UInt8) : Lib.replaceK [a] [b] k (c :: l) = c :: Lib.replaceK [a] [b] k l := by
  cases k with
  | zero => rfl
  | succ k =>
    have hp : ([a] : List UInt8).isPrefixOf (c :: l) = false := by simpa [List.isPrefixOf] using fun e => h e.symm
    by_cases hm : Lib.index l [a] = -1
    · have h1 : Lib.index (c :: l) [a] = -1 := by rw [Lib.index, hp, hm]; rfl
      rw [Lib.replaceK, Lib.replaceK, h1, hm]; rfl
    · obtain ⟨i, hi⟩ : ∃ i : Nat, Lib.index l [a] = i := ⟨(Lib.index l [a]).toNat, by have := Lib.index_ge l [a]; omega⟩
      have h1 : Lib.index (c :: l) [a] = ((i + 1 : Nat) : Int) := by
        rw [Lib.index, hp, hi]
        simp only [Bool.false_eq_true, if_false]
        rw [if_neg (by rw [beq_iff_eq]; omega)]; omega
      rw [Lib.replaceK_hit _ _ _ _ _ h1, Lib.replaceK_hit _ _ _ _ _ hi, List.take_succ_cons]
      have e : i + 1 + [a].length = (i + [a].length) + 1 := by omega
      rw [e, List.drop_succ_cons]; rfl
theorem replaceK_byte (a b : UInt8) : ∀ l : List UInt8, Lib.replaceK [a] [b] (l.count a) l = putB a b l
  | [] => rfl
  | c :: l => by
    by_cases h : c = a
    · subst h
      have h0 : Lib.index (c :: l) [c] = ((0 : Nat) : Int) := by rw [Lib.index]; simp [List.isPrefixOf]
      rw [List.count_cons_self, Lib.replaceK_hit _ _ _ _ _ h0]
      show [] ++ [b] ++ Lib.replaceK [c] [b] (l.count c) l = _
      rw [replaceK_byte c b l]
      simp [putB]
    · rw [List.count_cons_of_ne h, replaceK_ne h, replaceK_byte a b l]
      simp [putB, h]
theorem replaceAll_byte {a b : UInt8} (h : a ≠ b) (l : List UInt8) : Lib.replaceAll l [a] [b] = putB a b l := by
  unfold Lib.replaceAll Lib.replace Lib.replaceNum
  rw [if_neg (by simpa using h), if_pos (.inl (by decide)), Lib.count_one]
  exact replaceK_byte a b l
theorem putB_len (a b : UInt8) (l : List UInt8) : (putB a b l).length = l.length := by simp [putB]
theorem putB_mem {a b : UInt8} (h : a ≠ b) (l : List UInt8) : ∀ x ∈ putB a b l, x ≠ a := by
  intro x hx
  obtain ⟨c, -, rfl⟩ := List.mem_map.1 hx
  split
  · exact h.symm
  · assumption
theorem putB_keep {a b d : UInt8} (hb : b ≠ d) {l : List UInt8} (hl : ∀ x ∈ l, x ≠ d) : ∀ x ∈ putB a b l, x ≠ d := by
  intro x hx
  obtain ⟨c, hc, rfl⟩ := List.mem_map.1 hx
  split
  · exact hb
  · exact hl c hc
/-- A text without the bytes that marks begin with. -/
def Bare (l : List UInt8) : Prop := ∀ x ∈ l, x ≠ 60 ∧ x ≠ 45
theorem markF_bare (b : Bool) (r : List UInt8) : ∀ l : List UInt8, Bare l → markF b (l ++ r) = ((markF b r).1, (markF b r).2 + l.length)
  | [], _ => rfl
  | c :: l, h => by
    have hc := h c (by simp)
    have ih := markF_bare b r l (fun x hx => h x (by simp [hx]))
    rw [List.cons_append, markF, if_neg (by rintro (e | e); exact hc.1 e; exact hc.2 e)]
    simp only [ih, List.length_cons]
    rw [Nat.add_assoc]
theorem markF_bare_all (b : Bool) (l : List UInt8) (h : Bare l) : markF b l = ([], l.length) := by
  have := markF_bare b [] l h
  rw [List.append_nil] at this
  rw [this, markF, Nat.zero_add]
theorem feedG_bare (l : List UInt8) (o : List Token) (h : Bare l) : feedG false l o = (⟨[], false⟩, withText o l l.length, 0) := by
  rw [feedG_eq, markF_bare_all false l h]
  simp only [List.drop_length, feedStep]
  rw [if_pos (Or.inr trivial)]
theorem joinF_text (l : List UInt8) : joinF (withText [] l l.length) = if l = [] then [] else [textTok l] := by
  cases l with
  | nil => rfl
  | cons c l => simp [withText, joinF, joinStep, textTok]
theorem allF_bare (l : List UInt8) (h : Bare l) : allF l = (if l = [] then [] else [textTok l], 0) := by
  have hf : feedF ⟨[], false⟩ l = (⟨[], false⟩, withText [] l l.length, 0) := by
    rw [feedF_right_eq (x := ⟨[], false⟩) rfl]
    exact feedG_bare l [] h
  unfold allF
  simp only [hf]
  rw [if_neg (by simp)]
  have he : endF ⟨[], false⟩ = ([], 0) := rfl
  rw [he, if_neg (by simp)]
  simp only [List.append_nil, joinF_text]
def varsOpen : List UInt8 := [60, 101, 115, 105, 58, 118, 97, 114, 115, 62]
def varsClose : List UInt8 := [60, 47, 101, 115, 105, 58, 118, 97, 114, 115, 62]
def varsB : List UInt8 := [118, 97, 114, 115]
theorem cut_open : cutF varsOpen openB = (⟨1, varsB, []⟩, 10, 0) := by rfl
theorem cut_close : cutF varsClose closB = (⟨2, varsB, []⟩, 11, 0) := by rfl
theorem mark_open (r : List UInt8) : markF false (varsOpen ++ r) = (openB, 0) := by
  have := markF_whole (b := false) (s := varsOpen) (m := openB) r (by rfl) (by decide) (by decide)
  exact this
theorem mark_close : markF false varsClose = (closB, 0) := by rfl
theorem allF_vars (l : List UInt8) (h : Bare l) : allF (varsOpen ++ l ++ varsClose) = (⟨1, varsB, []⟩ :: (if l = [] then [⟨2, varsB, []⟩] else [textTok l, ⟨2, varsB, []⟩]), 0) := by
  have hf : feedF ⟨[], false⟩ (varsOpen ++ l ++ varsClose) = (⟨[], false⟩, withText [⟨1, varsB, []⟩] l l.length ++ [⟨2, varsB, []⟩], 0) := by
    rw [feedF_right_eq (x := ⟨[], false⟩) rfl]
    show feedG false (varsOpen ++ l ++ varsClose) [] = _
    rw [List.append_assoc, feedG_eq, mark_open]
    simp only [List.drop_zero, withText, Nat.lt_irrefl, if_false, feedStep]
    rw [if_neg (by rintro (e | e); (simp [varsOpen, openB] at e; omega); cases e), if_neg (by decide)]
    have h1 : cutF (varsOpen ++ (l ++ varsClose)) openB = (⟨1, varsB, []⟩, 10, 0) := by
      rw [cutF_ext varsOpen openB _ (.inr (by rw [cut_open]; decide)), cut_open]
    rw [h1]
    simp only
    rw [if_neg (by simp), if_neg (by simp)]
    show feedG false (l ++ varsClose) [⟨1, varsB, []⟩] = _
    rw [feedG_eq, markF_bare false varsClose l h, mark_close]
    simp only [Nat.zero_add, List.drop_left, feedStep]
    rw [if_neg (by decide), if_neg (by decide), cut_close]
    simp only
    rw [if_neg (by simp), if_neg (by simp)]
    have e : withText [⟨1, varsB, []⟩] (l ++ varsClose) l.length = withText [⟨1, varsB, []⟩] l l.length := by
      unfold withText; rw [List.take_left, List.take_length]
    rw [e]
    rfl
  unfold allF
  simp only [hf]
  rw [if_neg (by simp)]
  have he : endF ⟨[], false⟩ = ([], 0) := rfl
  rw [he, if_neg (by simp), List.append_nil]
  cases l with
  | nil => rfl
  | cons c l => simp [withText, joinF, joinStep, textTok]
end Go.Proofs.YtijpfcjlochahaaDoor
