/- Plain laws of remarks. -/
import Derived.Test.YtijpfcjlochahaaDoorLexV
namespace Go.Proofs.YtijpfcjlochahaaDoor
open Go Go.RowKit

def No45 (l : List UInt8) : Prop := ∀ x ∈ l, x ≠ 45
theorem No45.drop {l : List UInt8} (h : No45 l) (n : Nat) : No45 (l.drop n) := fun x hx => h x (List.mem_of_mem_drop hx)
theorem No45.tail {c : UInt8} {l : List UInt8} (h : No45 (c :: l)) : No45 l := fun x hx => h x (by simp [hx])
theorem hits_beh {l : List UInt8} (h : No45 l) (hl : l ≠ []) (r : List UInt8) : hits (l ++ r) behB = false := by
  obtain ⟨c, l, rfl⟩ := List.exists_cons_of_ne_nil hl
  have hc := h c (by simp)
  unfold hits
  rw [beq_eq_false_iff_ne]
  intro e
  have e2 := congrArg List.head? e
  simp [behB] at e2
  exact hc e2
/-- Where a page has no mark here, it has none within a remark, whatever follows. -/
theorem here_none {s : List UInt8} (c : List UInt8) (hs : s ≠ []) (h45 : No45 s) (h : markHere false s = none) : markHere true (s ++ c) = none := by
  cases s with
  | nil => exact absurd rfl hs
  | cons x l =>
    simp only [markHere, List.cons_append] at h ⊢
    split at h
    · rename_i hx
      rw [if_pos hx]
      unfold markAt at h ⊢
      split at h
      · cases h
      · rename_i h1
        split at h
        · cases h
        · rename_i h2
          have e1 := hits_ext c (by simpa using h1)
          have e2 := hits_ext c (by simpa using h2)
          have e3 := hits_beh h45 (by simp) c
          rw [List.cons_append] at e1 e2 e3
          simp [e1, e2, e3, lastMark]
    · rename_i hx
      rw [if_neg hx]
theorem here_tag {s m : List UInt8} (c : List UInt8) (h : markHere false s = some m) (hm : m = openB ∨ m = closB) (hl : m.length ≤ s.length) : markHere true (s ++ c) = some m := by
  cases s with
  | nil => cases h
  | cons x l =>
    simp only [markHere, List.cons_append] at h ⊢
    split at h
    · rename_i hx
      rw [if_pos hx]
      unfold markAt at h ⊢
      split at h
      · rename_i h1
        injection h with h; subst h
        have e1 := hits_whole c h1 hl
        rw [List.cons_append] at e1
        simp [e1]
      · rename_i h1
        have e1 := hits_ext c (by simpa using h1)
        rw [List.cons_append] at e1
        split at h
        · rename_i h2
          injection h with h; subst h
          have e2 := hits_whole c h2 hl
          rw [List.cons_append] at e2
          simp [e1, e2]
        · split at h
          · injection h with h
            exfalso
            subst h
            rcases hm with e | e <;> exact absurd e (by decide)
          · cases h
    · cases h
theorem mark_last (c : List UInt8) : ∀ s : List UInt8, No45 s → (markF false s).1 = [] → markF true (s ++ behB) = (behB, s.length)
  | [], _, _ => by rfl
  | x :: l, h45, h => by
    cases hh : markHere false (x :: l) with
    | some m =>
      rw [markF_cons, hh] at h
      exact absurd h (markHere_ne hh)
    | none =>
      rw [markF_cons, hh] at h
      have ih := mark_last c l h45.tail h
      have h2 := here_none behB (by simp) h45 hh
      rw [List.cons_append] at h2 ⊢
      rw [markF_cons, h2, ih]; rfl
theorem mark_nil_len (b : Bool) : ∀ s : List UInt8, (markF b s).1 = [] → (markF b s).2 = s.length
  | [], _ => rfl
  | x :: l, h => by
    cases hh : markHere b (x :: l) with
    | some m =>
      rw [markF_cons, hh] at h
      exact absurd h (markHere_ne hh)
    | none =>
      rw [markF_cons, hh] at h ⊢
      have := mark_nil_len b l h
      simp only [List.length_cons, this]
theorem mark_tag (c m : List UInt8) (hm : m = openB ∨ m = closB) : ∀ s : List UInt8, No45 s → (markF false s).1 = m → m.length ≤ (s.drop (markF false s).2).length → markF true (s ++ c) = (m, (markF false s).2)
  | [], _, h, _ => by
    have h : ([] : List UInt8) = m := h
    subst h
    rcases hm with e | e <;> exact absurd e (by decide)
  | x :: l, h45, h, hl => by
    cases hh : markHere false (x :: l) with
    | some m' =>
      have e : markF false (x :: l) = (m', 0) := by rw [markF_cons, hh]
      rw [e] at h hl ⊢
      have h : m' = m := h
      subst h
      have h2 := here_tag c hh hm hl
      rw [List.cons_append] at h2 ⊢
      rw [markF_cons, h2]
    | none =>
      have e : markF false (x :: l) = ((markF false l).1, (markF false l).2 + 1) := by rw [markF_cons, hh]
      rw [e] at h hl ⊢
      simp only [List.drop_succ_cons] at hl
      have ih := mark_tag c m hm l h45.tail h hl
      have h2 := here_none c (by simp) h45 hh
      rw [List.cons_append] at h2 ⊢
      rw [markF_cons, h2, ih]
theorem markF_false (s : List UInt8) : (markF false s).1 = [] ∨ (markF false s).1 = openB ∨ (markF false s).1 = closB ∨ (markF false s).1 = remB := by
  induction s with
  | nil => exact .inl rfl
  | cons x l ih =>
    cases h : markHere false (x :: l) with
    | none =>
      have e : markF false (x :: l) = ((markF false l).1, (markF false l).2 + 1) := by rw [markF_cons, h]
      rw [e]; exact ih
    | some m =>
      have e : markF false (x :: l) = (m, 0) := by rw [markF_cons, h]
      rw [e]
      refine .inr ?_
      simp only [markHere] at h
      split at h
      · unfold markAt at h
        split at h
        · injection h with h; exact .inl h.symm
        · split at h
          · injection h with h; exact .inr (.inl h.symm)
          · split at h
            · injection h with h
              exact .inr (.inr h.symm)
            · cases h
      · cases h
theorem no45_rem {s : List UInt8} (h45 : No45 s) (h : markF false s = (remB, 0)) : ¬ remB.length ≤ s.length := by
  intro hl
  cases s with
  | nil => exact absurd hl (by decide)
  | cons x l =>
    cases hh : markHere false (x :: l) with
    | none => rw [markF_cons, hh] at h; injection h with _ h2; omega
    | some m =>
      rw [markF_cons, hh] at h
      injection h with h1 _
      subst h1
      simp only [markHere] at hh
      split at hh
      · unfold markAt at hh
        split at hh
        · injection hh with hh; exact absurd hh (by decide)
        · split at hh
          · injection hh with hh; exact absurd hh (by decide)
          · split at hh
            · rename_i h3
              unfold hits at h3
              rw [beq_iff_eq, List.take_of_length_le (l := lastMark false) (by show remB.length ≤ _; exact hl)] at h3
              have hm : (45 : UInt8) ∈ (x :: l).take (lastMark false).length := by rw [h3]; decide
              exact h45 45 (List.mem_of_mem_take hm) rfl
            · cases hh
      · cases hh
/-- A page without the byte, within a remark that is to be read: the same tokens. -/
theorem feedG_remark : ∀ (n : Nat) (s : List UInt8) (o : List Token), s.length < n → No45 s → (feedG false s o).2.2 = 0 → (feedG false s o).1.rest = [] →
    feedG true (s ++ behB) o = (⟨[], false⟩, (feedG false s o).2.1, 0)
  | 0, _, _, h, _, _, _ => absurd h (by omega)
  | n + 1, s, o, hn, h45, he, hr => by
    have hd := markF_drop false s
    have hmk := markF_false s
    have hi := (markF_len false s).2
    have hlen : (s.drop (markF false s).2).length ≤ s.length := by rw [List.length_drop]; omega
    have h45d := h45.drop (markF false s).2
    have heq := feedG_eq false s o
    by_cases hm0 : (markF false s).1 = []
    · have hil := mark_nil_len false s hm0
      rw [heq, hm0, hil, List.drop_length] at he hr ⊢
      have hf : feedStep feedG false [] [] (withText o s s.length) = (⟨[], false⟩, withText o s s.length, 0) := by unfold feedStep; rw [if_pos (.inr rfl)]
      rw [hf]
      rw [feedG_eq, mark_last [] s h45 hm0]
      have e1 : (s ++ behB).drop s.length = behB := by rw [List.drop_left]
      have e2 : withText o (s ++ behB) s.length = withText o s s.length := by unfold withText; rw [List.take_left, List.take_length]
      simp only [e1, e2]
      unfold feedStep
      rw [if_neg (by decide), if_pos (.inr rfl)]
      show feedG false [] (withText o s s.length) = _
      rw [feedG_eq]
      simp [markF, withText, feedStep]
    · rw [heq] at he hr ⊢
      by_cases hwh : (markF false s).1.length ≤ (s.drop (markF false s).2).length
      · have hnr : (markF false s).1 ≠ remB := by
          intro e
          rw [e] at hd hwh
          exact no45_rem h45d hd hwh
        have htg : (markF false s).1 = openB ∨ (markF false s).1 = closB := by
          rcases hmk with h | h | h | h
          · exact absurd h hm0
          · exact .inl h
          · exact .inr h
          · exact absurd h hnr
        have hmt := mark_tag behB _ htg s h45 rfl hwh
        rw [feedG_eq, hmt]
        have e1 : (s ++ behB).drop (markF false s).2 = s.drop (markF false s).2 ++ behB := List.drop_append_of_le_length hi
        have e2 : withText o (s ++ behB) (markF false s).2 = withText o s (markF false s).2 := by unfold withText; rw [List.take_append_of_le_length hi]
        simp only [e1, e2]
        generalize withText o s (markF false s).2 = o1 at *
        generalize s.drop (markF false s).2 = s1 at *
        generalize (markF false s).1 = m at *
        have hnb : ¬ (m = remB ∨ m = behB) := by
          rintro (h | h)
          · exact hnr h
          · rcases htg with e | e <;> rw [e] at h <;> exact absurd h (by decide)
        have hL : ¬ (s1.length < m.length ∨ m = []) := by rintro (h | h); omega; exact hm0 h
        have hL2 : ¬ ((s1 ++ behB).length < m.length ∨ m = []) := by rintro (h | h); (rw [List.length_append] at h; omega); exact hm0 h
        have hB : feedStep feedG false s1 m o1 = if (cutF s1 m).2.2 ≠ 0 then (⟨[], false⟩, [], (cutF s1 m).2.2) else if (cutF s1 m).2.1 = 0 then (⟨s1, false⟩, o1, 0) else feedG false (s1.drop (cutF s1 m).2.1) (o1 ++ [(cutF s1 m).1]) := by
          unfold feedStep; rw [if_neg hL, if_neg hnb]
        have hA : feedStep feedG true (s1 ++ behB) m o1 = if (cutF (s1 ++ behB) m).2.2 ≠ 0 then (⟨[], false⟩, [], (cutF (s1 ++ behB) m).2.2) else if (cutF (s1 ++ behB) m).2.1 = 0 then (⟨s1 ++ behB, true⟩, o1, 0)
            else feedG true ((s1 ++ behB).drop (cutF (s1 ++ behB) m).2.1) (o1 ++ [(cutF (s1 ++ behB) m).1]) := by
          unfold feedStep; rw [if_neg hL2, if_neg hnb]
        rw [hB] at he hr ⊢
        rw [hA]
        by_cases hc : (cutF s1 m).2.2 ≠ 0
        · rw [if_pos hc] at he
          exact absurd he hc
        · by_cases hc2 : (cutF s1 m).2.1 = 0
          · rw [if_neg hc, if_pos hc2] at hr
            have hr : s1 = [] := hr
            have hp := List.length_pos_iff.2 hm0
            rw [hr] at hwh
            simp only [List.length_nil] at hwh
            omega
          · rw [if_neg hc, if_neg hc2] at he hr ⊢
            rw [cutF_ext s1 m behB (.inr hc2), if_neg hc, if_neg hc2]
            have hcl := (cutF_total (s := s1) (m := m)).1
            rw [List.drop_append_of_le_length hcl]
            exact feedG_remark n (s1.drop (cutF s1 m).2.1) (o1 ++ [(cutF s1 m).1]) (by rw [List.length_drop]; omega) (h45d.drop _) he hr
      · exfalso
        unfold feedStep at hr
        rw [if_pos (.inl (by omega))] at hr
        have hr : s.drop (markF false s).2 = [] := hr
        rw [hr] at hd
        have hd : (([] : List UInt8), 0) = ((markF false s).1, 0) := hd
        injection hd with h1 _
        exact hm0 h1.symm
theorem feedG_rest (s : List UInt8) (h : (feedG false s []).1.rest = []) : endF (feedG false s []).1 = ([], 0) := by
  generalize feedG false s [] = z at *
  obtain ⟨⟨r, i⟩, t, e⟩ := z
  have h : r = [] := h
  subst h
  cases i <;> rfl
/-- The plain law of LexRemarks. -/
theorem allF_read {s : List UInt8} {toks : List Token} {x : LexSt} (h45 : No45 s) (hf : feedF ⟨[], false⟩ s = (x, toks, 0)) (hr : x.rest = []) : allF s = (joinF toks, 0) ∧ allF (remB ++ s ++ behB) = (joinF toks, 0) := by
  have hf2 := hf
  rw [feedF_right_eq (x := ⟨[], false⟩) rfl] at hf2
  have hf2 : feedG false s [] = (x, toks, 0) := hf2
  have he : endF x = ([], 0) := by
    have := feedG_rest s (by rw [hf2]; exact hr)
    rwa [hf2] at this
  constructor
  · unfold allF
    simp only [hf, he]
    rw [if_neg (by simp), if_neg (by simp), List.append_nil]
  · have hm : markF false (remB ++ (s ++ behB)) = (remB, 0) := markF_whole (b := false) (s := remB) (m := remB) (s ++ behB) (by rfl) (by decide) (by decide)
    have hg : feedF ⟨[], false⟩ (remB ++ s ++ behB) = (⟨[], false⟩, toks, 0) := by
      rw [feedF_right_eq (x := ⟨[], false⟩) rfl]
      show feedG false (remB ++ s ++ behB) [] = _
      rw [List.append_assoc, feedG_eq, hm]
      simp only [List.drop_zero, withText, Nat.lt_irrefl, if_false, feedStep]
      rw [if_neg (by rintro (e | e); (rw [List.length_append] at e; omega); cases e), if_pos (Or.inl trivial)]
      show feedG true ((remB ++ (s ++ behB)).drop remB.length) [] = _
      rw [List.drop_left]
      have := feedG_remark _ s [] (Nat.lt_succ_self _) h45 (by rw [hf2]) (by rw [hf2]; exact hr)
      rw [this, hf2]
    have he2 : endF ⟨[], false⟩ = ([], 0) := rfl
    unfold allF
    simp only [hg, he2]
    rw [if_neg (by simp), if_neg (by simp), List.append_nil]
def remText : List UInt8 := [60, 33, 45, 45, 32]
theorem behB_markF : markF false behB = ([], 3) := by rfl
theorem feedG_unread (l : List UInt8) (h : Bare l) : markF false (remText ++ l ++ behB) = ([], (remText ++ l ++ behB).length) := by
  have h1 : markF false (l ++ behB) = ([], l.length + 3) := by rw [markF_bare false behB l h, behB_markF, Nat.add_comm]
  have step : ∀ (c : UInt8) (t : List UInt8), markHere false (c :: t) = none → markF false (c :: t) = ((markF false t).1, (markF false t).2 + 1) := fun c t e => by rw [markF_cons, e]
  have g5 : ∀ t : List UInt8, markHere false (32 :: t) = none := fun t => rfl
  have far : ∀ (p q t : List UInt8), p.length = 5 → hits p q = false → hits (p ++ t) q = false := fun p q t _ e => hits_ext t e
  rw [List.append_assoc]
  show markF false (60 :: 33 :: 45 :: 45 :: 32 :: (l ++ behB)) = _
  have a1 : markHere false (60 :: 33 :: 45 :: 45 :: 32 :: (l ++ behB)) = none := markHere_none (b := false) (s := [60, 33, 45, 45, 32]) (l ++ behB) (by simp) (by rfl)
  have a3 : markHere false (45 :: 45 :: 32 :: (l ++ behB)) = none := markHere_none (b := false) (s := [45, 45, 32]) (l ++ behB) (by simp) (by rfl)
  have a4 : markHere false (45 :: 32 :: (l ++ behB)) = none := markHere_none (b := false) (s := [45, 32]) (l ++ behB) (by simp) (by rfl)
  rw [step _ _ a1, step 33 _ (by rfl), step _ _ a3, step _ _ a4, step _ _ (g5 _), h1]
  simp [remText, behB]
theorem allF_unread (l : List UInt8) (h : Bare l) : allF (remText ++ l ++ behB) = ([textTok (remText ++ l ++ behB)], 0) := by
  have hm := feedG_unread l h
  have hne : remText ++ l ++ behB ≠ [] := by simp [remText]
  generalize remText ++ l ++ behB = s at *
  have hf : feedF ⟨[], false⟩ s = (⟨[], false⟩, withText [] s s.length, 0) := by
    rw [feedF_right_eq (x := ⟨[], false⟩) rfl]
    show feedG false s [] = _
    rw [feedG_eq, hm]
    simp only [List.drop_length, feedStep]
    rw [if_pos (Or.inr trivial)]
  have he2 : endF ⟨[], false⟩ = ([], 0) := rfl
  unfold allF
  simp only [hf, he2]
  rw [if_neg (by simp), if_neg (by simp), List.append_nil, joinF_text, if_neg hne]
end Go.Proofs.YtijpfcjlochahaaDoor
