/- Plain laws of lexing in pieces. -/
import Derived.Test.YtijpfcjlochahaaGreatDoorLexJ
set_option linter.unusedVariables false
set_option linter.unusedSimpArgs false
namespace Go.Proofs.YtijpfcjlochahaaGreatDoor
open Go Go.RowKit
set_option linter.unusedVariables false
set_option linter.unusedSimpArgs false

/-- What reading comes to where more bytes follow: what was decided stays. -/
def Ext {α : Type} (o o' : Out α) (b : List UInt8) : Prop :=
  match o with
  | .ok a r k => o' = .ok a (r ++ b) k
  | .bad e => o' = .bad e
  | .short => True
theorem Ext.bind {α β : Type} {o o' : Out α} {b : List UInt8} {f f' : α → List UInt8 → Nat → Out β} (h : Ext o o' b) (hf : ∀ a r k, Ext (f a r k) (f' a (r ++ b) k) b) : Ext (o.bind f) (o'.bind f') b := by
  cases o with
  | ok a r k =>
    have h : o' = .ok a (r ++ b) k := h
    subst h
    exact hf a r k
  | bad e =>
    have h : o' = .bad e := h
    subst h
    exact rfl
  | short => trivial
theorem peekF_ext (r b : List UInt8) (k : Nat) : Ext (peekF r k) (peekF (r ++ b) k) b := by
  cases r with
  | nil => exact trivial
  | cons c t =>
    simp only [peekF, List.cons_append]
    split <;> rfl
theorem needF_ext : ∀ (m r b : List UInt8) (k : Nat), Ext (needF m r k) (needF m (r ++ b) k) b
  | [], r, b, k => rfl
  | c :: m, r, b, k => by
    rw [needF, needF]
    cases r with
    | nil => exact trivial
    | cons x t =>
      simp only [peekF, List.cons_append]
      by_cases h4 : 400 ≤ k
      · simp only [if_pos h4]; rfl
      · simp only [if_neg h4, Out.bind, List.tail_cons]
        by_cases hx : x = c
        · simp only [if_pos hx]
          exact needF_ext m t b (k + 1)
        · simp only [if_neg hx]; rfl
theorem runF_ext (p : UInt8 → Bool) : ∀ (r b : List UInt8) (k : Nat), Ext (runF p r k) (runF p (r ++ b) k) b
  | [], b, k => trivial
  | c :: t, b, k => by
    simp only [List.cons_append, runF]
    by_cases h4 : 400 ≤ k
    · simp only [if_pos h4]; rfl
    · simp only [if_neg h4]
      by_cases hp : p c = true
      · simp only [if_pos hp]
        exact (runF_ext p t b (k + 1)).bind fun a r k => rfl
      · simp only [if_neg hp]; rfl
theorem nameF_ext (r b : List UInt8) (k : Nat) : Ext (nameF r k) (nameF (r ++ b) k) b := by
  rw [nameF, nameF]
  refine (runF_ext letterB r b k).bind fun l r k => ?_
  by_cases h : l = []
  · simp only [if_pos h]; rfl
  · simp only [if_neg h]; rfl
theorem tagRest_ext : ∀ (n n' : Nat) (nm : List UInt8) (at_ : List Pair) (r b : List UInt8) (k : Nat), n ≤ n' → Ext (tagRest n nm at_ r k) (tagRest n' nm at_ (r ++ b) k) b
  | 0, _, _, _, _, _, _, _ => trivial
  | n + 1, 0, _, _, _, _, _, h => absurd h (by omega)
  | n + 1, n' + 1, nm, at_, r, b, k, h => by
    rw [tagRest, tagRest]
    refine (runF_ext blankB r b k).bind fun gap r k => ?_
    have hp := peekF_ext r b k
    cases hpk : peekF r k with
    | short => trivial
    | bad e =>
      rw [hpk] at hp
      have hp : peekF (r ++ b) k = .bad e := hp
      rw [hp]; rfl
    | ok c r2 k2 =>
      rw [hpk] at hp
      have hp : peekF (r ++ b) k = .ok c (r2 ++ b) k2 := hp
      obtain ⟨rfl, rfl, _, t, rfl⟩ := peekF_inv hpk
      rw [hp]
      simp only [Out.bind]
      unfold tagTail
      by_cases h1 : c = 62
      · simp only [if_pos h1]; rfl
      · simp only [if_neg h1]
        by_cases h2 : c = 47
        · simp only [if_pos h2]
          exact (needF_ext [62] t b (k2 + 1)).bind fun _ r k => rfl
        · simp only [if_neg h2]
          by_cases h3 : gap = []
          · simp only [if_pos h3]; rfl
          · simp only [if_neg h3]
            refine (nameF_ext (c :: t) b k2).bind fun a r k => ?_
            refine (needF_ext [61] r b k).bind fun _ r k => ?_
            unfold tagEq
            split
            · rfl
            · unfold tagVal
              refine (needF_ext [34] r b k).bind fun _ r k => ?_
              refine (runF_ext plainB r b k).bind fun v r k => ?_
              refine (needF_ext [34] r b k).bind fun _ r k => ?_
              exact tagRest_ext n n' nm _ r b k (by omega)
theorem tagF_ext (m r b : List UInt8) (k : Nat) : Ext (tagF m r k) (tagF m (r ++ b) k) b := by
  rw [tagF, tagF]
  refine (needF_ext m r b k).bind fun _ r k => ?_
  refine (nameF_ext r b k).bind fun nm r k => ?_
  by_cases h : m = closB
  · simp only [if_pos h]
    refine (runF_ext blankB r b k).bind fun _ r k => ?_
    exact (needF_ext [62] r b k).bind fun _ r k => rfl
  · simp only [if_neg h]
    exact tagRest_ext _ _ nm [] r b k (by rw [List.length_append]; omega)
theorem cutF_ext (s m b : List UInt8) (h : (cutF s m).2.2 ≠ 0 ∨ (cutF s m).2.1 ≠ 0) : cutF (s ++ b) m = cutF s m := by
  have e := tagF_ext m s b 0
  unfold cutF at h ⊢
  cases ht : tagF m s 0 with
  | ok t r k =>
    rw [ht] at e
    have e : tagF m (s ++ b) 0 = .ok t (r ++ b) k := e
    rw [e]
  | bad x =>
    rw [ht] at e
    have e : tagF m (s ++ b) 0 = .bad x := e
    rw [e]
  | short =>
    rw [ht] at h
    simp at h

/-- No beginning of a mark: more bytes don't make one. -/
theorem hits_ext {l m : List UInt8} (b : List UInt8) (h : hits l m = false) : hits (l ++ b) m = false := by
  unfold hits at h ⊢
  rw [beq_eq_false_iff_ne] at h ⊢
  intro e
  apply h
  have e2 := congrArg (List.take l.length) e
  rw [List.take_take, List.take_take] at e2
  rw [List.length_append, Nat.min_eq_left (show l.length ≤ l.length + b.length by omega)] at e2
  rw [← e2, List.take_append_of_le_length (by omega), Nat.min_comm, ← List.take_take, List.take_length]
/-- A whole mark stays. -/
theorem hits_whole {l m : List UInt8} (b : List UInt8) (h : hits l m = true) (hl : m.length ≤ l.length) : hits (l ++ b) m = true := by
  unfold hits at h ⊢
  rw [beq_iff_eq] at h ⊢
  rw [List.take_append_of_le_length hl, h, List.take_of_length_le (by omega), List.take_of_length_le (by simp; omega)]
def markHere (b : Bool) : List UInt8 → Option (List UInt8)
  | [] => none
  | c :: l => if c = 60 ∨ c = 45 then markAt b (c :: l) else none
theorem markF_cons (b : Bool) (c : UInt8) (l : List UInt8) : markF b (c :: l) = match markHere b (c :: l) with
    | some m => (m, 0)
    | none => ((markF b l).1, (markF b l).2 + 1) := rfl
theorem markHere_none {b : Bool} {s : List UInt8} (c : List UInt8) (hs : s ≠ []) (h : markHere b s = none) : markHere b (s ++ c) = none := by
  cases s with
  | nil => exact absurd rfl hs
  | cons x l =>
    simp only [markHere, List.cons_append] at h ⊢
    split at h
    · rename_i hx
      rw [if_pos hx]
      unfold markAt at h ⊢
      split at h
      · cases h
      · rename_i h1
        split at h
        · cases h
        · rename_i h2
          split at h
          · cases h
          · rename_i h3
            have e1 := hits_ext c (by simpa using h1)
            have e2 := hits_ext c (by simpa using h2)
            have e3 := hits_ext c (by simpa using h3)
            rw [List.cons_append] at e1 e2 e3
            simp [e1, e2, e3]
    · rename_i hx
      rw [if_neg hx]
theorem markHere_whole {b : Bool} {s m : List UInt8} (c : List UInt8) (h : markHere b s = some m) (hl : m.length ≤ s.length) : markHere b (s ++ c) = some m := by
  cases s with
  | nil => cases h
  | cons x l =>
    simp only [markHere, List.cons_append] at h ⊢
    split at h
    · rename_i hx
      rw [if_pos hx]
      unfold markAt at h ⊢
      split at h
      · rename_i h1
        injection h with h; subst h
        have e1 := hits_whole c h1 hl
        rw [List.cons_append] at e1
        simp [e1]
      · rename_i h1
        have e1 := hits_ext c (by simpa using h1)
        rw [List.cons_append] at e1
        split at h
        · rename_i h2
          injection h with h; subst h
          have e2 := hits_whole c h2 hl
          rw [List.cons_append] at e2
          simp [e1, e2]
        · rename_i h2
          have e2 := hits_ext c (by simpa using h2)
          rw [List.cons_append] at e2
          split at h
          · rename_i h3
            injection h with h; subst h
            have e3 := hits_whole c h3 hl
            rw [List.cons_append] at e3
            simp [e1, e2, e3]
          · cases h
    · cases h
theorem markHere_ne {b : Bool} {s m : List UInt8} (h : markHere b s = some m) : m ≠ [] := by
  cases s with
  | nil => cases h
  | cons x l =>
    simp only [markHere] at h
    split at h
    · unfold markAt at h
      split at h
      · injection h with h; subst h; decide
      · split at h
        · injection h with h; subst h; decide
        · split at h
          · injection h with h; subst h; unfold lastMark; split <;> decide
          · cases h
    · cases h
/-- From the place where a mark is. -/
theorem markF_drop (b : Bool) : ∀ s : List UInt8, markF b (s.drop (markF b s).2) = ((markF b s).1, 0)
  | [] => rfl
  | c :: l => by
    have ih := markF_drop b l
    cases h : markHere b (c :: l) with
    | some m =>
      have e : markF b (c :: l) = (m, 0) := by rw [markF_cons, h]
      rw [e]; exact e
    | none =>
      have e : markF b (c :: l) = ((markF b l).1, (markF b l).2 + 1) := by rw [markF_cons, h]
      rw [e]; exact ih
theorem markF_append (b : Bool) (c : List UInt8) : ∀ s : List UInt8, markF b (s ++ c) = ((markF b (s.drop (markF b s).2 ++ c)).1, (markF b s).2 + (markF b (s.drop (markF b s).2 ++ c)).2)
  | [] => by simp [markF]
  | x :: l => by
    have ih := markF_append b c l
    cases h : markHere b (x :: l) with
    | some m =>
      have e : markF b (x :: l) = (m, 0) := by rw [markF_cons, h]
      rw [e]; simp
    | none =>
      have e : markF b (x :: l) = ((markF b l).1, (markF b l).2 + 1) := by rw [markF_cons, h]
      have h2 := markHere_none c (by simp) h
      have e2 : markF b (x :: l ++ c) = ((markF b (l ++ c)).1, (markF b (l ++ c)).2 + 1) := by
        rw [List.cons_append] at h2 ⊢
        rw [markF_cons, h2]
      rw [e2, e, ih]
      simp only [List.drop_succ_cons]
      rw [Nat.add_right_comm]
/-- A whole mark at the beginning stays. -/
theorem markF_whole {b : Bool} {s m : List UInt8} (c : List UInt8) (h : markF b s = (m, 0)) (hm : m ≠ []) (hl : m.length ≤ s.length) : markF b (s ++ c) = (m, 0) := by
  cases s with
  | nil => injection h with h1 _; exact absurd h1.symm hm
  | cons x l =>
    cases hh : markHere b (x :: l) with
    | some m' =>
      rw [markF_cons, hh] at h
      injection h with h1 _
      subst h1
      have h2 := markHere_whole c hh hl
      rw [List.cons_append] at h2 ⊢
      rw [markF_cons, h2]
    | none =>
      rw [markF_cons, hh] at h
      injection h with _ h2
      omega

/-- What 'Feed' does behind the text ahead of a mark. -/
def feedStep (go : Bool → List UInt8 → List Token → LexSt × List Token × Int) (b : Bool) (s m : List UInt8) (out : List Token) : LexSt × List Token × Int :=
  if s.length < m.length ∨ m = [] then (⟨s, b⟩, out, 0)
  else if m = remB ∨ m = behB then go (decide (m = remB)) (s.drop m.length) out
  else if (cutF s m).2.2 ≠ 0 then (⟨[], false⟩, [], (cutF s m).2.2)
  else if (cutF s m).2.1 = 0 then (⟨s, b⟩, out, 0)
  else go b (s.drop (cutF s m).2.1) (out ++ [(cutF s m).1])
def withText (out : List Token) (s : List UInt8) (i : Nat) : List Token := if 0 < i then out ++ [textTok (s.take i)] else out
theorem feedLoop_succ (n : Nat) (b : Bool) (s : List UInt8) (out : List Token) :
    feedLoop (n + 1) b s out = feedStep (feedLoop n) b (s.drop (markF b s).2) (markF b s).1 (withText out s (markF b s).2) := rfl
theorem feedStep_congr {go go' : Bool → List UInt8 → List Token → LexSt × List Token × Int} {b : Bool} {s m : List UInt8} {out : List Token}
    (h : ∀ b' s' o', s'.length < s.length → go b' s' o' = go' b' s' o') : feedStep go b s m out = feedStep go' b s m out := by
  unfold feedStep
  split
  · rfl
  · rename_i hc
    have hm : m ≠ [] := fun e => hc (.inr e)
    have hp := List.length_pos_iff.2 hm
    have hl : m.length ≤ s.length := Nat.le_of_not_lt fun e => hc (.inl e)
    split
    · exact h _ _ _ (by rw [List.length_drop]; omega)
    · split
      · rfl
      · split
        · rfl
        · rename_i hn
          exact h _ _ _ (by rw [List.length_drop]; omega)
theorem feedLoop_fuel : ∀ (n n' : Nat) (b : Bool) (s : List UInt8) (o : List Token), s.length < n → s.length < n' → feedLoop n b s o = feedLoop n' b s o
  | 0, _, _, _, _, h, _ => absurd h (by omega)
  | _ + 1, 0, _, _, _, _, h => absurd h (by omega)
  | n + 1, n' + 1, b, s, o, h, h' => by
    rw [feedLoop_succ, feedLoop_succ]
    refine feedStep_congr fun b' s' o' hl => ?_
    rw [List.length_drop] at hl
    exact feedLoop_fuel n n' b' s' o' (by omega) (by omega)
def feedG (b : Bool) (s : List UInt8) (o : List Token) : LexSt × List Token × Int := feedLoop (s.length + 1) b s o
theorem feedG_eq (b : Bool) (s : List UInt8) (o : List Token) : feedG b s o = feedStep feedG b (s.drop (markF b s).2) (markF b s).1 (withText o s (markF b s).2) := by
  rw [feedG, feedLoop_succ]
  refine feedStep_congr fun b' s' o' hl => ?_
  rw [List.length_drop] at hl
  exact feedLoop_fuel _ _ _ _ _ (by omega) (by omega)
/-- The same tokens, joined behind whatever is ahead of them. -/
def JoinEq (a b : List Token) : Prop := ∀ o, a.foldl joinStep o = b.foldl joinStep o
theorem JoinEq.refl (a : List Token) : JoinEq a a := fun _ => rfl
theorem JoinEq.trans {a b c : List Token} (h : JoinEq a b) (k : JoinEq b c) : JoinEq a c := fun o => (h o).trans (k o)
theorem JoinEq.symm {a b : List Token} (h : JoinEq a b) : JoinEq b a := fun o => (h o).symm
theorem JoinEq.append {a b c d : List Token} (h : JoinEq a b) (k : JoinEq c d) : JoinEq (a ++ c) (b ++ d) := fun o => by
  rw [List.foldl_append, List.foldl_append, h o, k]
theorem joinStep_empty (o : List Token) : joinStep o (textTok []) = o := by simp [joinStep, textTok]
theorem withText_eq (o : List Token) (s : List UInt8) (i : Nat) : JoinEq (withText o s i) (o ++ [textTok (s.take i)]) := by
  intro q
  unfold withText
  split
  · rfl
  · rename_i h
    have : i = 0 := by omega
    subst this
    rw [List.foldl_append]
    simp only [List.take_zero, List.foldl_cons, List.foldl_nil, joinStep_empty]
theorem joinStep_text (q : List Token) (a b : List UInt8) : joinStep (joinStep q (textTok a)) (textTok b) = joinStep q (textTok (a ++ b)) := by
  cases a with
  | nil => rw [joinStep_empty]; rfl
  | cons x a =>
    cases b with
    | nil => rw [joinStep_empty, List.append_nil]
    | cons y b =>
      rcases List.eq_nil_or_concat q with rfl | ⟨init, u, rfl⟩
      · simp [joinStep, textTok]
      · by_cases hu : u.kind = 0
        · simp [joinStep, textTok, hu]
        · simp [joinStep, textTok, hu]
theorem joinEq_text (a b : List UInt8) : JoinEq [textTok a, textTok b] [textTok (a ++ b)] := fun q => by
  simp only [List.foldl_cons, List.foldl_nil, joinStep_text]
/-- The same lexer, the same error, the same tokens when joined. -/
structure Eqv (z z' : LexSt × List Token × Int) : Prop where
  st : z.1 = z'.1
  err : z.2.2 = z'.2.2
  toks : JoinEq z.2.1 z'.2.1
theorem Eqv.refl (z : LexSt × List Token × Int) : Eqv z z := ⟨rfl, rfl, .refl _⟩
theorem Eqv.trans {a b c : LexSt × List Token × Int} (h : Eqv a b) (k : Eqv b c) : Eqv a c := ⟨h.st.trans k.st, h.err.trans k.err, h.toks.trans k.toks⟩
theorem Eqv.symm {a b : LexSt × List Token × Int} (h : Eqv a b) : Eqv b a := ⟨h.st.symm, h.err.symm, h.toks.symm⟩
theorem feedStep_eqv {go go' : Bool → List UInt8 → List Token → LexSt × List Token × Int} {b : Bool} {s m : List UInt8} {o o' : List Token} (ho : JoinEq o o')
    (h : ∀ b' s' p p', JoinEq p p' → Eqv (go b' s' p) (go' b' s' p')) : Eqv (feedStep go b s m o) (feedStep go' b s m o') := by
  unfold feedStep
  split
  · exact ⟨rfl, rfl, ho⟩
  · split
    · exact h _ _ _ _ ho
    · split
      · exact .refl _
      · split
        · exact ⟨rfl, rfl, ho⟩
        · exact h _ _ _ _ (ho.append (.refl _))
theorem feedLoop_eqv : ∀ (n : Nat) (b : Bool) (s : List UInt8) (o o' : List Token), JoinEq o o' → Eqv (feedLoop n b s o) (feedLoop n b s o')
  | 0, _, _, _, _, _ => .refl _
  | n + 1, b, s, o, o', h => by
    rw [feedLoop_succ, feedLoop_succ]
    refine feedStep_eqv ?_ fun b' s' p p' hp => feedLoop_eqv n b' s' p p' hp
    exact (withText_eq _ _ _).trans ((h.append (.refl _)).trans (withText_eq _ _ _).symm)
theorem feedG_eqv {b : Bool} {s : List UInt8} {o o' : List Token} (h : JoinEq o o') : Eqv (feedG b s o) (feedG b s o') := feedLoop_eqv _ _ _ _ _ h
/-- What is ahead of the tokens stays ahead. -/
def ahead (p : List Token) (z : LexSt × List Token × Int) : LexSt × List Token × Int := if z.2.2 = 0 then (z.1, p ++ z.2.1, 0) else z
theorem feedLoop_ahead : ∀ (n : Nat) (b : Bool) (s : List UInt8) (p o : List Token), s.length < n → feedLoop n b s (p ++ o) = ahead p (feedLoop n b s o)
  | 0, _, _, _, _, h => absurd h (by omega)
  | n + 1, b, s, p, o, h => by
    rw [feedLoop_succ, feedLoop_succ]
    have e : withText (p ++ o) s (markF b s).2 = p ++ withText o s (markF b s).2 := by
      unfold withText
      split
      · rw [List.append_assoc]
      · rfl
    rw [e]
    generalize withText o s (markF b s).2 = o1
    have hl : (s.drop (markF b s).2).length ≤ s.length := by rw [List.length_drop]; omega
    generalize s.drop (markF b s).2 = s1 at *
    generalize (markF b s).1 = m
    unfold feedStep
    split
    · simp [ahead]
    · rename_i hc
      have hm : m ≠ [] := fun e => hc (.inr e)
      have hp := List.length_pos_iff.2 hm
      have hl : m.length ≤ s1.length := Nat.le_of_not_lt fun e => hc (.inl e)
      split
      · exact feedLoop_ahead n _ _ p o1 (by rw [List.length_drop]; omega)
      · split
        · rename_i he
          simp only [ahead, if_neg he]
        · split
          · simp [ahead]
          · rw [List.append_assoc]
            exact feedLoop_ahead n _ _ p _ (by rw [List.length_drop]; omega)
theorem feedG_ahead (b : Bool) (s : List UInt8) (p : List Token) : feedG b s p = ahead p (feedG b s []) := by
  have := feedLoop_ahead (s.length + 1) b s p [] (by omega)
  rwa [List.append_nil] at this

/-- Behind the text ahead of the first mark. -/
theorem feedG_text (b : Bool) (s c : List UInt8) (o : List Token) :
    Eqv (feedG b (s ++ c) o) (feedG b (s.drop (markF b s).2 ++ c) (withText o s (markF b s).2)) := by
  rw [feedG_eq b (s ++ c), feedG_eq b (s.drop (markF b s).2 ++ c), markF_append]
  have hi := (markF_len b s).2
  generalize (markF b s).2 = i at *
  generalize hj : markF b (s.drop i ++ c) = mj
  obtain ⟨m, j⟩ := mj
  have e1 : (s ++ c).drop (i + j) = (s.drop i ++ c).drop j := by
    rw [← List.drop_drop, List.drop_append_of_le_length hi]
  have e2 : (s ++ c).take (i + j) = s.take i ++ (s.drop i ++ c).take j := by
    rw [List.take_add, List.take_append_of_le_length hi, List.drop_append_of_le_length hi]
  show Eqv (feedStep feedG b ((s ++ c).drop (i + j)) m (withText o (s ++ c) (i + j))) (feedStep feedG b ((s.drop i ++ c).drop j) m (withText (withText o s i) (s.drop i ++ c) j))
  rw [e1]
  refine feedStep_eqv ?_ fun b' s' p p' hp => feedG_eqv hp
  refine (withText_eq _ _ _).trans ?_
  rw [e2]
  refine JoinEq.trans ?_ (withText_eq _ _ _).symm
  refine JoinEq.trans ?_ ((withText_eq _ _ _).symm.append (.refl _))
  rw [List.append_assoc]
  exact (JoinEq.refl o).append (joinEq_text _ _).symm
/-- A text that is fed in two pieces. -/
theorem feedG_pieces (c : List UInt8) : ∀ (n : Nat) (b : Bool) (s : List UInt8) (o : List Token), s.length < n →
    ((feedG b s o).2.2 ≠ 0 → (feedG b (s ++ c) o).2.2 = (feedG b s o).2.2) ∧
    ((feedG b s o).2.2 = 0 → Eqv (feedG b (s ++ c) o) (feedG (feedG b s o).1.inside ((feedG b s o).1.rest ++ c) (feedG b s o).2.1))
  | 0, _, _, _, h => absurd h (by omega)
  | n + 1, b, s, o, h => by
    have ht := feedG_text b s c o
    rw [feedG_eq b s o]
    have hd := markF_drop b s
    have hl : (s.drop (markF b s).2).length ≤ s.length := by rw [List.length_drop]; omega
    generalize withText o s (markF b s).2 = o1 at *
    generalize s.drop (markF b s).2 = s1 at *
    generalize (markF b s).1 = m at *
    unfold feedStep
    split
    · exact ⟨fun h => absurd rfl h, fun _ => ht⟩
    · rename_i hc
      have hm : m ≠ [] := fun e => hc (.inr e)
      have hp := List.length_pos_iff.2 hm
      have hml : m.length ≤ s1.length := Nat.le_of_not_lt fun e => hc (.inl e)
      have hw := markF_whole c hd hm hml
      have hu : feedG b (s1 ++ c) o1 = feedStep feedG b (s1 ++ c) m o1 := by
        rw [feedG_eq, hw]; rfl
      have hc2 : ¬ ((s1 ++ c).length < m.length ∨ m = []) := by
        rintro (e | e)
        · rw [List.length_append] at e; omega
        · exact hm e
      unfold feedStep at hu
      rw [if_neg hc2] at hu
      split
      · rename_i hr
        rw [if_pos hr, List.drop_append_of_le_length hml] at hu
        have ih := feedG_pieces c n (decide (m = remB)) (s1.drop m.length) o1 (by rw [List.length_drop]; omega)
        rw [hu] at ht
        exact ⟨fun he => ht.err.trans (ih.1 he), fun he => ht.trans (ih.2 he)⟩
      · rename_i hr
        rw [if_neg hr] at hu
        split
        · rename_i he
          rw [cutF_ext s1 m c (.inl he), if_pos he] at hu
          rw [hu] at ht
          exact ⟨fun _ => ht.err, fun h => absurd h he⟩
        · rename_i he
          split
          · exact ⟨fun h => absurd rfl h, fun _ => ht⟩
          · rename_i hn
            have hcl := (cutF_total (s := s1) (m := m)).1
            rw [cutF_ext s1 m c (.inr hn), if_neg he, if_neg hn, List.drop_append_of_le_length hcl] at hu
            have ih := feedG_pieces c n b (s1.drop (cutF s1 m).2.1) (o1 ++ [(cutF s1 m).1]) (by rw [List.length_drop]; omega)
            rw [hu] at ht
            exact ⟨fun he => ht.err.trans (ih.1 he), fun he => ht.trans (ih.2 he)⟩
theorem markF_marks (b : Bool) (s : List UInt8) : (markF b s).1 = [] ∨ (markF b s).1 = openB ∨ (markF b s).1 = closB ∨ (markF b s).1 = remB ∨ (markF b s).1 = behB := by
  induction s with
  | nil => exact .inl rfl
  | cons x l ih =>
    cases h : markHere b (x :: l) with
    | none =>
      have e : markF b (x :: l) = ((markF b l).1, (markF b l).2 + 1) := by rw [markF_cons, h]
      rw [e]; exact ih
    | some m =>
      have e : markF b (x :: l) = (m, 0) := by rw [markF_cons, h]
      rw [e]
      refine .inr ?_
      simp only [markHere] at h
      split at h
      · unfold markAt at h
        split at h
        · injection h with h; exact .inl h.symm
        · split at h
          · injection h with h; exact .inr (.inl h.symm)
          · split at h
            · injection h with h
              refine .inr (.inr ?_)
              unfold lastMark at h
              split at h
              · exact .inr h.symm
              · exact .inl h.symm
            · cases h
      · cases h
/-- What 'Feed' leaves is right. -/
theorem feedG_right : ∀ (n : Nat) (b : Bool) (s : List UInt8) (o : List Token), s.length < n → (feedG b s o).2.2 = 0 → rightF (feedG b s o).1 = true
  | 0, _, _, _, h => absurd h (by omega)
  | n + 1, b, s, o, h => by
    rw [feedG_eq b s o]
    have hd := markF_drop b s
    have hmk := markF_marks b s
    have hl : (s.drop (markF b s).2).length ≤ s.length := by rw [List.length_drop]; omega
    generalize withText o s (markF b s).2 = o1 at *
    generalize s.drop (markF b s).2 = s1 at *
    generalize (markF b s).1 = m at *
    unfold feedStep
    split
    · rename_i hc
      intro _
      have hq : s1 = [] ∨ s1.length < m.length := by
        rcases hc with hc | hc
        · exact .inr hc
        · subst hc
          cases s1 with
          | nil => exact .inl rfl
          | cons x l =>
            cases hh : markHere b (x :: l) with
            | some m' =>
              rw [markF_cons, hh] at hd
              injection hd with h1 _
              exact absurd h1 (markHere_ne hh)
            | none =>
              rw [markF_cons, hh] at hd
              injection hd with _ h2
              omega
      unfold rightF
      simp only [hd]
      rcases hq with hq | hq
      · rw [if_pos (.inl hq)]; rfl
      · rw [if_pos (.inr (.inr hq))]; rfl
    · rename_i hc
      have hm : m ≠ [] := fun e => hc (.inr e)
      have hp := List.length_pos_iff.2 hm
      have hml : m.length ≤ s1.length := Nat.le_of_not_lt fun e => hc (.inl e)
      split
      · exact feedG_right n _ _ o1 (by rw [List.length_drop]; omega)
      · rename_i hr
        split
        · rename_i he
          exact fun h => absurd h he
        · rename_i he
          have he : (cutF s1 m).2.2 = 0 := Classical.byContradiction he
          split
          · rename_i hn
            intro _
            have ho : m = openB ∨ m = closB := by
              rcases hmk with h | h | h | h | h
              · exact absurd h hm
              · exact .inl h
              · exact .inr h
              · exact absurd (.inl h) hr
              · exact absurd (.inr h) hr
            have hs1 : s1 ≠ [] := by rintro rfl; rw [List.length_nil] at hml; omega
            unfold rightF
            simp only [hd]
            rw [if_neg (by rintro (h | h | h); exact hs1 h; exact h rfl; exact absurd (show s1.length < m.length from h) (by omega))]
            simp [ho, hn, he]
          · exact feedG_right n _ _ _ (by rw [List.length_drop]; omega)

/-- Behind pieces that are together p: what the lexer is, and the tokens. -/
structure Fed (p : List UInt8) (x : LexSt) (out : List Token) : Prop where
  eqv : Eqv (feedG false p []) (x, out, 0)
  right : rightF x = true
  len : out.length + x.rest.length ≤ p.length
  sum : textSum out + x.rest.length ≤ p.length
theorem fed_start : Fed [] ⟨[], false⟩ [] := ⟨⟨rfl, rfl, .refl _⟩, rfl, by simp, by simp [textSum]⟩
theorem feedF_right_eq {x : LexSt} (h : rightF x = true) (q : List UInt8) : feedF x q = feedG x.inside (x.rest ++ q) [] := by
  unfold feedF
  rw [if_pos h]; rfl
theorem Fed.step {p : List UInt8} {x : LexSt} {out : List Token} (h : Fed p x out) (q : List UInt8) (he : (feedF x q).2.2 = 0) : Fed (p ++ q) (feedF x q).1 (out ++ (feedF x q).2.1) := by
  have hlen := feedF_len x q
  have h1 := h.len
  have h2 := h.sum
  rw [feedF_right_eq h.right] at he hlen ⊢
  have hr := feedG_right _ x.inside (x.rest ++ q) [] (Nat.lt_succ_self _) he
  have hp := (feedG_pieces q _ false p [] (Nat.lt_succ_self _)).2 h.eqv.err
  have hst : (feedG false p []).1 = x := h.eqv.st
  rw [hst] at hp
  have hp2 := hp.trans (feedG_eqv h.eqv.toks)
  rw [feedG_ahead x.inside (x.rest ++ q) out] at hp2
  simp only [ahead, if_pos he] at hp2
  refine ⟨hp2, hr, ?_, ?_⟩
  · rw [List.length_append, List.length_append]; omega
  · rw [textSum_append, List.length_append]; omega
theorem Fed.bad {p : List UInt8} {x : LexSt} {out : List Token} (h : Fed p x out) (q c : List UInt8) (he : (feedF x q).2.2 ≠ 0) : allF (p ++ q ++ c) = ([], (feedF x q).2.2) := by
  rw [feedF_right_eq h.right] at he ⊢
  have hp := (feedG_pieces q _ false p [] (Nat.lt_succ_self _)).2 h.eqv.err
  have hst : (feedG false p []).1 = x := h.eqv.st
  rw [hst] at hp
  have hp2 := hp.trans (feedG_eqv h.eqv.toks)
  rw [feedG_ahead x.inside (x.rest ++ q) out] at hp2
  simp only [ahead, if_neg he] at hp2
  have e1 := hp2.err
  have hq := (feedG_pieces c _ false (p ++ q) [] (Nat.lt_succ_self _)).1 (by rw [e1]; exact he)
  rw [e1] at hq
  have hf : feedF ⟨[], false⟩ (p ++ q ++ c) = feedG false (p ++ q ++ c) [] := feedF_right_eq rfl _
  unfold allF
  simp only [hf, hq]
  rw [if_pos he]
theorem Fed.end_ {s : List UInt8} {x : LexSt} {out : List Token} (h : Fed s x out) : allF s = if (endF x).2 ≠ 0 then ([], (endF x).2) else (joinF (out ++ (endF x).1), 0) := by
  have hf : feedF ⟨[], false⟩ s = feedG false s [] := feedF_right_eq rfl _
  have h1 : (feedG false s []).1 = x := h.eqv.st
  have h2 : (feedG false s []).2.2 = 0 := h.eqv.err
  have h3 := h.eqv.toks
  unfold allF
  simp only [hf, h1, h2]
  rw [if_neg (by simp)]
  have e : joinF ((feedG false s []).2.1 ++ (endF x).1) = joinF (out ++ (endF x).1) := (h3.append (.refl (endF x).1)) []
  rw [e]
end Go.Proofs.YtijpfcjlochahaaGreatDoor
