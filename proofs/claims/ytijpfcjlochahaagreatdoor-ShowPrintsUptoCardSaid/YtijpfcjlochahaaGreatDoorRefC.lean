/- Plain: what the document's own lexer (layer 14's reference) comes to, and that it is what lex comes to. No program is named here. The walks of the reference's reader of tags: goes, next, fail, need, letter, blank. The walks of the reference's reader of tags: name, blanks, value. The walks of the reference's reader of tags: blanks; name and value at any state. -/
import Derived.Test.YtijpfcjlochahaaGreatDoorPJoin
import Derived.Test.YtijpfcjlochahaaGreatDoorPLex
import Derived.Test.YtijpfcjlochahaaGreatDoorLexB
namespace Go.Proofs.YtijpfcjlochahaaGreatDoor
open Go Go.RowKit
set_option linter.unusedVariables false
set_option linter.unusedSimpArgs false

/-! ### Marks -/
def begF (s t : List UInt8) : Bool := decide (t.length ≤ s.length) && (s.take t.length == t)
theorem beg_hits (s m : List UInt8) : (begF s m || begF m s) = hits s m := by
  unfold begF hits
  by_cases h : m.length ≤ s.length
  · rw [decide_eq_true h, Bool.true_and, List.take_of_length_le h]
    by_cases h2 : s.length ≤ m.length
    · have e : s.length = m.length := by omega
      rw [decide_eq_true h2, Bool.true_and, List.take_of_length_le h2, Bool.eq_iff_iff]
      simp only [Bool.or_eq_true, beq_iff_eq]
      exact ⟨fun h => h.elim id Eq.symm, .inl⟩
    · rw [decide_eq_false h2, Bool.false_and, Bool.or_false]
  · have h2 : s.length ≤ m.length := by omega
    rw [decide_eq_false h, Bool.false_and, Bool.false_or, decide_eq_true h2, Bool.true_and, List.take_of_length_le h2, Bool.eq_iff_iff]
    simp only [beq_iff_eq]
    exact ⟨Eq.symm, Eq.symm⟩
/-- The mark that a text begins with, or is the beginning of. -/
def refMark (b : Bool) (s : List UInt8) : List UInt8 :=
  if s = [] then [] else if hits s openB then openB else if hits s closB then closB else if hits s (lastMark b) then lastMark b else []
theorem hits_head {c x : UInt8} {l m : List UInt8} (h : c ≠ x) : hits (c :: l) (x :: m) = false := by
  unfold hits
  rw [List.length_cons, List.length_cons, List.take_succ_cons, List.take_succ_cons, beq_eq_false_iff_ne]
  intro e
  injection e with e _
  exact h e
theorem refMark_eq (b : Bool) : ∀ s : List UInt8, refMark b s = if (markF b s).2 = 0 then (markF b s).1 else []
  | [] => rfl
  | c :: l => by
    rw [markF_cons, refMark, if_neg (by simp)]
    have hm : (if hits (c :: l) openB then openB else if hits (c :: l) closB then closB else if hits (c :: l) (lastMark b) then lastMark b else []) = (markAt b (c :: l)).getD [] := by
      unfold markAt
      split
      · rfl
      · split
        · rfl
        · split <;> rfl
    rw [hm]
    unfold markHere
    by_cases hc : c = 60 ∨ c = 45
    · simp only [if_pos hc]
      cases markAt b (c :: l) with
      | none => simp
      | some m => simp
    · simp only [if_neg hc]
      have h1 : hits (c :: l) openB = false := hits_head fun e => hc (.inl e)
      have h2 : hits (c :: l) closB = false := hits_head fun e => hc (.inl e)
      have h3 : hits (c :: l) (lastMark b) = false := by
        unfold lastMark
        split
        · exact hits_head fun e => hc (.inr e)
        · exact hits_head fun e => hc (.inl e)
      have e : markAt b (c :: l) = none := by unfold markAt; rw [h1, h2, h3]; rfl
      rw [e]
      simp
theorem markF_at (b : Bool) : ∀ (s : List UInt8) (j : Nat), j ≤ (markF b s).2 → markF b (s.drop j) = ((markF b s).1, (markF b s).2 - j)
  | [], j, h => by
    have h : j ≤ 0 := h
    obtain rfl : j = 0 := by omega
    rfl
  | c :: l, 0, _ => rfl
  | c :: l, j + 1, h => by
    rw [markF_cons] at h ⊢
    cases hh : markHere b (c :: l) with
    | some m => rw [hh] at h; exact absurd h (Nat.not_succ_le_zero j)
    | none =>
      rw [hh] at h
      have h : j + 1 ≤ (markF b l).2 + 1 := h
      rw [List.drop_succ_cons, markF_at b l j (by omega)]
      show _ = ((markF b l).1, (markF b l).2 + 1 - (j + 1))
      rw [Nat.add_sub_add_right]
theorem markF_nil (b : Bool) : ∀ s : List UInt8, (markF b s).1 = [] ↔ (markF b s).2 = s.length
  | [] => by simp [markF]
  | c :: l => by
    rw [markF_cons]
    cases hh : markHere b (c :: l) with
    | some m =>
      have := markHere_ne hh
      simp [this]
    | none =>
      have ih := markF_nil b l
      show (markF b l).1 = [] ↔ (markF b l).2 + 1 = (c :: l).length
      rw [ih, List.length_cons]
      omega
theorem markF_le (b : Bool) (s : List UInt8) : (markF b s).2 ≤ s.length := (markF_len b s).2
/-- The mark at a place at or ahead of the first one. -/
theorem refMark_at {b : Bool} {s : List UInt8} {j : Nat} (h : j ≤ (markF b s).2) : refMark b (s.drop j) = if j = (markF b s).2 then (markF b s).1 else [] := by
  rw [refMark_eq, markF_at b s j h]
  by_cases e : j = (markF b s).2
  · rw [if_pos (by show (markF b s).2 - j = 0; omega), if_pos e]
  · rw [if_neg (by show ¬ (markF b s).2 - j = 0; omega), if_neg e]

/-! ### Reading a tag: its states -/
inductive Rs where
  | go (k : Nat)
  | short
  | bad (e : Int)
namespace Rs
def of {α : Type} : Out α → Rs
  | .ok _ _ k => .go k
  | .short => .short
  | .bad e => .bad e
def after {α : Type} (s : List UInt8) (x : Rs) (f : List UInt8 → Nat → Out α) : Rs :=
  match x with
  | .go k => of (f (s.drop k) k)
  | .short => .short
  | .bad e => .bad e
def fail (x : Rs) (e : Int) : Rs :=
  match x with
  | .go _ => .bad e
  | .short => .short
  | .bad e => .bad e
def live : Rs → Bool
  | .go _ => true
  | _ => false
end Rs
/-- What is left is what stands at the place. -/
def Keeps {α : Type} (s : List UInt8) (o : Out α) : Prop := ∀ a r k, o = .ok a r k → r = s.drop k
theorem Keeps.bind {α β : Type} {s : List UInt8} {o : Out α} {f : α → List UInt8 → Nat → Out β} (h : Keeps s o) (hf : ∀ a k, Keeps s (f a (s.drop k) k)) : Keeps s (o.bind f) := by
  intro b r k e
  obtain ⟨a, r1, k1, h1, h2⟩ := Out.bind_ok e
  obtain rfl := h _ _ _ h1
  exact hf a k1 _ _ _ h2
theorem keeps_ok {α : Type} (s : List UInt8) (a : α) (k : Nat) : Keeps s (.ok a (s.drop k) k) := fun _ _ _ e => by injection e with _ h2 h3; subst h3; exact h2.symm
theorem keeps_bad {α : Type} (s : List UInt8) (e : Int) : Keeps s (Out.bad e : Out α) := fun _ _ _ h => by cases h
theorem peekF_keeps (s : List UInt8) (k : Nat) : Keeps s (peekF (s.drop k) k) := fun a r k' h => by
  obtain ⟨rfl, rfl, _⟩ := peekF_inv h
  rfl
theorem needF_keeps (s : List UInt8) : ∀ (m : List UInt8) (k : Nat), Keeps s (needF m (s.drop k) k)
  | [], k => keeps_ok s () k
  | c :: m, k => by
    intro a r k' h
    rw [needF] at h
    obtain ⟨x, r1, k1, h1, h2⟩ := Out.bind_ok h
    obtain ⟨rfl, rfl, _⟩ := peekF_inv h1
    split at h2
    · rw [List.tail_drop] at h2
      exact needF_keeps s m (k1 + 1) _ _ _ h2
    · cases h2
theorem runF_keeps (p : UInt8 → Bool) (s : List UInt8) : ∀ (r : List UInt8) (k : Nat), r = s.drop k → Keeps s (runF p r k)
  | [], k, _ => fun _ _ _ h => by cases h
  | c :: r, k, hr => by
    rw [runF]
    split
    · exact keeps_bad s 2
    · split
      · intro a r' k' h
        obtain ⟨x, r1, k1, h1, h2⟩ := Out.bind_ok h
        have hr1 : r = s.drop (k + 1) := by rw [← List.tail_drop, ← hr]; rfl
        have := runF_keeps p s r (k + 1) hr1 _ _ _ h1
        injection h2 with _ h3 h4
        subst h3 h4
        exact this
      · rw [hr]; exact keeps_ok s [] k
theorem nameF_keeps (s : List UInt8) (k : Nat) : Keeps s (nameF (s.drop k) k) := by
  intro a r k' h
  rw [nameF] at h
  obtain ⟨x, r1, k1, h1, h2⟩ := Out.bind_ok h
  have := runF_keeps letterB s _ k rfl _ _ _ h1
  split at h2
  · cases h2
  · injection h2 with _ h3 h4
    subst h3 h4
    exact this
theorem Out.bind_assoc {α β γ : Type} (o : Out α) (f : α → List UInt8 → Nat → Out β) (g : β → List UInt8 → Nat → Out γ) : (o.bind f).bind g = o.bind fun a r k => (f a r k).bind g := by
  cases o <;> rfl
/-- One more attribute. -/
def attrF (at_ : List Pair) (r : List UInt8) (k : Nat) : Out (List Pair) :=
  (nameF r k).bind fun a r k => (needF [61] r k).bind fun _ r k =>
  if at_.any (fun x => x.name == a) || decide (8 ≤ at_.length) then .bad 41 else
  (needF [34] r k).bind fun _ r k => (runF plainB r k).bind fun v r k => (needF [34] r k).bind fun _ r k => .ok (at_ ++ [⟨a, v⟩]) r k
theorem attrF_keeps (s : List UInt8) (at_ : List Pair) (k : Nat) : Keeps s (attrF at_ (s.drop k) k) := by
  refine (nameF_keeps s k).bind fun a k => (needF_keeps s _ k).bind fun _ k => ?_
  split
  · exact keeps_bad s 41
  · exact (needF_keeps s _ k).bind fun _ k => (runF_keeps _ s _ k rfl).bind fun v k => (needF_keeps s _ k).bind fun _ k => keeps_ok s _ k
theorem attr_tail (go : List Pair → List UInt8 → Nat → Out Token) (at_ : List Pair) (r : List UInt8) (k : Nat) :
    ((nameF r k).bind fun a r k => (needF [61] r k).bind fun _ r k => tagEq go at_ a r k) = (attrF at_ r k).bind fun at2 r k => go at2 r k := by
  unfold attrF tagEq tagVal
  rw [Out.bind_assoc]
  congr 1
  funext a r k
  rw [Out.bind_assoc]
  congr 1
  funext _ r k
  split
  · rfl
  · rw [Out.bind_assoc]
    congr 1
    funext _ r k
    rw [Out.bind_assoc]
    congr 1
    funext v r k
    rw [Out.bind_assoc]
    rfl
/-- The states of an attribute, one behind the other. -/
theorem attr_states {s : List UInt8} {at_ : List Pair} {x x1 x2 x3 x4 x5 x6 : Rs} {v1 v2 : List UInt8} {b : Bool}
    (h1 : x1 = x.after s nameF) (n1 : ∀ k l r k', x = .go k → nameF (s.drop k) k = .ok l r k' → v1 = l)
    (h2 : x2 = x1.after s (needF [61])) (hb : b = (at_.any (fun x => x.name == v1) || decide (at_.length = 8))) (h3 : x3 = if b then x2.fail 41 else x2)
    (h4 : x4 = x3.after s (needF [34])) (h5 : x5 = x4.after s (runF plainB)) (n5 : ∀ k l r k', x4 = .go k → runF plainB (s.drop k) k = .ok l r k' → v2 = l)
    (h6 : x6 = x5.after s (needF [34])) (hl : at_.length ≤ 8) :
    x6 = x.after s (attrF at_) ∧ ∀ k at2 r k', x = .go k → attrF at_ (s.drop k) k = .ok at2 r k' → at2 = at_ ++ [⟨v1, v2⟩] := by
  cases x with
  | short =>
    have h1 : x1 = .short := h1
    subst h1
    have h2 : x2 = .short := h2
    subst h2
    have h3 : x3 = .short := by rw [h3]; split <;> rfl
    subst h3
    have h4 : x4 = .short := h4
    subst h4
    have h5 : x5 = .short := h5
    subst h5
    exact ⟨h6, fun _ _ _ _ h => by cases h⟩
  | bad e =>
    have h1 : x1 = .bad e := h1
    subst h1
    have h2 : x2 = .bad e := h2
    subst h2
    have h3 : x3 = .bad e := by rw [h3]; split <;> rfl
    subst h3
    have h4 : x4 = .bad e := h4
    subst h4
    have h5 : x5 = .bad e := h5
    subst h5
    exact ⟨h6, fun _ _ _ _ h => by cases h⟩
  | go k =>
    have h1 : x1 = .of (nameF (s.drop k) k) := h1
    have key : x6 = .of (attrF at_ (s.drop k) k) ∧ ∀ at2 r k', attrF at_ (s.drop k) k = .ok at2 r k' → at2 = at_ ++ [⟨v1, v2⟩] := by
      unfold attrF
      have K1 := nameF_keeps s k
      cases o1 : nameF (s.drop k) k with
      | short =>
        rw [o1] at h1
        have h1 : x1 = .short := h1
        subst h1
        have h2 : x2 = .short := h2
        subst h2
        have h3 : x3 = .short := by rw [h3]; split <;> rfl
        subst h3
        have h4 : x4 = .short := h4
        subst h4
        have h5 : x5 = .short := h5
        subst h5
        exact ⟨h6, fun _ _ _ h => by cases h⟩
      | bad e =>
        rw [o1] at h1
        have h1 : x1 = .bad e := h1
        subst h1
        have h2 : x2 = .bad e := h2
        subst h2
        have h3 : x3 = .bad e := by rw [h3]; split <;> rfl
        subst h3
        have h4 : x4 = .bad e := h4
        subst h4
        have h5 : x5 = .bad e := h5
        subst h5
        exact ⟨h6, fun _ _ _ h => by cases h⟩
      | ok a r1 k1 =>
        rw [o1] at h1
        have h1 : x1 = .go k1 := h1
        subst h1
        obtain rfl := n1 k a r1 k1 rfl o1
        obtain rfl := K1 _ _ _ o1
        have h2 : x2 = .of (needF [61] (s.drop k1) k1) := h2
        have K2 := needF_keeps s [61] k1
        simp only [Out.bind]
        cases o2 : needF [61] (s.drop k1) k1 with
        | short =>
          rw [o2] at h2
          have h2 : x2 = .short := h2
          subst h2
          have h3 : x3 = .short := by rw [h3]; split <;> rfl
          subst h3
          have h4 : x4 = .short := h4
          subst h4
          have h5 : x5 = .short := h5
          subst h5
          exact ⟨h6, fun _ _ _ h => by cases h⟩
        | bad e =>
          rw [o2] at h2
          have h2 : x2 = .bad e := h2
          subst h2
          have h3 : x3 = .bad e := by rw [h3]; split <;> rfl
          subst h3
          have h4 : x4 = .bad e := h4
          subst h4
          have h5 : x5 = .bad e := h5
          subst h5
          exact ⟨h6, fun _ _ _ h => by cases h⟩
        | ok u r2 k2 =>
          rw [o2] at h2
          have h2 : x2 = .go k2 := h2
          subst h2
          obtain rfl := K2 _ _ _ o2
          simp only
          have hb2 : (at_.any (fun x => x.name == v1) || decide (8 ≤ at_.length)) = b := by
            rw [hb]
            congr 1
            rw [Bool.eq_iff_iff, decide_eq_true_eq, decide_eq_true_eq]
            omega
          rw [hb2]
          cases b with
          | true =>
            have h3 : x3 = .bad 41 := h3
            subst h3
            have h4 : x4 = .bad 41 := h4
            subst h4
            have h5 : x5 = .bad 41 := h5
            subst h5
            exact ⟨h6, fun _ _ _ h => by cases h⟩
          | false =>
            have h3 : x3 = .go k2 := h3
            subst h3
            have h4 : x4 = .of (needF [34] (s.drop k2) k2) := h4
            have K4 := needF_keeps s [34] k2
            simp only [Bool.false_eq_true, if_false]
            cases o4 : needF [34] (s.drop k2) k2 with
            | short =>
              rw [o4] at h4
              have h4 : x4 = .short := h4
              subst h4
              have h5 : x5 = .short := h5
              subst h5
              exact ⟨h6, fun _ _ _ h => by cases h⟩
            | bad e =>
              rw [o4] at h4
              have h4 : x4 = .bad e := h4
              subst h4
              have h5 : x5 = .bad e := h5
              subst h5
              exact ⟨h6, fun _ _ _ h => by cases h⟩
            | ok u r4 k4 =>
              rw [o4] at h4
              have h4 : x4 = .go k4 := h4
              subst h4
              obtain rfl := K4 _ _ _ o4
              have h5 : x5 = .of (runF plainB (s.drop k4) k4) := h5
              have K5 := runF_keeps plainB s _ k4 rfl
              simp only
              cases o5 : runF plainB (s.drop k4) k4 with
              | short =>
                rw [o5] at h5
                have h5 : x5 = .short := h5
                subst h5
                exact ⟨h6, fun _ _ _ h => by cases h⟩
              | bad e =>
                rw [o5] at h5
                have h5 : x5 = .bad e := h5
                subst h5
                exact ⟨h6, fun _ _ _ h => by cases h⟩
              | ok v r5 k5 =>
                rw [o5] at h5
                have h5 : x5 = .go k5 := h5
                subst h5
                obtain rfl := n5 k4 v r5 k5 rfl o5
                obtain rfl := K5 _ _ _ o5
                have h6 : x6 = .of (needF [34] (s.drop k5) k5) := h6
                simp only
                cases o6 : needF [34] (s.drop k5) k5 with
                | short => rw [o6] at h6; exact ⟨h6, fun _ _ _ h => by cases h⟩
                | bad e => rw [o6] at h6; exact ⟨h6, fun _ _ _ h => by cases h⟩
                | ok u r6 k6 =>
                  rw [o6] at h6
                  exact ⟨h6, fun _ _ _ h => by injection h with h _ _; exact h.symm⟩
    exact ⟨key.1, fun k2 at2 r k' h => by injection h with h; subst h; exact key.2 at2 r k'⟩
/-- A tag, behind its mark. -/
def refTagF (closing : Bool) (s : List UInt8) : Out Token :=
  if closing then (nameF (s.drop 6) 6).bind fun nm r k => (runF blankB r k).bind fun _ r k => (needF [62] r k).bind fun _ r k => .ok ⟨2, nm, []⟩ r k
  else (nameF (s.drop 5) 5).bind fun nm r k => tagRest (r.length + 1) nm [] r k
theorem needF_beg : ∀ (m r : List UInt8) (k : Nat), begF r m = true → k + m.length ≤ 400 → needF m r k = .ok () (r.drop m.length) (k + m.length)
  | [], r, k, _, _ => by simp [needF]
  | c :: m, r, k, h, hk => by
    unfold begF at h
    rw [Bool.and_eq_true, decide_eq_true_eq, beq_iff_eq] at h
    obtain ⟨h1, h2⟩ := h
    cases r with
    | nil => simp at h1
    | cons x r =>
      rw [List.length_cons, List.take_succ_cons] at h2
      injection h2 with h3 h4
      subst h3
      rw [List.length_cons] at hk h1
      rw [List.length_cons] at h1
      have hp : peekF (x :: r) k = .ok x (x :: r) k := by unfold peekF; simp only; rw [if_neg (by omega)]
      rw [needF, hp]
      simp only [Out.bind, List.tail_cons, if_true]
      rw [needF_beg m r (k + 1) (by unfold begF; rw [h4, decide_eq_true (by omega)]; simp) (by omega), List.length_cons, List.drop_succ_cons]
      congr 1
      omega
theorem tagF_ref {s m : List UInt8} (hm : m = openB ∨ m = closB) (h : begF s m = true) : tagF m s 0 = refTagF (begF s closB) s := by
  rcases hm with rfl | rfl
  · have hc : begF s closB = false := by
      unfold begF at h ⊢
      rw [Bool.and_eq_true, decide_eq_true_eq, beq_iff_eq] at h
      rw [Bool.and_eq_false_iff, beq_eq_false_iff_ne]
      refine .inr fun e => ?_
      have h2 := congrArg (List.take 2) h.2
      have h3 := congrArg (List.take 2) e
      rw [List.take_take] at h2 h3
      have h2 : s.take 2 = [60, 101] := h2
      have h3 : s.take 2 = [60, 47] := h3
      rw [h2] at h3
      exact absurd h3 (by decide)
    rw [hc, tagF, needF_beg openB s 0 h (by decide)]
    rfl
  · rw [h, tagF, needF_beg closB s 0 h (by decide)]
    rfl
theorem refTagF_keeps (closing : Bool) (s : List UInt8) : ∀ t r k, refTagF closing s = .ok t r k → k ≤ s.length → r = s.drop k := by
  intro t r k h _
  have key : Keeps s (refTagF closing s) := by
    unfold refTagF
    split
    · exact (nameF_keeps s 6).bind fun nm k => (runF_keeps _ s _ k rfl).bind fun _ k => (needF_keeps s _ k).bind fun _ k => keeps_ok s _ k
    · refine (nameF_keeps s 5).bind fun nm k => ?_
      have hr : ∀ (n : Nat) (at_ : List Pair) (k : Nat), Keeps s (tagRest n nm at_ (s.drop k) k) := by
        intro n
        induction n with
        | zero => intro at_ k t r k' h; cases h
        | succ n ih =>
          intro at_ k
          rw [tagRest]
          refine (runF_keeps _ s _ k rfl).bind fun gap k => (peekF_keeps s k).bind fun c k => ?_
          unfold tagTail
          split
          · rw [List.tail_drop]; exact keeps_ok s _ _
          · split
            · rw [List.tail_drop]
              exact (needF_keeps s _ _).bind fun _ k => keeps_ok s _ k
            · split
              · exact keeps_bad s 40
              · rw [attr_tail]
                exact (attrF_keeps s at_ k).bind fun at2 k => ih at2 k
      exact hr _ _ _
  exact key t r k h
/-! ### Right -/
def refRight (x : LexSt) : Bool :=
  if x.rest = [] then true
  else if refMark x.inside x.rest = [] ∨ x.rest.length < (refMark x.inside x.rest).length then decide (refMark x.inside x.rest ≠ [])
  else if refMark x.inside x.rest = behB ∨ refMark x.inside x.rest = remB then false
  else match tagF (refMark x.inside x.rest) x.rest 0 with
    | .short => true
    | _ => false
theorem right_ref (x : LexSt) : rightF x = refRight x := by
  obtain ⟨s, b⟩ := x
  unfold rightF refRight
  simp only
  by_cases hs : s = []
  · subst hs; rfl
  rw [if_neg hs]
  have hn := markF_nil b s
  have hpos := List.length_pos_iff.2 hs
  have hmk := markF_marks b s
  rw [refMark_eq]
  generalize markF b s = p at *
  obtain ⟨m, i⟩ := p
  simp only at hn hmk ⊢
  by_cases hi : i = 0
  · subst hi
    have hm : m ≠ [] := fun e => by have := hn.1 e; omega
    simp only [if_true, hs, hm, false_or, ne_eq, not_true_eq_false, not_false_eq_true, decide_true]
    by_cases hl : s.length < m.length
    · simp [hl]
    · rw [if_neg hl, if_neg hl]
      by_cases ho : m = openB ∨ m = closB
      · have hnr : ¬ (m = behB ∨ m = remB) := by rcases ho with rfl | rfl <;> decide
        rw [if_neg hnr, decide_eq_true ho]
        unfold cutF
        cases ht : tagF m s 0 with
        | ok t r k =>
          have := (tagF_total ht).2.2.2
          simp; omega
        | short => simp
        | bad e =>
          have : e ≠ 0 := tagF_err m s 0 e ht
          simp [this]
      · have hr : m = behB ∨ m = remB := by
          rcases hmk with h | h | h | h | h
          · exact absurd h hm
          · exact absurd (.inl h) ho
          · exact absurd (.inr h) ho
          · exact .inr h
          · exact .inl h
        rw [if_pos hr, decide_eq_false ho]
        rfl
  · simp [hi, hs]
/-! ### Join -/
def joinR : List Token → List UInt8 → List Token → List Token
  | [], tx, out => if tx = [] then out else out ++ [textTok tx]
  | t :: l, tx, out => if t.kind = 0 then joinR l (tx ++ t.text) out else joinR l [] ((if tx = [] then out else out ++ [textTok tx]) ++ [t])
theorem joinR_eq : ∀ (l : List Token) (tx : List UInt8) (out : List Token), (∀ t ∈ l, PlainT t) → EndsTag out → joinR l tx out = l.foldl joinStep (if tx = [] then out else out ++ [textTok tx])
  | [], tx, out, _, _ => rfl
  | t :: l, tx, out, hp, ho => by
    rw [joinR, List.foldl_cons]
    split
    · rename_i hk
      rw [joinR_eq l _ out (fun x hx => hp x (by simp [hx])) ho]
      congr 1
      obtain ⟨k, x, a⟩ := t
      have hk : k = 0 := hk
      subst hk
      have ha : a = [] := by
        rcases hp ⟨0, x, a⟩ (by simp) with h | h
        · exact h.2
        · rcases h with h | h | h <;> cases h
      subst ha
      unfold joinStep
      simp only [ne_eq, not_true_eq_false, if_false]
      by_cases hx : x = []
      · subst hx; simp
      · rw [if_neg hx, if_neg (by simp [hx])]
        by_cases ht : tx = []
        · subst ht
          simp only [if_true, List.nil_append]
          split
          · rename_i u hu
            rw [if_neg (ho u hu)]
            rfl
          · rfl
        · rw [if_neg ht]
          simp only [List.getLast?_append, List.getLast?_singleton, Option.some_or, List.dropLast_concat]
          rfl
    · rename_i hk
      rw [joinR_eq l [] _ (fun x hx => hp x (by simp [hx])) (by intro u hu; rw [List.getLast?_concat] at hu; injection hu with hu; subst hu; exact hk), if_pos rfl, joinStep_tag hk]
theorem join_ref {l : List Token} (h : ∀ t ∈ l, PlainT t) : joinR l [] [] = joinF l := joinR_eq l [] [] h (fun u hu => by cases hu)
end Go.Proofs.YtijpfcjlochahaaGreatDoor
namespace Go.Proofs.YtijpfcjlochahaaGreatDoor
set_option linter.unusedVariables false
set_option linter.unusedSimpArgs false
open Go Go.RowKit

/-- The reader's fields at a state. -/
def rsIs (s : ByteArray) : Rs → Int → Int → Bool → Prop
  | .go k, a, z, sh => k ≤ s.size ∧ a = k ∧ z = 0 ∧ sh = false
  | .short, _, z, sh => z = 0 ∧ sh = true
  | .bad n, _, z, sh => z = n ∧ n ≠ 0 ∧ sh = false
def rCells (s : ByteArray) (a z : Int) (sh : Bool) : Array Value := #[.string s, .int .i64 a, .int .i64 z, .bool sh]
def RsIn (w : World) (b : Nat) (s : ByteArray) (x : Rs) : Prop := ∃ a z sh, Blk w b 107 (rCells s a z sh) ∧ rsIs s x a z sh
theorem RsIn.lt {w : World} {b : Nat} {s : ByteArray} {x : Rs} (h : RsIn w b s x) : b < w.heap.size := by
  obtain ⟨a, z, sh, hb, _⟩ := h
  exact hb.lt
theorem RsIn.grown {w w' : World} {b : Nat} {s : ByteArray} {x : Rs} {row : Option Nat} (h : RsIn w b s x) (hg : w.grownBy w' row) (hr : some b ≠ row) : RsIn w' b s x := by
  obtain ⟨a, z, sh, hb, hi⟩ := h
  exact ⟨a, z, sh, hb.grown hg hr, hi⟩
theorem RsIn.below {w w' : World} {b : Nat} {s : ByteArray} {x : Rs} (h : RsIn w b s x) (hb : Below w.heap.size w w') : RsIn w' b s x := by
  obtain ⟨a, z, sh, h1, hi⟩ := h
  exact ⟨a, z, sh, h1.below hb h1.lt, hi⟩
theorem RsIn.drewN {w : World} {b : Nat} {s : ByteArray} {x : Rs} (h : RsIn w b s x) (n : Nat) : RsIn (w.drewN n) b s x := h
/-- Its cells. -/
theorem rblk {w : World} {b : Nat} {s : ByteArray} {a z : Int} {sh : Bool} (h : Blk w b 107 (rCells s a z sh)) :
    (w.cell? ⟨b, 0, none⟩ = some (.string s) ∧ w.cell? ⟨b, 1, none⟩ = some (.int .i64 a) ∧ w.cell? ⟨b, 2, none⟩ = some (.int .i64 z) ∧ w.cell? ⟨b, 3, none⟩ = some (.bool sh)) ∧
      w.frozen? ⟨b, 1, none⟩ = false ∧ w.frozen? ⟨b, 2, none⟩ = false ∧ w.frozen? ⟨b, 3, none⟩ = false :=
  ⟨⟨h.cell 0, h.cell 1, h.cell 2, h.cell 3⟩, h.frozen 1, h.frozen 2, h.frozen 3⟩
theorem rset1 {w : World} {b : Nat} {s : ByteArray} {a z : Int} {sh : Bool} (h : Blk w b 107 (rCells s a z sh)) (n : Int) : Blk (w.setCell ⟨b, 1, none⟩ (.int .i64 n)) b 107 (rCells s n z sh) := h.set_ 1 _
theorem rset2 {w : World} {b : Nat} {s : ByteArray} {a z : Int} {sh : Bool} (h : Blk w b 107 (rCells s a z sh)) (n : Int) : Blk (w.setCell ⟨b, 2, none⟩ (.int .i64 n)) b 107 (rCells s a n sh) := h.set_ 2 _
theorem rset3 {w : World} {b : Nat} {s : ByteArray} {a z : Int} {sh : Bool} (h : Blk w b 107 (rCells s a z sh)) (q : Bool) : Blk (w.setCell ⟨b, 3, none⟩ (.bool q)) b 107 (rCells s a z q) := h.set_ 3 _

theorem rletter_calls (c : UInt8) (w : World) : Calls Tryz.prog 182 #[.int .u8 c.toNat] w fun e w' => e = .returned (.bool (letterB c)) ∧ w = w' := by
  go_enter Tryz.func182, Tryz.ntmps182
  go_wp2
  all_goals
    go_ret
    refine ⟨ret_bool ?_, rfl⟩
    simp only [letterB, u8_beq, u8_le, UInt8.reduceToNat]
    first | rfl | (simp [*]; done) | (simp [*]; omega)
theorem rblank_calls (c : UInt8) (w : World) : Calls Tryz.prog 183 #[.int .u8 c.toNat] w fun e w' => e = .returned (.bool (blankB c)) ∧ w = w' := by
  go_enter Tryz.func183, Tryz.ntmps183
  go_wp2
  all_goals
    go_ret
    refine ⟨ret_bool ?_, rfl⟩
    simp only [blankB, u8_beq, UInt8.reduceToNat]
    first | rfl | (simp [*]; done)

set_option maxRecDepth 20000 in
set_option maxHeartbeats 400000 in
theorem goes_calls (s : ByteArray) (b : Nat) (x : Rs) (w : World) (h : RsIn w b s x) :
    Calls Tryz.prog 150 #[.pointer (some ⟨b, 0, none⟩)] w fun e w' => e = .returned (.bool x.live) ∧ w = w' := by
  obtain ⟨a, z, sh, hb, hi⟩ := h
  obtain ⟨⟨c0, c1, c2, c3⟩, f1, f2, f3⟩ := rblk hb
  cases x with
  | go k =>
    obtain ⟨hk, rfl, rfl, rfl⟩ := hi
    go_enter Tryz.func150, Tryz.ntmps150
    go_wp2_with fail
    go_ret
    exact ⟨rfl, rfl⟩
  | short =>
    obtain ⟨rfl, rfl⟩ := hi
    go_enter Tryz.func150, Tryz.ntmps150
    go_wp2_with fail
    go_ret
    exact ⟨rfl, rfl⟩
  | bad n =>
    obtain ⟨rfl, hz, rfl⟩ := hi
    have hz1 : (z == 0) = false := by rw [beq_eq_false_iff_ne]; exact hz
    clear hz
    go_enter Tryz.func150, Tryz.ntmps150
    go_wp2_with fail
    go_ret
    exact ⟨rfl, rfl⟩

/-- The byte that next answers. -/
def nextC (s : List UInt8) : Rs → UInt8
  | .go k => match peekF (s.drop k) k with
    | .ok c _ _ => c
    | _ => 0
  | _ => 0
set_option maxRecDepth 20000 in
set_option maxHeartbeats 1000000 in
theorem next_calls (s : ByteArray) (b : Nat) (x : Rs) (w : World) (h : RsIn w b s x) (hs : s.size ≤ 10000000) :
    Calls Tryz.prog 151 #[.pointer (some ⟨b, 0, none⟩)] w fun e w' => e = .returned (.int .u8 (nextC (L s) x).toNat) ∧ RsIn w' b s (x.after (L s) peekF) ∧ w.grownBy w' (some b) := by
  obtain ⟨a, z, sh, hb, hi⟩ := h
  have HB := Lib.hid hb
  obtain ⟨⟨c0, c1, c2, c3⟩, f1, f2, f3⟩ := rblk hb
  clear hb
  cases x with
  | go k =>
    obtain ⟨hk, rfl, rfl, rfl⟩ := hi
    rcases Nat.lt_or_ge k s.size with hks | hks
    · rcases Nat.lt_or_ge k 400 with h4 | h4
      · go_enter Tryz.func151, Tryz.ntmps151
        go_wp2_with fail
        go_quiet (fail)
        go_wp2_with fail
        go_quiet (fail)
        go_wp2_with fail
        go_ret
        refine ⟨?_, ⟨_, _, _, HB.out, ?_⟩, grown_drewN (grown_drewN (grown_refl _ _) _) _⟩
        · rw [nextC, peekF_ok hks h4]; rfl
        · rw [Rs.after, peekF_ok hks h4]
          exact ⟨hk, rfl, rfl, rfl⟩
      · go_enter Tryz.func151, Tryz.ntmps151
        go_wp2_with fail
        go_quiet (fail)
        go_wp2_with fail
        go_ret
        refine ⟨?_, ⟨_, _, _, rset2 HB.out 2, ?_⟩, grown_setCell (grown_drewN (grown_refl _ _) _) (.inl rfl) _⟩
        · rw [nextC, peekF_long hks h4]; rfl
        · rw [Rs.after, peekF_long hks h4]
          exact ⟨rfl, by decide, rfl⟩
    · go_enter Tryz.func151, Tryz.ntmps151
      go_wp2_with fail
      go_quiet (fail)
      go_wp2_with fail
      go_ret
      refine ⟨?_, ⟨_, _, _, rset3 HB.out true, ?_⟩, grown_setCell (grown_drewN (grown_refl _ _) _) (.inl rfl) _⟩
      · rw [nextC, peekF_short hks]; rfl
      · rw [Rs.after, peekF_short hks]
        exact ⟨rfl, rfl⟩
  | short =>
    obtain ⟨rfl, rfl⟩ := hi
    go_enter Tryz.func151, Tryz.ntmps151
    go_wp2_with fail
    go_ret
    exact ⟨rfl, ⟨_, _, _, HB.out, rfl, rfl⟩, grown_refl _ _⟩
  | bad n =>
    obtain ⟨rfl, hz, rfl⟩ := hi
    have HZ := Lib.hid hz
    have hz1 : (z != 0) = true := by rw [bne_iff_ne]; exact hz
    clear hz
    go_enter Tryz.func151, Tryz.ntmps151
    go_wp2_with fail
    go_ret
    exact ⟨rfl, ⟨_, _, _, HB.out, rfl, HZ.out, rfl⟩, grown_refl _ _⟩

set_option maxRecDepth 20000 in
set_option maxHeartbeats 1000000 in
theorem fail_calls (s : ByteArray) (b : Nat) (x : Rs) (n : Int) (hn : n ≠ 0) (w : World) (h : RsIn w b s x) :
    Calls Tryz.prog 152 #[.pointer (some ⟨b, 0, none⟩), .int .i64 n] w fun e w' => e = .returned (.tuple #[]) ∧ RsIn w' b s (x.fail n) ∧ w.grownBy w' (some b) := by
  have HN := Lib.hid hn
  clear hn
  cases x with
  | go k =>
    have H := Lib.hid h
    obtain ⟨a, z, sh, hb, hi⟩ := h
    have HB := Lib.hid hb
    obtain ⟨hk, rfl, rfl, rfl⟩ := hi
    obtain ⟨⟨c0, c1, c2, c3⟩, f1, f2, f3⟩ := rblk hb
    clear hb
    go_enter Tryz.func152, Tryz.ntmps152
    go_wp2_with fail
    refine (goes_calls s b _ w H.out).mono ?_
    rintro e w1 ⟨rfl, rfl⟩
    have hlive : Rs.live (.go k) = true := rfl
    go_wp2_with fail
    go_end0
    exact ⟨rfl, ⟨_, _, _, rset2 HB.out n, rfl, HN.out, rfl⟩, grown_setCell (grown_refl _ _) (.inl rfl) _⟩
  | short =>
    have H := Lib.hid h
    clear h
    go_enter Tryz.func152, Tryz.ntmps152
    go_wp2_with fail
    refine (goes_calls s b _ w H.out).mono ?_
    rintro e w1 ⟨rfl, rfl⟩
    have hlive : Rs.live .short = false := rfl
    go_wp2_with fail
    go_end0
    exact ⟨rfl, H.out, grown_refl _ _⟩
  | bad z =>
    have H := Lib.hid h
    clear h
    go_enter Tryz.func152, Tryz.ntmps152
    go_wp2_with fail
    refine (goes_calls s b _ w H.out).mono ?_
    rintro e w1 ⟨rfl, rfl⟩
    have hlive : Rs.live (.bad z) = false := rfl
    go_wp2_with fail
    go_end0
    exact ⟨rfl, H.out, grown_refl _ _⟩

theorem need_state (s : List UInt8) (c : UInt8) (x : Rs) : x.after s (needF [c]) = match x.after s peekF with
    | .go k => if nextC s x = c then .go (k + 1) else .bad 40
    | d => d := by
  cases x with
  | go k =>
    rw [Rs.after, Rs.after, nextC, needF]
    cases h : peekF (s.drop k) k with
    | ok y r k1 =>
      by_cases hc : y = c
      · simp only [Out.bind, Rs.of, if_pos hc, needF]
      · simp only [Out.bind, Rs.of, if_neg hc]
    | short => rfl
    | bad n => rfl
  | short => rfl
  | bad n => rfl
theorem after_peek_lt {s : ByteArray} {x : Rs} {k : Nat} (h : x.after (L s) peekF = .go k) : k < s.size := by
  cases x with
  | go j =>
    rw [Rs.after] at h
    cases hp : peekF ((L s).drop j) j with
    | ok y r k1 =>
      rw [hp] at h
      injection h with h
      subst h
      obtain ⟨rfl, rfl, -, t, ht⟩ := peekF_inv hp
      have := congrArg List.length ht
      rw [List.length_drop, List.length_cons, ← size_L] at this
      omega
    | short => rw [hp] at h; cases h
    | bad n => rw [hp] at h; cases h
  | short => cases h
  | bad n => cases h
set_option maxRecDepth 20000 in
set_option maxHeartbeats 1000000 in
theorem rneed_calls (s : ByteArray) (b : Nat) (x : Rs) (c : UInt8) (w : World) (h : RsIn w b s x) (hs : s.size ≤ 10000000) :
    Calls Tryz.prog 149 #[.pointer (some ⟨b, 0, none⟩), .int .u8 c.toNat] w fun e w' => e = .returned (.tuple #[]) ∧ RsIn w' b s (x.after (L s) (needF [c])) ∧ w.grownBy w' (some b) := by
  rw [need_state]
  have HL := Lib.hid (fun k => after_peek_lt (s := s) (x := x) (k := k))
  have HN := Lib.hid (next_calls s b x w h hs)
  clear h
  generalize nextC (L s) x = d at *
  generalize x.after (L s) peekF = y at *
  go_enter Tryz.func149, Tryz.ntmps149
  go_wp2_with fail
  refine HN.out.mono ?_
  rintro e w1 ⟨rfl, h1, hg1⟩
  have H1 := Lib.hid h1
  have HG1 := Lib.hid hg1
  clear hg1
  go_wp2_with fail
  refine (goes_calls s b _ w1 H1.out).mono ?_
  rintro e w2 ⟨rfl, rfl⟩
  cases y with
  | go k =>
    have hlive : Rs.live (.go k) = true := rfl
    have hk := HL.out k rfl
    obtain ⟨a, z, sh, hb, hi⟩ := h1
    have HB := Lib.hid hb
    obtain ⟨hk0, rfl, rfl, rfl⟩ := hi
    obtain ⟨⟨c0, c1, c2, c3⟩, f1, f2, f3⟩ := rblk hb
    clear hb
    by_cases hc : d = c
    · have hc1 : ((d.toNat : Int) != (c.toNat : Int)) = false := by rw [hc]; simp
      have HC := Lib.hid hc
      clear hc
      go_wp2_with fail
      refine (goes_calls s b _ w1 H1.out).mono ?_
      rintro e w3 ⟨rfl, rfl⟩
      go_wp2_with fail
      go_end0
      refine ⟨rfl, ⟨_, _, _, rset1 HB.out ((k : Int) + 1), ?_⟩, grown_setCell HG1.out (.inl rfl) _⟩
      exact ⟨hk, by omega, rfl, rfl⟩
    · have hc1 : ((d.toNat : Int) != (c.toNat : Int)) = true := by rw [bne_iff_ne]; exact fun e => hc ((u8_eq _ _).2 e)
      have HC := Lib.hid hc
      clear hc
      have H2 : Hid (RsIn (w1.setCell ⟨b, 2, none⟩ (.int .i64 40)) b s (.bad 40)) := ⟨_, _, _, rset2 HB.out 40, rfl, by decide, rfl⟩
      have hlive2 : Rs.live (.bad 40) = false := rfl
      go_wp2_with fail
      refine (goes_calls s b _ _ H2.out).mono ?_
      rintro e w3 ⟨rfl, rfl⟩
      go_wp2_with fail
      go_end0
      refine ⟨rfl, ?_, grown_setCell HG1.out (.inl rfl) _⟩
      exact H2.out
  | short =>
    have hlive : Rs.live .short = false := rfl
    clear h1
    go_wp2_with fail
    refine (goes_calls s b _ w1 H1.out).mono ?_
    rintro e w3 ⟨rfl, rfl⟩
    go_wp2_with fail
    go_end0
    exact ⟨rfl, H1.out, HG1.out⟩
  | bad n =>
    have hlive : Rs.live (.bad n) = false := rfl
    clear h1
    go_wp2_with fail
    refine (goes_calls s b _ w1 H1.out).mono ?_
    rintro e w3 ⟨rfl, rfl⟩
    go_wp2_with fail
    go_end0
    exact ⟨rfl, H1.out, HG1.out⟩
end Go.Proofs.YtijpfcjlochahaaGreatDoor
namespace Go.Proofs.YtijpfcjlochahaaGreatDoor
set_option linter.unusedVariables false
set_option linter.unusedSimpArgs false
open Go Go.RowKit

theorem dead_after {α : Type} {s : List UInt8} {x : Rs} (h : x.live = false) (f : List UInt8 → Nat → Out α) : x.after s f = x := by
  cases x with
  | go k => cases h
  | short => rfl
  | bad n => rfl
theorem dead_fail {x : Rs} (h : x.live = false) (n : Int) : x.fail n = x := by
  cases x with
  | go k => cases h
  | short => rfl
  | bad n => rfl
theorem live_go {x : Rs} (h : x.live = true) : ∃ k, x = .go k := by
  cases x with
  | go k => exact ⟨k, rfl⟩
  | short => cases h
  | bad n => cases h
theorem peek_idem {s : List UInt8} {x y : Rs} (h : y = x.after s peekF) : y.after s peekF = y := by
  subst h
  cases x with
  | go k =>
    rw [Rs.after]
    cases hp : peekF (s.drop k) k with
    | ok c r k1 =>
      obtain ⟨rfl, rfl, _⟩ := peekF_inv hp
      show Rs.of (peekF (s.drop k1) k1) = _
      rw [hp]
    | short => rfl
    | bad n => rfl
  | short => rfl
  | bad n => rfl
theorem peek_pred (p : UInt8 → Bool) (s : ByteArray) (k : Nat) :
    ((((Rs.go k).after (L s) peekF).live && p (nextC (L s) (.go k))) = true → k < s.size ∧ k < 400 ∧ (Rs.go k).after (L s) peekF = .go k ∧ runTo p ((L s).drop k) k = runTo p ((L s).drop (k + 1)) (k + 1)) ∧
    ((((Rs.go k).after (L s) peekF).live && p (nextC (L s) (.go k))) = false → Rs.of (runTo p ((L s).drop k) k) = (Rs.go k).after (L s) peekF ∧ ∀ k', (Rs.go k).after (L s) peekF = .go k' → k' = k ∧ runTo p ((L s).drop k) k = .ok () ((L s).drop k) k) := by
  rcases Nat.lt_or_ge k s.size with hks | hks
  · rcases Nat.lt_or_ge k 400 with h4 | h4
    · have e1 : (Rs.go k).after (L s) peekF = .go k := by rw [Rs.after, peekF_ok hks h4]; rfl
      have e2 : nextC (L s) (.go k) = s[k] := by rw [nextC, peekF_ok hks h4]
      rw [e1, e2]
      refine ⟨fun h => ⟨hks, h4, rfl, runTo_go hks h4 (by simpa [Rs.live] using h)⟩, fun h => ?_⟩
      have hp : p s[k] = false := by simpa [Rs.live] using h
      rw [runTo_stop hks h4 hp]
      exact ⟨rfl, fun k' h => by injection h with h; exact ⟨h.symm, rfl⟩⟩
    · have e1 : (Rs.go k).after (L s) peekF = .bad 2 := by rw [Rs.after, peekF_long hks h4]; rfl
      rw [e1, runTo_long hks h4]
      exact ⟨fun h => (by cases h), fun _ => ⟨rfl, fun k' h => (by cases h)⟩⟩
  · have e1 : (Rs.go k).after (L s) peekF = .short := by rw [Rs.after, peekF_short hks]; rfl
    rw [e1, runTo_short hks]
    exact ⟨fun h => (by cases h), fun _ => ⟨rfl, fun k' h => (by cases h)⟩⟩
theorem ext_snoc (s : ByteArray) {i k : Nat} (h : i ≤ k) : s.extract i k ++ s.extract k (k + 1) = s.extract i (k + 1) := by
  apply L_ext
  rw [L_append, L_extract, L_extract, L_extract, List.drop_take, List.drop_take, List.drop_take, show k + 1 - i = (k - i) + (k + 1 - k) by omega, List.take_add, List.drop_drop, show i + (k - i) = k by omega]
theorem runF_of {p : UInt8 → Bool} {s : List UInt8} {k : Nat} {y : Rs} {F : Out Unit} (hF : F = runTo p (s.drop k) k) (hy : Rs.of F = y) : Rs.of (runF p (s.drop k) k) = y := by
  rw [runF_eq, ← hF, ← hy]
  cases F <;> rfl
/-- What is returned where the reader goes on: a text. -/
def StrPost (b : Nat) (s : ByteArray) (w : World) (x : Rs) (f : List UInt8 → Nat → Out (List UInt8)) (e : Ending) (w' : World) : Prop :=
  (∃ v : ByteArray, e = .returned (.string v) ∧ v.size ≤ 10000000 ∧ ∀ k l r k', x = .go k → f ((L s).drop k) k = .ok l r k' → L v = l) ∧ RsIn w' b s (x.after (L s) f) ∧ w.grownBy w' (some b)
theorem run_text {p : UInt8 → Bool} {s : ByteArray} {k k' : Nat} {y : Rs} {F : Out Unit} (hF : F = runTo p ((L s).drop k) k) (hy : Rs.of F = y) (hk : ∀ k2, y = .go k2 → k2 = k' ∧ F = .ok () ((L s).drop k') k') :
    ∀ l r k2, runF p ((L s).drop k) k = .ok l r k2 → L (s.extract k k') = l := by
  intro l r k2 h
  have h1 := runF_of hF hy
  rw [h] at h1
  obtain ⟨-, h3⟩ := hk k2 h1.symm
  rw [runF_eq, ← hF, h3] at h
  injection h with h _ _
  rw [← h, L_extract, List.drop_take]

set_option maxRecDepth 20000 in
set_option maxHeartbeats 2000000 in
theorem value_live (s : ByteArray) (b k : Nat) (w : World) (h : RsIn w b s (.go k)) (hs : s.size ≤ 10000000) :
    Calls Tryz.prog 184 #[.pointer (some ⟨b, 0, none⟩)] w (StrPost b s w (.go k) (runF plainB)) := by
  generalize hF : runTo plainB ((L s).drop k) k = F
  have HF := Lib.hid hF
  clear hF
  go_enter Tryz.func184, Tryz.ntmps184
  go_wp2_with fail
  go_loopw [3] (fun o wr => ∃ (q : ByteArray) (k' : Nat), o = .string q ∧ k ≤ k' ∧ RsIn wr b s (.go k') ∧ w.grownBy wr (some b) ∧ Hid (q = s.extract k k') ∧ Hid (F = runTo plainB ((L s).drop k') k'))
     (fun _ wr => s.size - (intOf ((wr.cell? ⟨b, 1, none⟩).getD undef)).toNat)
  case atStart => exact ⟨_, k, rfl, Nat.le_refl _, h, World.grownBy.refl w _, by rw [Hid]; exact L_ext (by rw [L_extract, List.drop_take, Nat.sub_self]; rfl), HF.out.symm⟩
  case round =>
    obtain ⟨q, k', rfl, hkk, hr, hg, HQ, HF'⟩ := hrel
    have HR := Lib.hid hr
    have HPP := Lib.hid (peek_pred plainB s k')
    have HKS : Hid (k' ≤ s.size) := by obtain ⟨_, _, _, _, hi⟩ := hr; exact hi.1
    have HM : Hid ((wr.cell? ⟨b, 1, none⟩).getD undef = .int .i64 (k' : Int)) := by
      obtain ⟨_, _, _, hb, hi⟩ := hr
      rw [Hid, (rblk hb).1.2.1, hi.2.1]; rfl
    clear hr
    have HN := Lib.hid (next_calls s b (.go k') wr HR.out hs)
    generalize hc : nextC (L s) (.go k') = c at *
    generalize hy : (Rs.go k').after (L s) peekF = y at *
    have HY := Lib.hid hy
    clear hc hy
    go_wp2_with fail
    refine HN.out.mono ?_
    rintro e w1 ⟨rfl, h1, hg1⟩
    have H1 := Lib.hid h1
    have HG1 := Lib.hid (grown_grown hg hg1 (fun _ h => .inl h))
    clear hg1 h1
    go_wp2_with fail
    refine (goes_calls s b _ w1 H1.out).mono ?_
    rintro e w2 ⟨rfl, rfl⟩
    have HFB : Hid ((y.live && plainB c) = false → StrPost b s w (.go k) (runF plainB) (.returned (.string q)) w1) := by
      intro hf
      obtain ⟨e1, e2⟩ := HPP.out.2 hf
      have hof : Rs.of F = y := by rw [HF'.out]; exact e1
      refine ⟨⟨q, rfl, ?_, fun k2 l r k3 hk2 hr2 => ?_⟩, ?_, HG1.out⟩
      · rw [HQ.out, ByteArray.size_extract]; omega
      · injection hk2 with hk2
        subst hk2
        rw [HQ.out]
        exact run_text HF.out.symm hof (fun k2 h => by rw [HF'.out]; exact e2 k2 h) l r k3 hr2
      · show RsIn w1 b s (Rs.of (runF plainB ((L s).drop k) k))
        rw [runF_of HF.out.symm hof]
        exact H1.out
    cases hyl : y.live with
    | false =>
      have HFIN := Lib.hid (HFB.out (by rw [hyl]; rfl))
      clear HPP HFB
      go_wp2_with fail
      go_ret
      exact HFIN.out
    | true =>
      cases hp : plainB c with
      | false =>
        have HFIN := Lib.hid (HFB.out (by rw [hyl, hp]; rfl))
        have hp2 : c = 34 ∨ c = 60 ∨ c = 62 := by
          simp only [plainB, Bool.and_eq_false_iff, bne_eq_false_iff_eq] at hp
          rcases hp with (h | h) | h
          · exact .inl h
          · exact .inr (.inl h)
          · exact .inr (.inr h)
        clear HPP HFB HN hp
        rcases hp2 with rfl | rfl | rfl
        all_goals
          go_wp2_with fail
          go_ret
          exact HFIN.out
      | true =>
        obtain ⟨e1, e2, e3, e4⟩ := HPP.out.1 (by rw [hyl, hp]; rfl)
        have HE4 := Lib.hid e4
        have hp1 : ((c.toNat : Int) == 34) = false := by
          have h : c ≠ 34 := by intro h; subst h; cases hp
          rw [beq_eq_false_iff_ne]; exact fun e => h ((u8_eq c 34).2 e)
        have hp2 : ((c.toNat : Int) == 60) = false := by
          have h : c ≠ 60 := by intro h; subst h; cases hp
          rw [beq_eq_false_iff_ne]; exact fun e => h ((u8_eq c 60).2 e)
        have hp3 : ((c.toNat : Int) == 62) = false := by
          have h : c ≠ 62 := by intro h; subst h; cases hp
          rw [beq_eq_false_iff_ne]; exact fun e => h ((u8_eq c 62).2 e)
        clear HPP HFB HN
        subst e3
        obtain ⟨a, z, sh, hb, hi⟩ := H1.out
        have HB := Lib.hid hb
        obtain ⟨hk0, rfl, rfl, rfl⟩ := hi
        obtain ⟨⟨c0, c1, c2, c3⟩, f1, f2, f3⟩ := rblk hb
        have hqs : q.size ≤ 10000000 := by rw [HQ.out, ByteArray.size_extract]; omega
        have hqt : q.size + (s.extract k' (k' + 1)).size ≤ 20000000 := by rw [ByteArray.size_extract]; omega
        have hkb : (k' : Int) < 10000000 := by omega
        clear e4 hp hb
        go_wp2_with fail
        go_quiet (fail)
        go_wp2_with fail
        go_roundw
        case rel => exact ⟨_, k' + 1, rfl, by omega, ⟨_, _, _, rset1 HB.out ((k' : Int) + 1), e1, by omega, rfl, rfl⟩, grown_setCell (grown_drewN HG1.out _) (.inl rfl) _, by
            rw [Hid, HQ.out]; exact ext_snoc s hkk, by rw [Hid, HF'.out]; exact HE4.out⟩
        case measure =>
          have e5 := fun n => (rblk (rset1 (HB.out.drewN n) ((k' : Int) + 1))).1.2.1
          rw [HM.out]
          simp [intOf, e5]
          omega

theorem nextC_dead {s : List UInt8} {x : Rs} (h : (x.after s peekF).live = false) : nextC s x = 0 := by
  cases x with
  | go k =>
    rw [nextC]
    rw [Rs.after] at h
    cases hp : peekF (s.drop k) k with
    | ok c r k1 => rw [hp] at h; cases h
    | short => rfl
    | bad n => rfl
  | short => rfl
  | bad n => rfl
theorem name_fin {s : List UInt8} {k : Nat} {q : ByteArray} {y : Rs} (h1 : Rs.of (runF letterB (s.drop k) k) = y) (h2 : ∀ l r k2, runF letterB (s.drop k) k = .ok l r k2 → L q = l) :
    Rs.of (nameF (s.drop k) k) = (if L q = [] then y.fail 40 else y) ∧ ∀ l r k2, nameF (s.drop k) k = .ok l r k2 → L q = l := by
  unfold nameF
  cases h : runF letterB (s.drop k) k with
  | ok l r k2 =>
    rw [h] at h1
    have e := h2 l r k2 h
    subst h1
    simp only [Out.bind]
    rw [e]
    by_cases hl : l = []
    · rw [if_pos hl, if_pos hl]
      exact ⟨rfl, fun _ _ _ h => by cases h⟩
    · rw [if_neg hl, if_neg hl]
      exact ⟨rfl, fun _ _ _ h => by injection h with h _ _⟩
  | short =>
    rw [h] at h1
    subst h1
    refine ⟨?_, fun _ _ _ h => by cases h⟩
    split <;> rfl
  | bad n =>
    rw [h] at h1
    subst h1
    refine ⟨?_, fun _ _ _ h => by cases h⟩
    split <;> rfl

set_option maxRecDepth 20000 in
set_option maxHeartbeats 2000000 in
theorem name_live (s : ByteArray) (b k : Nat) (w : World) (h : RsIn w b s (.go k)) (hs : s.size ≤ 10000000) :
    Calls Tryz.prog 147 #[.pointer (some ⟨b, 0, none⟩)] w (StrPost b s w (.go k) nameF) := by
  generalize hF : runTo letterB ((L s).drop k) k = F
  have HF := Lib.hid hF
  clear hF
  go_enter Tryz.func147, Tryz.ntmps147
  go_wp2_with fail
  go_loopw [3] (fun o wr => ∃ (q : ByteArray) (k' : Nat), o = .string q ∧ k ≤ k' ∧ RsIn wr b s (.go k') ∧ w.grownBy wr (some b) ∧ Hid (q = s.extract k k') ∧ Hid (F = runTo letterB ((L s).drop k') k'))
     (fun _ wr => s.size - (intOf ((wr.cell? ⟨b, 1, none⟩).getD undef)).toNat)
  case atStart => exact ⟨_, k, rfl, Nat.le_refl _, h, World.grownBy.refl w _, by rw [Hid]; exact L_ext (by rw [L_extract, List.drop_take, Nat.sub_self]; rfl), HF.out.symm⟩
  case round =>
    obtain ⟨q, k', rfl, hkk, hr, hg, HQ, HF'⟩ := hrel
    have HR := Lib.hid hr
    have HPP := Lib.hid (peek_pred letterB s k')
    have HKS : Hid (k' ≤ s.size) := by obtain ⟨_, _, _, _, hi⟩ := hr; exact hi.1
    have HM : Hid ((wr.cell? ⟨b, 1, none⟩).getD undef = .int .i64 (k' : Int)) := by
      obtain ⟨_, _, _, hb, hi⟩ := hr
      rw [Hid, (rblk hb).1.2.1, hi.2.1]; rfl
    clear hr
    have HN := Lib.hid (next_calls s b (.go k') wr HR.out hs)
    have HY0 := Lib.hid (nextC_dead (s := L s) (x := .go k'))
    have HID : Hid (((Rs.go k').after (L s) peekF).after (L s) peekF = (Rs.go k').after (L s) peekF) := peek_idem rfl
    generalize hc : nextC (L s) (.go k') = c at *
    generalize hy : (Rs.go k').after (L s) peekF = y at *
    clear hc hy
    have hlive : (Rs.go k').live = true := rfl
    go_wp2_with fail
    refine (goes_calls s b _ wr HR.out).mono ?_
    rintro e w0 ⟨rfl, rfl⟩
    go_wp2_with fail
    refine HN.out.mono ?_
    rintro e w1 ⟨rfl, h1, hg1⟩
    have H1 := Lib.hid h1
    have HG1 := Lib.hid (grown_grown hg hg1 (fun _ h => .inl h))
    clear hg1 h1
    go_wp2_with fail
    refine (rletter_calls c w1).mono ?_
    rintro e w2 ⟨rfl, rfl⟩
    cases hp : letterB c with
    | false =>
      have HFB : Hid (Rs.of (nameF ((L s).drop k) k) = (if L q = [] then y.fail 40 else y) ∧ ∀ l r k2, nameF ((L s).drop k) k = .ok l r k2 → L q = l) := by
        obtain ⟨e1, e2⟩ := HPP.out.2 (by rw [hp, Bool.and_false])
        have hof : Rs.of F = y := by rw [HF'.out]; exact e1
        refine name_fin (runF_of HF.out.symm hof) (fun l r k2 h => ?_)
        rw [HQ.out]
        exact run_text HF.out.symm hof (fun k2 h => by rw [HF'.out]; exact e2 k2 h) l r k2 h
      have HQS : Hid (q.size ≤ 10000000) := by rw [Hid, HQ.out, ByteArray.size_extract]; omega
      have HN2 := Lib.hid (next_calls s b y w1 H1.out hs)
      rw [HID.out] at HN2
      clear HPP HN HY0 hlive
      generalize nextC (L s) y = c2 at *
      cases hq : q.toList.isEmpty with
      | true =>
        have HQE : Hid (L q = []) := by rw [toList_L] at hq; exact List.isEmpty_iff.1 hq
        go_wp2_with fail
        refine HN2.out.mono ?_
        rintro e w3 ⟨rfl, h3, hg3⟩
        have H3 := Lib.hid h3
        have HG3 := Lib.hid (grown_grown HG1.out hg3 (fun _ h => .inl h))
        clear h3 hg3
        go_wp2_with fail
        refine (fail_calls s b y 40 (by decide) w3 H3.out).mono ?_
        rintro e w4 ⟨rfl, h4, hg4⟩
        have H4 := Lib.hid h4
        have HG4 := Lib.hid (grown_grown HG3.out hg4 (fun _ h => .inl h))
        clear h4 hg4
        go_wp2_with fail
        go_ret
        refine ⟨⟨q, rfl, HQS.out, fun k2 l r k3 hk2 hr2 => ?_⟩, ?_, HG4.out⟩
        · injection hk2 with hk2
          subst hk2
          exact HFB.out.2 l r k3 hr2
        · show RsIn w4 b s (Rs.of (nameF ((L s).drop k) k))
          rw [HFB.out.1, if_pos HQE.out]
          exact H4.out
      | false =>
        have HQE : Hid (¬ L q = []) := by rw [toList_L] at hq; exact fun h => by rw [h] at hq; cases hq
        go_wp2_with fail
        refine HN2.out.mono ?_
        rintro e w3 ⟨rfl, h3, hg3⟩
        have H3 := Lib.hid h3
        have HG3 := Lib.hid (grown_grown HG1.out hg3 (fun _ h => .inl h))
        clear h3 hg3
        go_wp2_with fail
        go_ret
        refine ⟨⟨q, rfl, HQS.out, fun k2 l r k3 hk2 hr2 => ?_⟩, ?_, HG3.out⟩
        · injection hk2 with hk2
          subst hk2
          exact HFB.out.2 l r k3 hr2
        · show RsIn w3 b s (Rs.of (nameF ((L s).drop k) k))
          rw [HFB.out.1, if_neg HQE.out]
          exact H3.out
    | true =>
      have hyl : y.live = true := by
        cases h : y.live with
        | true => rfl
        | false => rw [HY0.out h] at hp; cases hp
      obtain ⟨e1, e2, e3, e4⟩ := HPP.out.1 (by rw [hyl, hp]; rfl)
      have HE4 := Lib.hid e4
      clear HPP HN HY0 HID hyl
      subst e3
      obtain ⟨a, z, sh, hb, hi⟩ := H1.out
      have HB := Lib.hid hb
      obtain ⟨hk0, rfl, rfl, rfl⟩ := hi
      obtain ⟨⟨c0, c1, c2, c3⟩, f1, f2, f3⟩ := rblk hb
      have hqs : q.size ≤ 10000000 := by rw [HQ.out, ByteArray.size_extract]; omega
      have hqt : q.size + (s.extract k' (k' + 1)).size ≤ 20000000 := by rw [ByteArray.size_extract]; omega
      have hkb : (k' : Int) < 10000000 := by omega
      clear e4 hb
      go_wp2_with fail
      go_quiet (fail)
      go_wp2_with fail
      go_roundw
      case rel => exact ⟨_, k' + 1, rfl, by omega, ⟨_, _, _, rset1 HB.out ((k' : Int) + 1), e1, by omega, rfl, rfl⟩, grown_setCell (grown_drewN HG1.out _) (.inl rfl) _, by
          rw [Hid, HQ.out]; exact ext_snoc s hkk, by rw [Hid, HF'.out]; exact HE4.out⟩
      case measure =>
        have e5 := fun n => (rblk (rset1 (HB.out.drewN n) ((k' : Int) + 1))).1.2.1
        rw [HM.out]
        simp [intOf, e5]
        omega
end Go.Proofs.YtijpfcjlochahaaGreatDoor
namespace Go.Proofs.YtijpfcjlochahaaGreatDoor
set_option linter.unusedVariables false
set_option linter.unusedSimpArgs false
open Go Go.RowKit

/-- What is returned where the reader goes on: a count. -/
def CntPost (b : Nat) (s : ByteArray) (w : World) (x : Rs) (f : List UInt8 → Nat → Out (List UInt8)) (e : Ending) (w' : World) : Prop :=
  (∃ n : Nat, e = .returned (.int .i64 n) ∧ n ≤ 10000000 ∧ ∀ k l r k', x = .go k → f ((L s).drop k) k = .ok l r k' → n = l.length) ∧ RsIn w' b s (x.after (L s) f) ∧ w.grownBy w' (some b)
theorem run_count {p : UInt8 → Bool} {s : ByteArray} {k k' : Nat} {y : Rs} {F : Out Unit} (hF : F = runTo p ((L s).drop k) k) (hy : Rs.of F = y) (hk : ∀ k2, y = .go k2 → k2 = k' ∧ F = .ok () ((L s).drop k') k') :
    ∀ l r k2, runF p ((L s).drop k) k = .ok l r k2 → k' = k + l.length := by
  intro l r k2 h
  have h1 := runF_of hF hy
  rw [h] at h1
  obtain ⟨rfl, -⟩ := hk k2 h1.symm
  exact runF_pos h
set_option maxRecDepth 20000 in
set_option maxHeartbeats 2000000 in
theorem blanks_live (s : ByteArray) (b k : Nat) (w : World) (h : RsIn w b s (.go k)) (hs : s.size ≤ 10000000) :
    Calls Tryz.prog 148 #[.pointer (some ⟨b, 0, none⟩)] w (CntPost b s w (.go k) (runF blankB)) := by
  generalize hF : runTo blankB ((L s).drop k) k = F
  have HF := Lib.hid hF
  clear hF
  go_enter Tryz.func148, Tryz.ntmps148
  go_wp2_with fail
  go_loopw [3] (fun o wr => ∃ (n k' : Nat), o = .int .i64 n ∧ k' = k + n ∧ RsIn wr b s (.go k') ∧ w.grownBy wr (some b) ∧ Hid (F = runTo blankB ((L s).drop k') k'))
     (fun _ wr => s.size - (intOf ((wr.cell? ⟨b, 1, none⟩).getD undef)).toNat)
  case atStart => exact ⟨0, k, rfl, rfl, h, World.grownBy.refl w _, HF.out.symm⟩
  case round =>
    obtain ⟨n, k', rfl, hkk, hr, hg, HF'⟩ := hrel
    have HKK := Lib.hid hkk
    have HR := Lib.hid hr
    have HPP := Lib.hid (peek_pred blankB s k')
    have HKS : Hid (k' ≤ s.size) := by obtain ⟨_, _, _, _, hi⟩ := hr; exact hi.1
    have hnb : n ≤ 10000000 := by have := HKS.out; omega
    have HM : Hid ((wr.cell? ⟨b, 1, none⟩).getD undef = .int .i64 (k' : Int)) := by
      obtain ⟨_, _, _, hb, hi⟩ := hr
      rw [Hid, (rblk hb).1.2.1, hi.2.1]; rfl
    clear hr hkk
    have HN := Lib.hid (next_calls s b (.go k') wr HR.out hs)
    have HY0 := Lib.hid (nextC_dead (s := L s) (x := .go k'))
    have HID : Hid (((Rs.go k').after (L s) peekF).after (L s) peekF = (Rs.go k').after (L s) peekF) := peek_idem rfl
    generalize hc : nextC (L s) (.go k') = c at *
    generalize hy : (Rs.go k').after (L s) peekF = y at *
    clear hc hy
    have hlive : (Rs.go k').live = true := rfl
    go_wp2_with fail
    refine (goes_calls s b _ wr HR.out).mono ?_
    rintro e w0 ⟨rfl, rfl⟩
    go_wp2_with fail
    refine HN.out.mono ?_
    rintro e w1 ⟨rfl, h1, hg1⟩
    have H1 := Lib.hid h1
    have HG1 := Lib.hid (grown_grown hg hg1 (fun _ h => .inl h))
    clear hg1 h1
    go_wp2_with fail
    refine (rblank_calls c w1).mono ?_
    rintro e w2 ⟨rfl, rfl⟩
    cases hp : blankB c with
    | false =>
      have HFB : Hid (Rs.of (runF blankB ((L s).drop k) k) = y ∧ ∀ l r k2, runF blankB ((L s).drop k) k = .ok l r k2 → n = l.length) := by
        obtain ⟨e1, e2⟩ := HPP.out.2 (by rw [hp, Bool.and_false])
        have hof : Rs.of F = y := by rw [HF'.out]; exact e1
        refine ⟨runF_of HF.out.symm hof, fun l r k2 h => ?_⟩
        have := run_count HF.out.symm hof (fun k2 h => by rw [HF'.out]; exact e2 k2 h) l r k2 h
        have := HKK.out
        omega
      have HN2 := Lib.hid (next_calls s b y w1 H1.out hs)
      rw [HID.out] at HN2
      clear HPP HN HY0 hlive
      generalize nextC (L s) y = c2 at *
      go_wp2_with fail
      refine HN2.out.mono ?_
      rintro e w3 ⟨rfl, h3, hg3⟩
      have H3 := Lib.hid h3
      have HG3 := Lib.hid (grown_grown HG1.out hg3 (fun _ h => .inl h))
      clear h3 hg3
      go_wp2_with fail
      go_ret
      refine ⟨⟨n, rfl, hnb, fun k2 l r k3 hk2 hr2 => ?_⟩, ?_, HG3.out⟩
      · injection hk2 with hk2
        subst hk2
        exact HFB.out.2 l r k3 hr2
      · show RsIn w3 b s (Rs.of (runF blankB ((L s).drop k) k))
        rw [HFB.out.1]
        exact H3.out
    | true =>
      have hyl : y.live = true := by
        cases h : y.live with
        | true => rfl
        | false => rw [HY0.out h] at hp; cases hp
      obtain ⟨e1, e2, e3, e4⟩ := HPP.out.1 (by rw [hyl, hp]; rfl)
      have HE4 := Lib.hid e4
      clear HPP HN HY0 HID hyl
      subst e3
      obtain ⟨a, z, sh, hb, hi⟩ := H1.out
      have HB := Lib.hid hb
      obtain ⟨hk0, rfl, rfl, rfl⟩ := hi
      obtain ⟨⟨c0, c1, c2, c3⟩, f1, f2, f3⟩ := rblk hb
      have hkb : (k' : Int) < 10000000 := by omega
      clear e4 hb
      go_wp2_with fail
      go_roundw
      case rel => exact ⟨n + 1, k' + 1, by go_num, by have := HKK.out; omega, ⟨_, _, _, rset1 HB.out ((k' : Int) + 1), e1, by omega, rfl, rfl⟩, grown_setCell HG1.out (.inl rfl) _, by rw [Hid, HF'.out]; exact HE4.out⟩
      case measure =>
        have e5 := (rblk (rset1 HB.out ((k' : Int) + 1))).1.2.1
        rw [HM.out]
        simp [intOf, e5]
        omega
set_option maxRecDepth 20000 in
set_option maxHeartbeats 2000000 in
theorem blanks_dead (s : ByteArray) (b : Nat) (x : Rs) (hx : x.live = false) (w : World) (h : RsIn w b s x) (hs : s.size ≤ 10000000) :
    Calls Tryz.prog 148 #[.pointer (some ⟨b, 0, none⟩)] w (CntPost b s w x (runF blankB)) := by
  have H := Lib.hid h
  have HX := Lib.hid hx
  have HN := Lib.hid (next_calls s b x w h hs)
  rw [dead_after hx] at HN
  generalize nextC (L s) x = c at *
  clear h
  go_enter Tryz.func148, Tryz.ntmps148
  go_wp2_with fail
  go_loopw [3] (fun o wr => o = .int .i64 0 ∧ wr = w) (fun _ _ => 0)
  case atStart => exact ⟨rfl, rfl⟩
  case round =>
    obtain ⟨rfl, rfl⟩ := hrel
    go_wp2_with fail
    refine (goes_calls s b _ _ H.out).mono ?_
    rintro e w0 ⟨rfl, rfl⟩
    go_wp2_with fail
    refine HN.out.mono ?_
    rintro e w3 ⟨rfl, h3, hg3⟩
    have H3 := Lib.hid h3
    have HG3 := Lib.hid hg3
    clear h3 hg3
    go_wp2_with fail
    go_ret
    refine ⟨⟨0, rfl, Nat.zero_le _, fun k2 l r k3 hk2 hr2 => ?_⟩, ?_, HG3.out⟩
    · rw [hk2] at hx; cases hx
    · rw [dead_after HX.out]
      exact H3.out
set_option maxRecDepth 20000 in
set_option maxHeartbeats 2000000 in
theorem name_dead (s : ByteArray) (b : Nat) (x : Rs) (hx : x.live = false) (w : World) (h : RsIn w b s x) (hs : s.size ≤ 10000000) :
    Calls Tryz.prog 147 #[.pointer (some ⟨b, 0, none⟩)] w (StrPost b s w x nameF) := by
  have H := Lib.hid h
  have HX := Lib.hid hx
  have HN := Lib.hid (next_calls s b x w h hs)
  rw [dead_after hx] at HN
  generalize nextC (L s) x = c at *
  clear h
  go_enter Tryz.func147, Tryz.ntmps147
  go_wp2_with fail
  go_loopw [3] (fun o wr => o = .string ⟨#[]⟩ ∧ wr = w) (fun _ _ => 0)
  case atStart => exact ⟨rfl, rfl⟩
  case round =>
    obtain ⟨rfl, rfl⟩ := hrel
    go_wp2_with fail
    refine (goes_calls s b _ _ H.out).mono ?_
    rintro e w0 ⟨rfl, rfl⟩
    go_wp2_with fail
    refine HN.out.mono ?_
    rintro e w3 ⟨rfl, h3, hg3⟩
    have H3 := Lib.hid h3
    have HG3 := Lib.hid hg3
    clear h3 hg3
    go_wp2_with fail
    refine (fail_calls s b x 40 (by decide) w3 H3.out).mono ?_
    rintro e w4 ⟨rfl, h4, hg4⟩
    have H4 := Lib.hid h4
    have HG4 := Lib.hid (grown_grown HG3.out hg4 (fun _ h => .inl h))
    clear h4 hg4
    go_wp2_with fail
    go_ret
    refine ⟨⟨_, rfl, Nat.zero_le _, fun k2 l r k3 hk2 hr2 => ?_⟩, ?_, HG4.out⟩
    · rw [hk2] at hx; cases hx
    · rw [dead_after HX.out]
      have h := H4.out
      rw [dead_fail HX.out] at h
      exact h
set_option maxRecDepth 20000 in
set_option maxHeartbeats 2000000 in
theorem value_dead (s : ByteArray) (b : Nat) (x : Rs) (hx : x.live = false) (w : World) (h : RsIn w b s x) (hs : s.size ≤ 10000000) :
    Calls Tryz.prog 184 #[.pointer (some ⟨b, 0, none⟩)] w (StrPost b s w x (runF plainB)) := by
  have H := Lib.hid h
  have HX := Lib.hid hx
  have HN := Lib.hid (next_calls s b x w h hs)
  rw [dead_after hx] at HN
  generalize nextC (L s) x = c at *
  clear h
  go_enter Tryz.func184, Tryz.ntmps184
  go_wp2_with fail
  go_loopw [3] (fun o wr => o = .string ⟨#[]⟩ ∧ wr = w) (fun _ _ => 0)
  case atStart => exact ⟨rfl, rfl⟩
  case round =>
    obtain ⟨rfl, rfl⟩ := hrel
    go_wp2_with fail
    refine HN.out.mono ?_
    rintro e w3 ⟨rfl, h3, hg3⟩
    have H3 := Lib.hid h3
    have HG3 := Lib.hid hg3
    clear h3 hg3
    go_wp2_with fail
    refine (goes_calls s b _ _ H3.out).mono ?_
    rintro e w0 ⟨rfl, rfl⟩
    go_wp2_with fail
    go_ret
    refine ⟨⟨_, rfl, Nat.zero_le _, fun k2 l r k3 hk2 hr2 => ?_⟩, ?_, HG3.out⟩
    · rw [hk2] at hx; cases hx
    · rw [dead_after HX.out]
      exact H3.out
theorem rname_calls (s : ByteArray) (b : Nat) (x : Rs) (w : World) (h : RsIn w b s x) (hs : s.size ≤ 10000000) :
    Calls Tryz.prog 147 #[.pointer (some ⟨b, 0, none⟩)] w (StrPost b s w x nameF) := by
  cases hx : x.live with
  | true =>
    obtain ⟨k, rfl⟩ := live_go hx
    exact name_live s b k w h hs
  | false => exact name_dead s b x hx w h hs
theorem rvalue_calls (s : ByteArray) (b : Nat) (x : Rs) (w : World) (h : RsIn w b s x) (hs : s.size ≤ 10000000) :
    Calls Tryz.prog 184 #[.pointer (some ⟨b, 0, none⟩)] w (StrPost b s w x (runF plainB)) := by
  cases hx : x.live with
  | true =>
    obtain ⟨k, rfl⟩ := live_go hx
    exact value_live s b k w h hs
  | false => exact value_dead s b x hx w h hs
theorem rblanks_calls (s : ByteArray) (b : Nat) (x : Rs) (w : World) (h : RsIn w b s x) (hs : s.size ≤ 10000000) :
    Calls Tryz.prog 148 #[.pointer (some ⟨b, 0, none⟩)] w (CntPost b s w x (runF blankB)) := by
  cases hx : x.live with
  | true =>
    obtain ⟨k, rfl⟩ := live_go hx
    exact blanks_live s b k w h hs
  | false => exact blanks_dead s b x hx w h hs
end Go.Proofs.YtijpfcjlochahaaGreatDoor
