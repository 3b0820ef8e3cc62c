/- Plain: what the document's own lexer (layer 14's reference) comes to, and that it is what lex comes to. No program is named here. -/
import Derived.Test.YtijpfcjlochahaaDoorPJoin
import Derived.Test.YtijpfcjlochahaaDoorPLex
namespace Go.Proofs.YtijpfcjlochahaaDoor
open Go Go.RowKit

/-! ### Marks -/
def begF (s t : List UInt8) : Bool := decide (t.length ≤ s.length) && (s.take t.length == t)
theorem beg_hits (s m : List UInt8) : (begF s m || begF m s) = hits s m := by
  unfold begF hits
  by_cases h : m.length ≤ s.length
  · rw [decide_eq_true h, Bool.true_and, List.take_of_length_le h]
    by_cases h2 : s.length ≤ m.length
    · have e : s.length = m.length := by omega
      rw [decide_eq_true h2, Bool.true_and, List.take_of_length_le h2, Bool.eq_iff_iff]
      simp only [Bool.or_eq_true, beq_iff_eq]
      exact ⟨fun h => h.elim id Eq.symm, .inl⟩
    · rw [decide_eq_false h2, Bool.false_and, Bool.or_false]
  · have h2 : s.length ≤ m.length := by omega
    rw [decide_eq_false h, Bool.false_and, Bool.false_or, decide_eq_true h2, Bool.true_and, List.take_of_length_le h2, Bool.eq_iff_iff]
    simp only [beq_iff_eq]
    exact ⟨Eq.symm, Eq.symm⟩
/-- The mark that a text begins with, or is the beginning of. -/
def refMark (b : Bool) (s : List UInt8) : List UInt8 :=
  if s = [] then [] else if hits s openB then openB else if hits s closB then closB else if hits s (lastMark b) then lastMark b else []
theorem hits_head {c x : UInt8} {l m : List UInt8} (h : c ≠ x) : hits (c :: l) (x :: m) = false := by
  unfold hits
  rw [List.length_cons, List.length_cons, List.take_succ_cons, List.take_succ_cons, beq_eq_false_iff_ne]
  intro e
  injection e with e _
  exact h e
theorem refMark_eq (b : Bool) : ∀ s : List UInt8, refMark b s = if (markF b s).2 = 0 then (markF b s).1 else []
  | [] => rfl
  | c :: l => by
    rw [markF_cons, refMark, if_neg (by simp)]
    have hm : (if hits (c :: l) openB then openB else if hits (c :: l) closB then closB else if hits (c :: l) (lastMark b) then lastMark b else []) = (markAt b (c :: l)).getD [] := by
      unfold markAt
      split
      · rfl
      · split
        · rfl
        · split <;> rfl
    rw [hm]
    unfold markHere
    by_cases hc : c = 60 ∨ c = 45
    · simp only [if_pos hc]
      cases markAt b (c :: l) with
      | none => simp
      | some m => simp
    · simp only [if_neg hc]
      have h1 : hits (c :: l) openB = false := hits_head fun e => hc (.inl e)
      have h2 : hits (c :: l) closB = false := hits_head fun e => hc (.inl e)
      have h3 : hits (c :: l) (lastMark b) = false := by
        unfold lastMark
        split
        · exact hits_head fun e => hc (.inr e)
        · exact hits_head fun e => hc (.inl e)
      have e : markAt b (c :: l) = none := by unfold markAt; rw [h1, h2, h3]; rfl
      rw [e]
      simp
theorem markF_at (b : Bool) : ∀ (s : List UInt8) (j : Nat), j ≤ (markF b s).2 → markF b (s.drop j) = ((markF b s).1, (markF b s).2 - j)
  | [], j, h => by
    have h : j ≤ 0 := h
    obtain rfl : j = 0 := by omega
    rfl
  | c :: l, 0, _ => rfl
  | c :: l, j + 1, h => by
    rw [markF_cons] at h ⊢
    cases hh : markHere b (c :: l) with
    | some m => rw [hh] at h; exact absurd h (Nat.not_succ_le_zero j)
    | none =>
      rw [hh] at h
      have h : j + 1 ≤ (markF b l).2 + 1 := h
      rw [List.drop_succ_cons, markF_at b l j (by omega)]
      show _ = ((markF b l).1, (markF b l).2 + 1 - (j + 1))
      rw [Nat.add_sub_add_right]
theorem markF_nil (b : Bool) : ∀ s : List UInt8, (markF b s).1 = [] ↔ (markF b s).2 = s.length
  | [] => by simp [markF]
  | c :: l => by
    rw [markF_cons]
    cases hh : markHere b (c :: l) with
    | some m =>
      have := markHere_ne hh
      simp [this]
    | none =>
      have ih := markF_nil b l
      show (markF b l).1 = [] ↔ (markF b l).2 + 1 = (c :: l).length
      rw [ih, List.length_cons]
      omega
theorem markF_le (b : Bool) (s : List UInt8) : (markF b s).2 ≤ s.length := (markF_len b s).2
/-- The mark at a place at or ahead of the first one. -/
theorem refMark_at {b : Bool} {s : List UInt8} {j : Nat} (h : j ≤ (markF b s).2) : refMark b (s.drop j) = if j = (markF b s).2 then (markF b s).1 else [] := by
  rw [refMark_eq, markF_at b s j h]
  by_cases e : j = (markF b s).2
  · rw [if_pos (by show (markF b s).2 - j = 0; omega), if_pos e]
  · rw [if_neg (by show ¬ (markF b s).2 - j = 0; omega), if_neg e]

/-! ### Reading a tag: its states -/
inductive Rs where
  | go (k : Nat)
  | short
  | bad (e : Int)
namespace Rs
def of {α : Type} : Out α → Rs
  | .ok _ _ k => .go k
  | .short => .short
  | .bad e => .bad e
def after {α : Type} (s : List UInt8) (x : Rs) (f : List UInt8 → Nat → Out α) : Rs :=
  match x with
  | .go k => of (f (s.drop k) k)
  | .short => .short
  | .bad e => .bad e
def fail (x : Rs) (e : Int) : Rs :=
  match x with
  | .go _ => .bad e
  | .short => .short
  | .bad e => .bad e
def live : Rs → Bool
  | .go _ => true
  | _ => false
end Rs
/-- What is left is what stands at the place. -/
def Keeps {α : Type} (s : List UInt8) (o : Out α) : Prop := ∀ a r k, o = .ok a r k → r = s.drop k
theorem Keeps.bind {α β : Type} {s : List UInt8} {o : Out α} {f : α → List UInt8 → Nat → Out β} (h : Keeps s o) (hf : ∀ a k, Keeps s (f a (s.drop k) k)) : Keeps s (o.bind f) := by
  intro b r k e
  obtain ⟨a, r1, k1, h1, h2⟩ := Out.bind_ok e
  obtain rfl := h _ _ _ h1
  exact hf a k1 _ _ _ h2
theorem keeps_ok {α : Type} (s : List UInt8) (a : α) (k : Nat) : Keeps s (.ok a (s.drop k) k) := fun _ _ _ e => by injection e with _ h2 h3; subst h3; exact h2.symm
theorem keeps_bad {α : Type} (s : List UInt8) (e : Int) : Keeps s (Out.bad e : Out α) := fun _ _ _ h => by cases h
theorem peekF_keeps (s : List UInt8) (k : Nat) : Keeps s (peekF (s.drop k) k) := fun a r k' h => by
  obtain ⟨rfl, rfl, _⟩ := peekF_inv h
  rfl
theorem needF_keeps (s : List UInt8) : ∀ (m : List UInt8) (k : Nat), Keeps s (needF m (s.drop k) k)
  | [], k => keeps_ok s () k
  | c :: m, k => by
    intro a r k' h
    rw [needF] at h
    obtain ⟨x, r1, k1, h1, h2⟩ := Out.bind_ok h
    obtain ⟨rfl, rfl, _⟩ := peekF_inv h1
    split at h2
    · rw [List.tail_drop] at h2
      exact needF_keeps s m (k1 + 1) _ _ _ h2
    · cases h2
theorem runF_keeps (p : UInt8 → Bool) (s : List UInt8) : ∀ (r : List UInt8) (k : Nat), r = s.drop k → Keeps s (runF p r k)
  | [], k, _ => fun _ _ _ h => by cases h
  | c :: r, k, hr => by
    rw [runF]
    split
    · exact keeps_bad s 2
    · split
      · intro a r' k' h
        obtain ⟨x, r1, k1, h1, h2⟩ := Out.bind_ok h
        have hr1 : r = s.drop (k + 1) := by rw [← List.tail_drop, ← hr]; rfl
        have := runF_keeps p s r (k + 1) hr1 _ _ _ h1
        injection h2 with _ h3 h4
        subst h3 h4
        exact this
      · rw [hr]; exact keeps_ok s [] k
theorem nameF_keeps (s : List UInt8) (k : Nat) : Keeps s (nameF (s.drop k) k) := by
  intro a r k' h
  rw [nameF] at h
  obtain ⟨x, r1, k1, h1, h2⟩ := Out.bind_ok h
  have := runF_keeps letterB s _ k rfl _ _ _ h1
  split at h2
  · cases h2
  · injection h2 with _ h3 h4
    subst h3 h4
    exact this
theorem Out.bind_assoc {α β γ : Type} (o : Out α) (f : α → List UInt8 → Nat → Out β) (g : β → List UInt8 → Nat → Out γ) : (o.bind f).bind g = o.bind fun a r k => (f a r k).bind g := by
  cases o <;> rfl
/-- One more attribute. -/
def attrF (at_ : List Pair) (r : List UInt8) (k : Nat) : Out (List Pair) :=
  (nameF r k).bind fun a r k => (needF [61] r k).bind fun _ r k =>
  if at_.any (fun x => x.name == a) || decide (8 ≤ at_.length) then .bad 41 else
  (needF [34] r k).bind fun _ r k => (runF plainB r k).bind fun v r k => (needF [34] r k).bind fun _ r k => .ok (at_ ++ [⟨a, v⟩]) r k
theorem attrF_keeps (s : List UInt8) (at_ : List Pair) (k : Nat) : Keeps s (attrF at_ (s.drop k) k) := by
  refine (nameF_keeps s k).bind fun a k => (needF_keeps s _ k).bind fun _ k => ?_
  split
  · exact keeps_bad s 41
  · exact (needF_keeps s _ k).bind fun _ k => (runF_keeps _ s _ k rfl).bind fun v k => (needF_keeps s _ k).bind fun _ k => keeps_ok s _ k
theorem attr_tail (go : List Pair → List UInt8 → Nat → Out Token) (at_ : List Pair) (r : List UInt8) (k : Nat) :
    ((nameF r k).bind fun a r k => (needF [61] r k).bind fun _ r k => tagEq go at_ a r k) = (attrF at_ r k).bind fun at2 r k => go at2 r k := by
  unfold attrF tagEq tagVal
  rw [Out.bind_assoc]
  congr 1
  funext a r k
  rw [Out.bind_assoc]
  congr 1
  funext _ r k
  split
  · rfl
  · rw [Out.bind_assoc]
    congr 1
    funext _ r k
    rw [Out.bind_assoc]
    congr 1
    funext v r k
    rw [Out.bind_assoc]
    rfl
/-- The states of an attribute, one behind the other. -/
theorem attr_states {s : List UInt8} {at_ : List Pair} {x x1 x2 x3 x4 x5 x6 : Rs} {v1 v2 : List UInt8} {b : Bool}
    (h1 : x1 = x.after s nameF) (n1 : ∀ k l r k', x = .go k → nameF (s.drop k) k = .ok l r k' → v1 = l)
    (h2 : x2 = x1.after s (needF [61])) (hb : b = (at_.any (fun x => x.name == v1) || decide (at_.length = 8))) (h3 : x3 = if b then x2.fail 41 else x2)
    (h4 : x4 = x3.after s (needF [34])) (h5 : x5 = x4.after s (runF plainB)) (n5 : ∀ k l r k', x4 = .go k → runF plainB (s.drop k) k = .ok l r k' → v2 = l)
    (h6 : x6 = x5.after s (needF [34])) (hl : at_.length ≤ 8) :
    x6 = x.after s (attrF at_) ∧ ∀ k at2 r k', x = .go k → attrF at_ (s.drop k) k = .ok at2 r k' → at2 = at_ ++ [⟨v1, v2⟩] := by
  cases x with
  | short =>
    have h1 : x1 = .short := h1
    subst h1
    have h2 : x2 = .short := h2
    subst h2
    have h3 : x3 = .short := by rw [h3]; split <;> rfl
    subst h3
    have h4 : x4 = .short := h4
    subst h4
    have h5 : x5 = .short := h5
    subst h5
    exact ⟨h6, fun _ _ _ _ h => by cases h⟩
  | bad e =>
    have h1 : x1 = .bad e := h1
    subst h1
    have h2 : x2 = .bad e := h2
    subst h2
    have h3 : x3 = .bad e := by rw [h3]; split <;> rfl
    subst h3
    have h4 : x4 = .bad e := h4
    subst h4
    have h5 : x5 = .bad e := h5
    subst h5
    exact ⟨h6, fun _ _ _ _ h => by cases h⟩
  | go k =>
    have h1 : x1 = .of (nameF (s.drop k) k) := h1
    have key : x6 = .of (attrF at_ (s.drop k) k) ∧ ∀ at2 r k', attrF at_ (s.drop k) k = .ok at2 r k' → at2 = at_ ++ [⟨v1, v2⟩] := by
      unfold attrF
      have K1 := nameF_keeps s k
      cases o1 : nameF (s.drop k) k with
      | short =>
        rw [o1] at h1
        have h1 : x1 = .short := h1
        subst h1
        have h2 : x2 = .short := h2
        subst h2
        have h3 : x3 = .short := by rw [h3]; split <;> rfl
        subst h3
        have h4 : x4 = .short := h4
        subst h4
        have h5 : x5 = .short := h5
        subst h5
        exact ⟨h6, fun _ _ _ h => by cases h⟩
      | bad e =>
        rw [o1] at h1
        have h1 : x1 = .bad e := h1
        subst h1
        have h2 : x2 = .bad e := h2
        subst h2
        have h3 : x3 = .bad e := by rw [h3]; split <;> rfl
        subst h3
        have h4 : x4 = .bad e := h4
        subst h4
        have h5 : x5 = .bad e := h5
        subst h5
        exact ⟨h6, fun _ _ _ h => by cases h⟩
      | ok a r1 k1 =>
        rw [o1] at h1
        have h1 : x1 = .go k1 := h1
        subst h1
        obtain rfl := n1 k a r1 k1 rfl o1
        obtain rfl := K1 _ _ _ o1
        have h2 : x2 = .of (needF [61] (s.drop k1) k1) := h2
        have K2 := needF_keeps s [61] k1
        simp only [Out.bind]
        cases o2 : needF [61] (s.drop k1) k1 with
        | short =>
          rw [o2] at h2
          have h2 : x2 = .short := h2
          subst h2
          have h3 : x3 = .short := by rw [h3]; split <;> rfl
          subst h3
          have h4 : x4 = .short := h4
          subst h4
          have h5 : x5 = .short := h5
          subst h5
          exact ⟨h6, fun _ _ _ h => by cases h⟩
        | bad e =>
          rw [o2] at h2
          have h2 : x2 = .bad e := h2
          subst h2
          have h3 : x3 = .bad e := by rw [h3]; split <;> rfl
          subst h3
          have h4 : x4 = .bad e := h4
          subst h4
          have h5 : x5 = .bad e := h5
          subst h5
          exact ⟨h6, fun _ _ _ h => by cases h⟩
        | ok u r2 k2 =>
          rw [o2] at h2
          have h2 : x2 = .go k2 := h2
          subst h2
          obtain rfl := K2 _ _ _ o2
          simp only
          have hb2 : (at_.any (fun x => x.name == v1) || decide (8 ≤ at_.length)) = b := by
            rw [hb]
            congr 1
            rw [Bool.eq_iff_iff, decide_eq_true_eq, decide_eq_true_eq]
            omega
          rw [hb2]
          cases b with
          | true =>
            have h3 : x3 = .bad 41 := h3
            subst h3
            have h4 : x4 = .bad 41 := h4
            subst h4
            have h5 : x5 = .bad 41 := h5
            subst h5
            exact ⟨h6, fun _ _ _ h => by cases h⟩
          | false =>
            have h3 : x3 = .go k2 := h3
            subst h3
            have h4 : x4 = .of (needF [34] (s.drop k2) k2) := h4
            have K4 := needF_keeps s [34] k2
            simp only [Bool.false_eq_true, if_false]
            cases o4 : needF [34] (s.drop k2) k2 with
            | short =>
              rw [o4] at h4
              have h4 : x4 = .short := h4
              subst h4
              have h5 : x5 = .short := h5
              subst h5
              exact ⟨h6, fun _ _ _ h => by cases h⟩
            | bad e =>
              rw [o4] at h4
              have h4 : x4 = .bad e := h4
              subst h4
              have h5 : x5 = .bad e := h5
              subst h5
              exact ⟨h6, fun _ _ _ h => by cases h⟩
            | ok u r4 k4 =>
              rw [o4] at h4
              have h4 : x4 = .go k4 := h4
              subst h4
              obtain rfl := K4 _ _ _ o4
              have h5 : x5 = .of (runF plainB (s.drop k4) k4) := h5
              have K5 := runF_keeps plainB s _ k4 rfl
              simp only
              cases o5 : runF plainB (s.drop k4) k4 with
              | short =>
                rw [o5] at h5
                have h5 : x5 = .short := h5
                subst h5
                exact ⟨h6, fun _ _ _ h => by cases h⟩
              | bad e =>
                rw [o5] at h5
                have h5 : x5 = .bad e := h5
                subst h5
                exact ⟨h6, fun _ _ _ h => by cases h⟩
              | ok v r5 k5 =>
                rw [o5] at h5
                have h5 : x5 = .go k5 := h5
                subst h5
                obtain rfl := n5 k4 v r5 k5 rfl o5
                obtain rfl := K5 _ _ _ o5
                have h6 : x6 = .of (needF [34] (s.drop k5) k5) := h6
                simp only
                cases o6 : needF [34] (s.drop k5) k5 with
                | short => rw [o6] at h6; exact ⟨h6, fun _ _ _ h => by cases h⟩
                | bad e => rw [o6] at h6; exact ⟨h6, fun _ _ _ h => by cases h⟩
                | ok u r6 k6 =>
                  rw [o6] at h6
                  exact ⟨h6, fun _ _ _ h => by injection h with h _ _; exact h.symm⟩
    exact ⟨key.1, fun k2 at2 r k' h => by injection h with h; subst h; exact key.2 at2 r k'⟩
/-- A tag, behind its mark. -/
def refTagF (closing : Bool) (s : List UInt8) : Out Token :=
  if closing then (nameF (s.drop 6) 6).bind fun nm r k => (runF blankB r k).bind fun _ r k => (needF [62] r k).bind fun _ r k => .ok ⟨2, nm, []⟩ r k
  else (nameF (s.drop 5) 5).bind fun nm r k => tagRest (r.length + 1) nm [] r k
theorem needF_beg : ∀ (m r : List UInt8) (k : Nat), begF r m = true → k + m.length ≤ 400 → needF m r k = .ok () (r.drop m.length) (k + m.length)
  | [], r, k, _, _ => by simp [needF]
  | c :: m, r, k, h, hk => by
    unfold begF at h
    rw [Bool.and_eq_true, decide_eq_true_eq, beq_iff_eq] at h
    obtain ⟨h1, h2⟩ := h
    cases r with
    | nil => simp at h1
    | cons x r =>
      rw [List.length_cons, List.take_succ_cons] at h2
      injection h2 with h3 h4
      subst h3
      rw [List.length_cons] at hk h1
      rw [List.length_cons] at h1
      have hp : peekF (x :: r) k = .ok x (x :: r) k := by unfold peekF; simp only; rw [if_neg (by omega)]
      rw [needF, hp]
      simp only [Out.bind, List.tail_cons, if_true]
      rw [needF_beg m r (k + 1) (by unfold begF; rw [h4, decide_eq_true (by omega)]; simp) (by omega), List.length_cons, List.drop_succ_cons]
      congr 1
      omega
theorem tagF_ref {s m : List UInt8} (hm : m = openB ∨ m = closB) (h : begF s m = true) : tagF m s 0 = refTagF (begF s closB) s := by
  rcases hm with rfl | rfl
  · have hc : begF s closB = false := by
      unfold begF at h ⊢
      rw [Bool.and_eq_true, decide_eq_true_eq, beq_iff_eq] at h
      rw [Bool.and_eq_false_iff, beq_eq_false_iff_ne]
      refine .inr fun e => ?_
      have h2 := congrArg (List.take 2) h.2
      have h3 := congrArg (List.take 2) e
      rw [List.take_take] at h2 h3
      have h2 : s.take 2 = [60, 101] := h2
      have h3 : s.take 2 = [60, 47] := h3
      rw [h2] at h3
      exact absurd h3 (by decide)
    rw [hc, tagF, needF_beg openB s 0 h (by decide)]
    rfl
  · rw [h, tagF, needF_beg closB s 0 h (by decide)]
    rfl
theorem refTagF_keeps (closing : Bool) (s : List UInt8) : ∀ t r k, refTagF closing s = .ok t r k → k ≤ s.length → r = s.drop k := by
  intro t r k h _
  have key : Keeps s (refTagF closing s) := by
    unfold refTagF
    split
    · exact (nameF_keeps s 6).bind fun nm k => (runF_keeps _ s _ k rfl).bind fun _ k => (needF_keeps s _ k).bind fun _ k => keeps_ok s _ k
    · refine (nameF_keeps s 5).bind fun nm k => ?_
      have hr : ∀ (n : Nat) (at_ : List Pair) (k : Nat), Keeps s (tagRest n nm at_ (s.drop k) k) := by
        intro n
        induction n with
        | zero => intro at_ k t r k' h; cases h
        | succ n ih =>
          intro at_ k
          rw [tagRest]
          refine (runF_keeps _ s _ k rfl).bind fun gap k => (peekF_keeps s k).bind fun c k => ?_
          unfold tagTail
          split
          · rw [List.tail_drop]; exact keeps_ok s _ _
          · split
            · rw [List.tail_drop]
              exact (needF_keeps s _ _).bind fun _ k => keeps_ok s _ k
            · split
              · exact keeps_bad s 40
              · rw [attr_tail]
                exact (attrF_keeps s at_ k).bind fun at2 k => ih at2 k
      exact hr _ _ _
  exact key t r k h
/-! ### Right -/
def refRight (x : LexSt) : Bool :=
  if x.rest = [] then true
  else if refMark x.inside x.rest = [] ∨ x.rest.length < (refMark x.inside x.rest).length then decide (refMark x.inside x.rest ≠ [])
  else if refMark x.inside x.rest = behB ∨ refMark x.inside x.rest = remB then false
  else match tagF (refMark x.inside x.rest) x.rest 0 with
    | .short => true
    | _ => false
theorem right_ref (x : LexSt) : rightF x = refRight x := by
  obtain ⟨s, b⟩ := x
  unfold rightF refRight
  simp only
  by_cases hs : s = []
  · subst hs; rfl
  rw [if_neg hs]
  have hn := markF_nil b s
  have hpos := List.length_pos_iff.2 hs
  have hmk := markF_marks b s
  rw [refMark_eq]
  generalize markF b s = p at *
  obtain ⟨m, i⟩ := p
  simp only at hn hmk ⊢
  by_cases hi : i = 0
  · subst hi
    have hm : m ≠ [] := fun e => by have := hn.1 e; omega
    simp only [if_true, hs, hm, false_or, ne_eq, not_true_eq_false, not_false_eq_true, decide_true]
    by_cases hl : s.length < m.length
    · simp [hl]
    · rw [if_neg hl, if_neg hl]
      by_cases ho : m = openB ∨ m = closB
      · have hnr : ¬ (m = behB ∨ m = remB) := by rcases ho with rfl | rfl <;> decide
        rw [if_neg hnr, decide_eq_true ho]
        unfold cutF
        cases ht : tagF m s 0 with
        | ok t r k =>
          have := (tagF_total ht).2.2.2
          simp; omega
        | short => simp
        | bad e =>
          have : e ≠ 0 := tagF_err m s 0 e ht
          simp [this]
      · have hr : m = behB ∨ m = remB := by
          rcases hmk with h | h | h | h | h
          · exact absurd h hm
          · exact absurd (.inl h) ho
          · exact absurd (.inr h) ho
          · exact .inr h
          · exact .inl h
        rw [if_pos hr, decide_eq_false ho]
        rfl
  · simp [hi, hs]
/-! ### Join -/
def joinR : List Token → List UInt8 → List Token → List Token
  | [], tx, out => if tx = [] then out else out ++ [textTok tx]
  | t :: l, tx, out => if t.kind = 0 then joinR l (tx ++ t.text) out else joinR l [] ((if tx = [] then out else out ++ [textTok tx]) ++ [t])
theorem joinR_eq : ∀ (l : List Token) (tx : List UInt8) (out : List Token), (∀ t ∈ l, PlainT t) → EndsTag out → joinR l tx out = l.foldl joinStep (if tx = [] then out else out ++ [textTok tx])
  | [], tx, out, _, _ => rfl
  | t :: l, tx, out, hp, ho => by
    rw [joinR, List.foldl_cons]
    split
    · rename_i hk
      rw [joinR_eq l _ out (fun x hx => hp x (by simp [hx])) ho]
      congr 1
      obtain ⟨k, x, a⟩ := t
      have hk : k = 0 := hk
      subst hk
      have ha : a = [] := by
        rcases hp ⟨0, x, a⟩ (by simp) with h | h
        · exact h.2
        · rcases h with h | h | h <;> cases h
      subst ha
      unfold joinStep
      simp only [ne_eq, not_true_eq_false, if_false]
      by_cases hx : x = []
      · subst hx; simp
      · rw [if_neg hx, if_neg (by simp [hx])]
        by_cases ht : tx = []
        · subst ht
          simp only [if_true, List.nil_append]
          split
          · rename_i u hu
            rw [if_neg (ho u hu)]
            rfl
          · rfl
        · rw [if_neg ht]
          simp only [List.getLast?_append, List.getLast?_singleton, Option.some_or, List.dropLast_concat]
          rfl
    · rename_i hk
      rw [joinR_eq l [] _ (fun x hx => hp x (by simp [hx])) (by intro u hu; rw [List.getLast?_concat] at hu; injection hu with hu; subst hu; exact hk), if_pos rfl, joinStep_tag hk]
theorem join_ref {l : List Token} (h : ∀ t ∈ l, PlainT t) : joinR l [] [] = joinF l := joinR_eq l [] [] h (fun u hu => by cases hu)
end Go.Proofs.YtijpfcjlochahaaDoor
