/- Plain laws of layer 14: what stands ahead of a tag. No program is named here. -/
import Derived.Test.YtijpfcjlochahaaGreatDoorPJoin
namespace Go.Proofs.YtijpfcjlochahaaGreatDoor
open Go Go.RowKit
set_option linter.unusedVariables false
set_option linter.unusedSimpArgs false

/-- Reading fails. -/
def Out.Dead {α : Type} (o : Out α) : Prop := ∃ e, o = .bad e
theorem Out.Dead.bind {α β : Type} {o : Out α} {f : α → List UInt8 → Nat → Out β} (h : o.Dead) : (o.bind f).Dead := by
  obtain ⟨e, rfl⟩ := h
  exact ⟨e, rfl⟩
theorem needF_dead {x : UInt8} {m c : List UInt8} {k : Nat} (h : (60 : UInt8) ≠ x) : (needF (x :: m) (60 :: c) k).Dead := by
  rw [needF]
  unfold peekF
  by_cases h4 : 400 ≤ k
  · simp only [if_pos h4]; exact ⟨_, rfl⟩
  · simp only [if_neg h4, Out.bind, if_neg h]; exact ⟨_, rfl⟩
theorem runF_at {p : UInt8 → Bool} (hp : p 60 = false) (c : List UInt8) (k : Nat) : (runF p (60 :: c) k).Dead ∨ runF p (60 :: c) k = .ok [] (60 :: c) k := by
  rw [runF]
  by_cases h4 : 400 ≤ k
  · rw [if_pos h4]; exact .inl ⟨_, rfl⟩
  · rw [if_neg h4, if_neg (by simp [hp])]; exact .inr rfl
theorem nameF_dead (c : List UInt8) (k : Nat) : (nameF (60 :: c) k).Dead := by
  rw [nameF]
  rcases runF_at (p := letterB) (by decide) c k with h | h
  · exact h.bind
  · rw [h]; exact ⟨40, rfl⟩
theorem tagRest_dead (n : Nat) (nm : List UInt8) (at_ : List Pair) (c : List UInt8) (k : Nat) : (tagRest (n + 1) nm at_ (60 :: c) k).Dead := by
  rw [tagRest]
  rcases runF_at (p := blankB) (by decide) c k with h | h
  · exact h.bind
  · rw [h]
    simp only [Out.bind]
    unfold peekF
    by_cases h4 : 400 ≤ k
    · simp only [if_pos h4]; exact ⟨_, rfl⟩
    · simp only [if_neg h4]
      unfold tagTail
      rw [if_neg (by decide), if_neg (by decide), if_pos rfl]
      exact ⟨_, rfl⟩
/-- What comes to an end too early fails where a mark's first byte follows. -/
theorem needF_stop (c : List UInt8) : ∀ (m r : List UInt8) (k : Nat), (∀ x ∈ m, (60 : UInt8) ≠ x) → needF m r k = .short → (needF m (r ++ 60 :: c) k).Dead
  | [], r, k, _, h => by cases h
  | x :: m, [], k, hm, _ => needF_dead (hm x (by simp))
  | x :: m, y :: r, k, hm, h => by
    rw [needF] at h
    rw [List.cons_append, needF]
    unfold peekF at h ⊢
    by_cases h4 : 400 ≤ k
    · simp only [if_pos h4] at h; cases h
    · simp only [if_neg h4, Out.bind, List.tail_cons] at h ⊢
      split at h
      · rename_i hy
        rw [if_pos hy]
        exact needF_stop c m r (k + 1) (fun z hz => hm z (by simp [hz])) h
      · cases h
theorem runF_stop {p : UInt8 → Bool} (hp : p 60 = false) (c : List UInt8) : ∀ (r : List UInt8) (k : Nat), runF p r k = .short → (runF p (r ++ 60 :: c) k).Dead ∨ ∃ l k', runF p (r ++ 60 :: c) k = .ok l (60 :: c) k'
  | [], k, _ => (runF_at hp c k).imp id fun h => ⟨_, _, h⟩
  | y :: r, k, h => by
    rw [runF] at h
    rw [List.cons_append, runF]
    by_cases h4 : 400 ≤ k
    · rw [if_pos h4] at h; cases h
    · rw [if_neg h4] at h ⊢
      split at h
      · rename_i hy
        rw [if_pos hy]
        cases hr : runF p r (k + 1) with
        | ok l r' k' => rw [hr] at h; cases h
        | bad e => rw [hr] at h; cases h
        | short =>
          rcases runF_stop hp c r (k + 1) hr with h2 | ⟨l, k', h2⟩
          · exact .inl h2.bind
          · exact .inr ⟨_, _, by rw [h2]; rfl⟩
      · cases h
theorem nameF_stop (c : List UInt8) (r : List UInt8) (k : Nat) (h : nameF r k = .short) : (nameF (r ++ 60 :: c) k).Dead ∨ ∃ l k', nameF (r ++ 60 :: c) k = .ok l (60 :: c) k' := by
  rw [nameF] at h ⊢
  cases hr : runF letterB r k with
  | ok l r' k' =>
    rw [hr] at h
    simp only [Out.bind] at h
    split at h <;> cases h
  | bad e => rw [hr] at h; cases h
  | short =>
    rcases runF_stop (by decide) c r k hr with h2 | ⟨l, k', h2⟩
    · exact .inl h2.bind
    · rw [h2]
      simp only [Out.bind]
      split
      · exact .inl ⟨_, rfl⟩
      · exact .inr ⟨_, _, rfl⟩
theorem Out.bind_short {α β : Type} {o : Out α} {f : α → List UInt8 → Nat → Out β} (h : o.bind f = .short) : o = .short ∨ ∃ a r k, o = .ok a r k ∧ f a r k = .short := by
  cases o with
  | ok a r k => exact .inr ⟨a, r, k, rfl, h⟩
  | short => exact .inl rfl
  | bad e => cases h
/-- Where it was decided more bytes change nothing. -/
theorem Ext.ok {α : Type} {o o' : Out α} {b : List UInt8} (h : Ext o o' b) {a : α} {r : List UInt8} {k : Nat} (he : o = .ok a r k) : o' = .ok a (r ++ b) k := by
  subst he; exact h
theorem tagRest_stop (c : List UInt8) : ∀ (n n' : Nat) (nm : List UInt8) (at_ : List Pair) (r : List UInt8) (k : Nat), r.length < n → n ≤ n' → tagRest n nm at_ r k = .short → (tagRest n' nm at_ (r ++ 60 :: c) k).Dead
  | 0, _, _, _, _, _, h, _, _ => absurd h (by omega)
  | n + 1, 0, _, _, _, _, _, h, _ => absurd h (by omega)
  | n + 1, n' + 1, nm, at_, r, k, hn, hnn, h => by
    rw [tagRest] at h ⊢
    rcases Out.bind_short h with h1 | ⟨gap, r1, k1, h1, h2⟩
    · rcases runF_stop (p := blankB) (by decide) c r k h1 with h3 | ⟨l, k', h3⟩
      · exact h3.bind
      · rw [h3]
        simp only [Out.bind]
        unfold peekF
        by_cases h4 : 400 ≤ k'
        · simp only [if_pos h4]; exact ⟨_, rfl⟩
        · simp only [if_neg h4]
          unfold tagTail
          rw [if_neg (by decide), if_neg (by decide)]
          split
          · exact ⟨_, rfl⟩
          · exact (nameF_dead c k').bind
    · have t1 := runF_total h1
      rw [(runF_ext blankB r (60 :: c) k).ok h1]
      simp only [Out.bind]
      rcases Out.bind_short h2 with h3 | ⟨x, r2, k2, h3, h4⟩
      · unfold peekF at h3
        split at h3
        · rw [List.nil_append]
          unfold peekF
          by_cases h4 : 400 ≤ k1
          · simp only [if_pos h4]; exact ⟨_, rfl⟩
          · simp only [if_neg h4]
            unfold tagTail
            rw [if_neg (by decide), if_neg (by decide)]
            split
            · exact ⟨_, rfl⟩
            · exact (nameF_dead c k1).bind
        · split at h3 <;> cases h3
      · rw [(peekF_ext r1 (60 :: c) k1).ok h3]
        obtain ⟨rfl, rfl, _, t, rfl⟩ := peekF_inv h3
        simp only
        unfold tagTail at h4 ⊢
        split at h4
        · cases h4
        · rename_i h62
          rw [if_neg h62]
          split at h4
          · rename_i h47
            rw [if_pos h47]
            rcases Out.bind_short h4 with h5 | ⟨_, r5, k5, h5, h6⟩
            · have := needF_stop c [62] t (k2 + 1) (by decide) h5
              exact this.bind
            · cases h6
          · rename_i h47
            rw [if_neg h47]
            split at h4
            · cases h4
            · rename_i hg
              rw [if_neg hg]
              rcases Out.bind_short h4 with h5 | ⟨a, r5, k5, h5, h6⟩
              · rcases nameF_stop c _ _ h5 with h7 | ⟨l, k', h7⟩
                · exact h7.bind
                · rw [h7]
                  simp only [Out.bind]
                  exact (needF_dead (by decide)).bind
              · have t5 := nameF_total h5
                rw [(nameF_ext _ (60 :: c) _).ok h5]
                simp only [Out.bind]
                rcases Out.bind_short h6 with h7 | ⟨_, r7, k7, h7, h8⟩
                · exact (needF_stop c [61] r5 k5 (by decide) h7).bind
                · have t7 := needF_total h7
                  rw [(needF_ext [61] r5 (60 :: c) k5).ok h7]
                  simp only
                  unfold tagEq at h8 ⊢
                  split at h8
                  · cases h8
                  · rename_i hq
                    rw [if_neg hq]
                    unfold tagVal at h8 ⊢
                    rcases Out.bind_short h8 with h9 | ⟨_, r9, k9, h9, h10⟩
                    · exact (needF_stop c [34] r7 k7 (by decide) h9).bind
                    · have t9 := needF_total h9
                      rw [(needF_ext [34] r7 (60 :: c) k7).ok h9]
                      simp only [Out.bind]
                      rcases Out.bind_short h10 with h11 | ⟨v, r11, k11, h11, h12⟩
                      · rcases runF_stop (p := plainB) (by decide) c r9 k9 h11 with h13 | ⟨l, k', h13⟩
                        · exact h13.bind
                        · rw [h13]
                          exact (needF_dead (by decide)).bind
                      · have t11 := runF_total h11
                        rw [(runF_ext plainB r9 (60 :: c) k9).ok h11]
                        simp only
                        rcases Out.bind_short h12 with h13 | ⟨_, r13, k13, h13, h14⟩
                        · exact (needF_stop c [34] r11 k11 (by decide) h13).bind
                        · have t13 := needF_total h13
                          rw [(needF_ext [34] r11 (60 :: c) k11).ok h13]
                          simp only
                          simp only [List.length_cons, List.length_nil] at t1 t5 t7 t9 t11 t13 hn
                          obtain ⟨t1, t1b⟩ := t1
                          obtain ⟨t5, t5b, -⟩ := t5
                          exact tagRest_stop c n n' nm _ r13 k13 (by omega) (by omega) h14
/-- A tag that is not whole can't be where a mark's first byte follows. -/
theorem tagF_stop {m r c : List UInt8} (hw : ∃ r' k', needF m r 0 = .ok () r' k') (h : tagF m r 0 = .short) : (tagF m (r ++ 60 :: c) 0).Dead := by
  obtain ⟨r0, k0, h0⟩ := hw
  rw [tagF] at h ⊢
  rw [(needF_ext m r (60 :: c) 0).ok h0]
  rw [h0] at h
  have t0 := needF_total h0
  simp only [Out.bind] at h ⊢
  rcases Out.bind_short h with h1 | ⟨nm, r1, k1, h1, h2⟩
  · rcases nameF_stop c r0 k0 h1 with h3 | ⟨l, k', h3⟩
    · exact h3.bind
    · rw [h3]
      simp only [Out.bind]
      split
      · rcases runF_at (p := blankB) (by decide) c k' with h4 | h4
        · exact h4.bind
        · rw [h4]
          exact (needF_dead (by decide)).bind
      · exact tagRest_dead _ _ _ _ _
  · rw [(nameF_ext r0 (60 :: c) k0).ok h1]
    simp only [Out.bind]
    split at h2
    · rename_i hm
      rw [if_pos hm]
      rcases Out.bind_short h2 with h3 | ⟨l, r3, k3, h3, h4⟩
      · rcases runF_stop (p := blankB) (by decide) c r1 k1 h3 with h5 | ⟨l, k', h5⟩
        · exact h5.bind
        · rw [h5]
          exact (needF_dead (by decide)).bind
      · rw [(runF_ext blankB r1 (60 :: c) k1).ok h3]
        simp only [Out.bind]
        rcases Out.bind_short h4 with h5 | ⟨_, r5, k5, h5, h6⟩
        · exact (needF_stop c [62] r3 k3 (by decide) h5).bind
        · cases h6
    · rename_i hm
      rw [if_neg hm]
      exact tagRest_stop c _ _ nm [] r1 k1 (by omega) (by rw [List.length_append]; omega) h2
theorem needF_ok : ∀ (m r : List UInt8) (k : Nat), m.isPrefixOf r = true → k + m.length ≤ 400 → ∃ r' k', needF m r k = .ok () r' k'
  | [], r, k, _, _ => ⟨r, k, rfl⟩
  | x :: m, [], k, h, _ => by simp at h
  | x :: m, y :: r, k, h, hk => by
    simp only [List.isPrefixOf_cons_cons, Bool.and_eq_true, beq_iff_eq, List.length_cons] at h hk
    rw [needF]
    unfold peekF
    simp only [if_neg (show ¬ 400 ≤ k by omega), Out.bind, List.tail_cons, if_pos h.1.symm]
    exact needF_ok m r (k + 1) h.2 (by omega)
theorem hits_prefix {l m : List UInt8} (h : hits l m = true) (hl : m.length ≤ l.length) : m.isPrefixOf l = true := by
  unfold hits at h
  rw [beq_iff_eq, List.take_of_length_le (l := m) hl] at h
  rw [List.isPrefixOf_iff_prefix, ← h]
  exact List.take_prefix _ _
theorem hits_short {l m : List UInt8} (h : hits l m = true) (hl : l.length ≤ m.length) : l = m.take l.length := by
  unfold hits at h
  rw [beq_iff_eq, List.take_of_length_le hl] at h
  exact h
theorem markHere_hits {b : Bool} {s m : List UInt8} (h : markHere b s = some m) : hits s m = true ∧ (m = openB ∨ m = closB ∨ m = lastMark b) := by
  cases s with
  | nil => cases h
  | cons x l =>
    simp only [markHere] at h
    split at h
    · unfold markAt at h
      split at h
      · rename_i h1; injection h with h; subst h; exact ⟨h1, .inl rfl⟩
      · split at h
        · rename_i h1; injection h with h; subst h; exact ⟨h1, .inr (.inl rfl)⟩
        · split at h
          · rename_i h1; injection h with h; subst h; exact ⟨h1, .inr (.inr rfl)⟩
          · cases h
    · cases h
/-- An error is none but an error. -/
def Out.Err {α : Type} (o : Out α) : Prop := ∀ e, o = .bad e → e ≠ 0
theorem Out.Err.bind {α β : Type} {o : Out α} {f : α → List UInt8 → Nat → Out β} (h : o.Err) (hf : ∀ a r k, (f a r k).Err) : (o.bind f).Err := by
  cases o with
  | ok a r k => exact hf a r k
  | short => intro e he; cases he
  | bad x => intro e he; exact h e (by injection he with he; rw [he])
theorem err_ok {α : Type} (a : α) (r : List UInt8) (k : Nat) : (Out.ok a r k).Err := fun e he => by cases he
theorem err_bad {α : Type} {x : Int} (h : x ≠ 0) : (Out.bad x : Out α).Err := fun e he => by injection he with he; rwa [← he]
theorem peekF_err (r : List UInt8) (k : Nat) : (peekF r k).Err := by
  unfold peekF
  split
  · intro e he; cases he
  · split
    · exact err_bad (by decide)
    · exact err_ok _ _ _
theorem needF_err : ∀ (m r : List UInt8) (k : Nat), (needF m r k).Err
  | [], r, k => err_ok _ _ _
  | x :: m, r, k => by
    rw [needF]
    refine (peekF_err r k).bind fun y r k => ?_
    split
    · exact needF_err m _ _
    · exact err_bad (by decide)
theorem runF_err (p : UInt8 → Bool) : ∀ (r : List UInt8) (k : Nat), (runF p r k).Err
  | [], k => fun e he => by cases he
  | x :: r, k => by
    rw [runF]
    split
    · exact err_bad (by decide)
    · split
      · exact (runF_err p r (k + 1)).bind fun _ _ _ => err_ok _ _ _
      · exact err_ok _ _ _
theorem nameF_err (r : List UInt8) (k : Nat) : (nameF r k).Err := by
  rw [nameF]
  refine (runF_err _ r k).bind fun l r k => ?_
  split
  · exact err_bad (by decide)
  · exact err_ok _ _ _
theorem tagRest_err : ∀ (n : Nat) (nm : List UInt8) (at_ : List Pair) (r : List UInt8) (k : Nat), (tagRest n nm at_ r k).Err
  | 0, _, _, _, _ => fun e he => by cases he
  | n + 1, nm, at_, r, k => by
    rw [tagRest]
    refine (runF_err _ r k).bind fun gap r k => (peekF_err r k).bind fun c r k => ?_
    unfold tagTail
    split
    · exact err_ok _ _ _
    · split
      · exact (needF_err _ _ _).bind fun _ _ _ => err_ok _ _ _
      · split
        · exact err_bad (by decide)
        · refine (nameF_err _ _).bind fun a r k => (needF_err _ _ _).bind fun _ r k => ?_
          unfold tagEq
          split
          · exact err_bad (by decide)
          · unfold tagVal
            exact (needF_err _ _ _).bind fun _ r k => (runF_err _ _ _).bind fun v r k => (needF_err _ _ _).bind fun _ r k => tagRest_err n nm _ r k
theorem tagF_err (m r : List UInt8) (k : Nat) : (tagF m r k).Err := by
  rw [tagF]
  refine (needF_err _ _ _).bind fun _ r k => (nameF_err _ _).bind fun nm r k => ?_
  split
  · exact (runF_err _ _ _).bind fun _ _ _ => (needF_err _ _ _).bind fun _ _ _ => err_ok _ _ _
  · exact tagRest_err _ _ _ _ _
/-- The tag of a comment. -/
def commentS : List UInt8 := [60, 101, 115, 105, 58, 99, 111, 109, 109, 101, 110, 116, 32, 116, 101, 120, 116, 61, 34, 34, 47, 62]
def commentTok : Token := ⟨3, nComment, [⟨nText, []⟩]⟩
/-- What may be left of a page whose lexer is right, and at its first mark. -/
theorem rightF_rest {x : LexSt} (h : rightF x = true) : x.rest = [] ∨ ∃ m, markF x.inside x.rest = (m, 0) ∧ markHere x.inside x.rest = some m ∧ (x.rest.length < m.length ∨ m.length ≤ x.rest.length ∧ (m = openB ∨ m = closB) ∧ tagF m x.rest 0 = .short) := by
  obtain ⟨s, b⟩ := x
  cases s with
  | nil => exact .inl rfl
  | cons c l =>
    refine .inr ?_
    cases hh : markHere b (c :: l) with
    | none =>
      exfalso
      unfold rightF at h
      have e : markF b (c :: l) = ((markF b l).1, (markF b l).2 + 1) := by rw [markF_cons, hh]
      simp [e] at h
    | some m =>
      have e : markF b (c :: l) = (m, 0) := by rw [markF_cons, hh]
      refine ⟨m, e, rfl, ?_⟩
      rcases Nat.lt_or_ge (c :: l).length m.length with hlt | hge
      · exact .inl hlt
      · refine .inr ⟨hge, ?_⟩
        unfold rightF at h
        simp only [e] at h
        rw [if_neg (by rintro (h | h | h); cases h; exact h rfl; exact absurd (show (c :: l).length < m.length from h) (by omega))] at h
        simp only [Bool.and_eq_true, decide_eq_true_eq] at h
        obtain ⟨⟨h1, h2⟩, h3⟩ := h
        refine ⟨h1, ?_⟩
        show tagF m (c :: l) 0 = .short
        unfold cutF at h2 h3
        cases ht : tagF m (c :: l) 0 with
        | ok t r k =>
          rw [ht] at h2
          have := (tagF_total ht).2.2.2
          simp only at h2
          omega
        | short => rfl
        | bad e2 =>
          rw [ht] at h3
          simp only at h3
          subst h3
          exact absurd rfl (tagF_err _ _ _ 0 ht)
theorem markF_part {b : Bool} {r m : List UInt8} (h : markHere b r = some m) (hl : r.length < m.length) : markF b (r ++ commentS) = (openB, r.length) := by
  obtain ⟨h1, h2⟩ := markHere_hits h
  have hr := hits_short h1 (by omega)
  have hn : r.length < 7 := by
    rcases h2 with rfl | rfl | rfl
    · exact Nat.lt_trans hl (by decide)
    · exact Nat.lt_trans hl (by decide)
    · refine Nat.lt_of_lt_of_le hl ?_
      unfold lastMark; split <;> decide
  rw [hr] at h ⊢
  have hl2 : (m.take r.length).length < m.length := by rw [← hr]; exact hl
  generalize r.length = n at *
  clear hr hl h1
  cases b <;> rcases h2 with rfl | rfl | rfl
  all_goals
    match n, hn with
    | 0, _ => cases h
    | 1, _ => first | rfl | exact absurd hl2 (by decide)
    | 2, _ => first | rfl | exact absurd hl2 (by decide)
    | 3, _ => first | rfl | exact absurd hl2 (by decide)
    | 4, _ => first | rfl | exact absurd hl2 (by decide)
    | 5, _ => first | rfl | exact absurd hl2 (by decide)
    | 6, _ => first | rfl | exact absurd hl2 (by decide)
theorem cutF_comment : cutF commentS openB = (commentTok, 22, 0) := by rfl
theorem feedG_nil (b : Bool) (o : List Token) : feedG b [] o = (⟨[], b⟩, o, 0) := by
  rw [feedG_eq]; rfl
theorem feedStep_comment (b : Bool) (o : List Token) : feedStep feedG b commentS openB o = (⟨[], b⟩, o ++ [commentTok], 0) := by
  unfold feedStep
  rw [if_neg (by decide), if_neg (by decide), cutF_comment]
  rw [if_neg (by simp), if_neg (by simp)]
  exact feedG_nil b _
/-- A comment's tag behind what is left of a page. -/
theorem feed_comment {x : LexSt} (hx : rightF x = true) (he : (feedF x commentS).2.2 = 0) :
    feedF x commentS = (⟨[], x.inside⟩, (if 0 < x.rest.length then [textTok x.rest] else []) ++ [commentTok], 0) := by
  rw [feedF_right_eq hx] at he ⊢
  obtain ⟨s, b⟩ := x
  rcases rightF_rest hx with h | ⟨m, h1, h2, h3⟩
  · simp only at h
    subst h
    show feedG b commentS [] = _
    rw [feedG_eq]
    have e : markF b commentS = (openB, 0) := by cases b <;> rfl
    rw [e]
    exact feedStep_comment b []
  · simp only at h1 h2 h3 he ⊢
    rcases h3 with h3 | ⟨h3, h4, h5⟩
    · rw [feedG_eq, markF_part h2 h3]
      simp only
      rw [List.drop_left, feedStep_comment]
      unfold withText
      rw [List.take_left, List.nil_append]
    · exfalso
      have hm : m ≠ [] := markHere_ne h2
      have hw := markF_whole commentS h1 hm h3
      have hh := hits_prefix (markHere_hits h2).1 h3
      have hd : (tagF m (s ++ commentS) 0).Dead := tagF_stop (needF_ok m s 0 hh (by rcases h4 with rfl | rfl <;> decide)) h5
      obtain ⟨e, hd⟩ := hd
      have hee := tagF_err _ _ _ e hd
      rw [feedG_eq, hw] at he
      simp only [List.drop_zero] at he
      unfold feedStep at he
      have hc : (cutF (s ++ commentS) m).2.2 = e := by unfold cutF; rw [hd]
      rw [if_neg (by
        rintro (h | h)
        · rw [List.length_append] at h; omega
        · exact hm h), if_neg (by rcases h4 with rfl | rfl <;> decide), hc, if_pos hee] at he
      exact hee (hc ▸ he)
/-- A page that is parted, and ends with a comment's tag. -/
theorem page_tag {a : List UInt8} (h : (allF (a ++ commentS)).2 = 0) : ∃ b o, Fed (a ++ commentS) ⟨[], b⟩ (o ++ [commentTok]) := by
  have h0 := fed_start
  by_cases he : (feedF ⟨[], false⟩ a).2.2 = 0
  · have h1 := h0.step a he
    rw [List.nil_append] at h1
    by_cases he2 : (feedF (feedF ⟨[], false⟩ a).1 commentS).2.2 = 0
    · have h2 := h1.step commentS he2
      rw [feed_comment h1.right he2] at h2
      simp only [← List.append_assoc] at h2
      exact ⟨_, _, h2⟩
    · have := h1.bad commentS [] he2
      rw [List.append_nil] at this
      rw [this] at h
      exact absurd h he2
  · have := h0.bad a commentS he
    rw [List.nil_append] at this
    rw [this] at h
    exact absurd h he
end Go.Proofs.YtijpfcjlochahaaGreatDoor
