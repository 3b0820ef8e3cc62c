/- Plain laws of layer 15: a page behind another one is built as both. No program is named here. -/
import Derived.Test.YtijpfcjlochahaaGreatDoorDocN
import Derived.Test.YtijpfcjlochahaaGreatDoorLexQ
namespace Go.Proofs.YtijpfcjlochahaaGreatDoor
open Go Go.RowKit
set_option linter.unusedVariables false
set_option linter.unusedSimpArgs false

/-- A token that lex makes: a text has no attributes. -/
def PlainT (t : Token) : Prop := (t.kind = 0 ∧ t.attrs = []) ∨ t.kind = 1 ∨ t.kind = 2 ∨ t.kind = 3
theorem tagF_kind {m s : List UInt8} {k0 : Nat} {t : Token} {r : List UInt8} {k : Nat} (h : tagF m s k0 = .ok t r k) : t.kind = 1 ∨ t.kind = 2 ∨ t.kind = 3 := by
  rw [tagF] at h
  obtain ⟨_, r1, k1, h1, h2⟩ := Out.bind_ok h
  obtain ⟨nm, r3, k3, h3, h4⟩ := Out.bind_ok h2
  split at h4
  · obtain ⟨_, r5, k5, h5, h6⟩ := Out.bind_ok h4
    obtain ⟨_, r7, k7, h7, h8⟩ := Out.bind_ok h6
    injection h8 with e1 e2 e3
    subst e1
    exact .inr (.inl rfl)
  · obtain ⟨-, -, -, c4⟩ := tagRest_total h4
    rcases c4 with c | c
    · exact .inl c
    · exact .inr (.inr c)
theorem cutF_plain {s m : List UInt8} (h : (cutF s m).2.1 ≠ 0) : PlainT (cutF s m).1 := by
  unfold cutF at h ⊢
  cases ht : tagF m s 0 with
  | ok t r k => exact .inr (tagF_kind ht)
  | short => rw [ht] at h; exact absurd rfl h
  | bad e => rw [ht] at h; exact absurd rfl h
theorem feedLoop_plain : ∀ (n : Nat) (b : Bool) (s : List UInt8) (o : List Token), (∀ t ∈ o, PlainT t) → ∀ t ∈ (feedLoop n b s o).2.1, PlainT t
  | 0, _, _, _, _ => by intro t ht; simp [feedLoop] at ht
  | n + 1, b, s, o, ho => by
    rw [feedLoop_succ]
    have h1 : ∀ t ∈ withText o s (markF b s).2, PlainT t := by
      unfold withText
      split
      · intro t ht
        rcases List.mem_append.1 ht with h | h
        · exact ho t h
        · rw [List.mem_singleton] at h; subst h; exact .inl ⟨rfl, rfl⟩
      · exact ho
    generalize withText o s (markF b s).2 = o1 at *
    generalize s.drop (markF b s).2 = s1 at *
    generalize (markF b s).1 = m at *
    unfold feedStep
    split
    · exact h1
    · split
      · exact feedLoop_plain n _ _ _ h1
      · split
        · intro t ht; cases ht
        · split
          · exact h1
          · rename_i hn
            refine feedLoop_plain n _ _ _ ?_
            intro t ht
            rcases List.mem_append.1 ht with h | h
            · exact h1 t h
            · rw [List.mem_singleton] at h; subst h; exact cutF_plain hn
theorem feedF_plain (x : LexSt) (s : List UInt8) : ∀ t ∈ (feedF x s).2.1, PlainT t := by
  unfold feedF
  split
  · exact feedLoop_plain _ _ _ _ (by simp)
  · intro t ht; cases ht
theorem endF_plain (x : LexSt) : ∀ t ∈ (endF x).1, PlainT t := by
  unfold endF
  split
  · split
    · intro t ht; cases ht
    · split
      · intro t ht; cases ht
      · intro t ht
        rw [List.mem_singleton] at ht; subst ht; exact .inl ⟨rfl, rfl⟩
  · intro t ht; cases ht
theorem joinStep_plain {o : List Token} {t : Token} (ho : ∀ x ∈ o, PlainT x) (ht : PlainT t) : ∀ x ∈ joinStep o t, PlainT x := by
  have hs : ∀ x ∈ o ++ [t], PlainT x := by
    intro x hx
    rcases List.mem_append.1 hx with h | h
    · exact ho x h
    · rw [List.mem_singleton] at h; subst h; exact ht
  unfold joinStep
  split
  · exact hs
  · split
    · exact ho
    · rcases List.eq_nil_or_concat o with rfl | ⟨l, u, rfl⟩
      · exact hs
      · rw [List.concat_eq_append] at ho hs ⊢
        simp only [List.getLast?_append, List.getLast?_singleton, Option.some_or]
        split
        · rename_i hu
          rw [List.dropLast_concat]
          intro x hx
          rcases List.mem_append.1 hx with h | h
          · exact ho x (by simp [h])
          · rw [List.mem_singleton] at h; subst h
            rcases ho u (by simp) with h | h
            · exact .inl ⟨hu, h.2⟩
            · omega
        · exact hs
theorem foldl_plain : ∀ (l o : List Token), (∀ x ∈ o, PlainT x) → (∀ x ∈ l, PlainT x) → ∀ x ∈ l.foldl joinStep o, PlainT x
  | [], _, h, _ => h
  | t :: l, o, h, hk => foldl_plain l _ (joinStep_plain h (hk t (by simp))) (fun x hx => hk x (by simp [hx]))
theorem joinF_plain {l : List Token} (h : ∀ x ∈ l, PlainT x) : ∀ x ∈ joinF l, PlainT x := foldl_plain l [] (by simp) h
theorem knownF_plain {t : Token} (h : PlainT t) : knownF t = t := by
  unfold knownF
  split
  · rfl
  · rename_i hk
    rcases h with ⟨h1, h2⟩ | h
    · obtain ⟨k, x, a⟩ := t
      simp only at h1 h2
      subst h1 h2
      rfl
    · exact absurd h hk
theorem joined_mid : ∀ {o : List Token} {t : Token} {l : List Token}, Joined (o ++ t :: l) → t.kind = 0 → t.text ≠ [] ∧ ∀ u, o.getLast? = some u → u.kind ≠ 0
  | [], t, l, h, h0 => ⟨(h.1 h0).1, by simp⟩
  | [x], t, l, h, h0 => ⟨(h.2.2.1 h0).1, fun u hu hk => by
      have hu : x = u := Option.some.inj hu
      subst hu
      exact (h.1 hk).2 t rfl h0⟩
  | x :: y :: o, t, l, h, h0 => by
    have ih := joined_mid (o := y :: o) h.2.2 h0
    exact ⟨ih.1, fun u hu => ih.2 u (by rw [List.getLast?_cons_cons] at hu; exact hu)⟩
theorem foldl_joined_id : ∀ (l o : List Token), Joined (o ++ l) → l.foldl joinStep o = o ++ l
  | [], o, _ => by simp
  | t :: l, o, h => by
    have hs : joinStep o t = o ++ [t] := by
      unfold joinStep
      by_cases h0 : t.kind = 0
      · obtain ⟨h1, h2⟩ := joined_mid h h0
        rw [if_neg (by simp [h0]), if_neg h1]
        split
        · rename_i u hu
          rw [if_neg (h2 u hu)]
        · rfl
      · rw [if_pos h0]
    rw [List.foldl_cons, hs, foldl_joined_id l (o ++ [t]) (by simpa using h)]
    simp
theorem joinedF_id {l : List Token} (hp : ∀ x ∈ l, PlainT x) (hj : Joined l) : joinedF l = l := by
  have e : l.map knownF = l := by
    conv => rhs; rw [← List.map_id l]
    exact List.map_congr_left fun x hx => by rw [knownF_plain (hp x hx)]; rfl
  unfold joinedF joinF
  rw [e]
  simpa using foldl_joined_id l [] (by simpa using hj)
theorem plain_known {l : List Token} (h : ∀ x ∈ l, PlainT x) : ∀ t ∈ l, t.kind = 0 ∨ t.kind = 1 ∨ t.kind = 2 ∨ t.kind = 3 := fun t ht => by
  rcases h t ht with h | h
  · exact .inl h.1
  · exact .inr h
theorem joinF_joined {l : List Token} (h : ∀ x ∈ l, PlainT x) : Joined (joinF l) := foldl_joined l [] trivial (plain_known h)
theorem joinedF_joinF {l : List Token} (h : ∀ x ∈ l, PlainT x) : joinedF (joinF l) = joinF l := joinedF_id (joinF_plain h) (joinF_joined h)
/-- Ahead stands no text. -/
def EndsTag (o : List Token) : Prop := ∀ u, o.getLast? = some u → u.kind ≠ 0
theorem joinStep_apart {o : List Token} (ho : EndsTag o) (p : List Token) (t : Token) : joinStep (o ++ p) t = o ++ joinStep p t := by
  unfold joinStep
  split
  · rw [List.append_assoc]
  · split
    · rfl
    · rcases List.eq_nil_or_concat p with rfl | ⟨l, u, rfl⟩
      · rw [List.append_nil]
        simp only [List.getLast?_nil, List.nil_append]
        split
        · rename_i u hu
          rw [if_neg (ho u hu)]
        · rfl
      · rw [List.concat_eq_append, ← List.append_assoc]
        simp only [List.getLast?_append, List.getLast?_singleton, Option.some_or]
        split
        · rw [List.dropLast_concat, List.dropLast_concat, List.append_assoc]
        · simp [List.append_assoc]
theorem foldl_apart {o : List Token} (ho : EndsTag o) : ∀ (l p : List Token), l.foldl joinStep (o ++ p) = o ++ l.foldl joinStep p
  | [], _ => rfl
  | t :: l, p => by
    rw [List.foldl_cons, List.foldl_cons, joinStep_apart ho, foldl_apart ho l]
theorem joinF_apart {l m : List Token} (h : EndsTag (joinF l)) : joinF (l ++ m) = joinF l ++ joinF m := by
  unfold joinF at *
  rw [List.foldl_append]
  have := foldl_apart h m []
  rwa [List.append_nil] at this
theorem joinStep_tag {o : List Token} {t : Token} (h : t.kind ≠ 0) : joinStep o t = o ++ [t] := by
  unfold joinStep; rw [if_pos h]
theorem joinF_tag {l : List Token} {t : Token} (h : t.kind ≠ 0) : joinF (l ++ [t]) = joinF l ++ [t] := by
  unfold joinF
  rw [List.foldl_append]
  exact joinStep_tag h
theorem endsTag_snoc {l : List Token} {t : Token} (h : t.kind ≠ 0) : EndsTag (l ++ [t]) := by
  intro u hu
  simp only [List.getLast?_append, List.getLast?_singleton, Option.some_or, Option.some.injEq] at hu
  subst hu
  exact h

/-- Builds in two parts. -/
theorem buildLoop_append : ∀ (l m : List Token) (i : Nat) (st : List Level),
    buildLoop i st (l ++ m) = if (buildLoop i st l).2 ≠ 0 then buildLoop i st l else buildLoop (i + l.length) (buildLoop i st l).1 m
  | [], m, i, st => by simp [buildLoop]
  | t :: l, m, i, st => by
    rw [List.cons_append, buildLoop, buildLoop]
    by_cases h4 : 400 ≤ i
    · rw [if_pos h4, if_pos h4, if_pos (show (4 : Int) ≠ 0 by decide)]
    · rw [if_neg h4, if_neg h4]
      by_cases hn : (takeTok st t).2 ≠ 0
      · rw [if_pos hn, if_pos hn, if_pos hn]
      · rw [if_neg hn, if_neg hn, buildLoop_append l m (i + 1), List.length_cons, show i + 1 + l.length = i + (l.length + 1) by omega]
theorem buildLoop_len : ∀ (l : List Token) (i : Nat) (st : List Level), (buildLoop i st l).2 = 0 → l ≠ [] → i + l.length ≤ 400
  | [], _, _, _, h => absurd rfl h
  | t :: l, i, st, h, _ => by
    unfold buildLoop at h
    split at h
    · cases h
    · rename_i h4
      split at h
      · rename_i hne; exact absurd h hne
      · rcases Classical.em (l = []) with rfl | hl
        · simp; omega
        · have := buildLoop_len l (i + 1) _ h hl
          rw [List.length_cons]; omega

/-- The page itself, at the stack's end, is another one. -/
def mapBot (f : Level → Level) : List Level → List Level
  | [] => []
  | [p] => [f p]
  | u :: v :: r => u :: mapBot f (v :: r)
theorem mapBot_len (f : Level → Level) : ∀ st : List Level, (mapBot f st).length = st.length
  | [] => rfl
  | [p] => rfl
  | u :: v :: r => by simp only [mapBot, List.length_cons]; rw [mapBot_len f (v :: r)]; rfl
/-- The page itself, with whatever elements. -/
def PageB (p : Level) : Prop := p.name = [] ∧ p.e.setKids [] = elem0 0
theorem PageB.kind {p : Level} (h : PageB p) : p.e.kind = 0 := by
  have := congrArg Elem.kind h.2
  rwa [Elem.kind_setKids] at this
theorem PageB.set {p : Level} (h : PageB p) (l : List Elem) : PageB ⟨p.e.setKids l, p.name⟩ := ⟨h.1, by
  have e : ∀ x : Elem, (x.setKids l).setKids [] = x.setKids [] := fun x => by cases x; rfl
  exact (e _).trans h.2⟩
theorem PageB.eq {p : Level} (h : PageB p) : p = ⟨(elem0 0).setKids p.e.kids, []⟩ := by
  obtain ⟨e, n⟩ := p
  obtain ⟨h1, h2⟩ := h
  simp only at h1 h2
  subst h1
  rw [← h2]
  cases e
  rfl
theorem pageB0 : PageB page0 := ⟨rfl, rfl⟩
def Bot0 : List Level → Prop
  | [] => False
  | [p] => PageB p
  | _ :: v :: r => Bot0 (v :: r)
/-- More elements ahead of the page's own. -/
def moreKids (x : List Elem) (p : Level) : Level := ⟨p.e.setKids (x ++ p.e.kids), p.name⟩
theorem setKids_setKids (e : Elem) (a b : List Elem) : (e.setKids a).setKids b = e.setKids b := by cases e; rfl
theorem setKids_kids (e : Elem) : e.setKids e.kids = e := by cases e; rfl
theorem putF_more (x : List Elem) (e : Elem) : ∀ st : List Level, Bot0 st → putF (mapBot (moreKids x) st) e = mapBot (moreKids x) (putF st e)
  | [], h => h.elim
  | [p], h => by
    have h : p.e.kind = 0 := PageB.kind h
    simp only [mapBot, putF, moreKids, putK, Elem.kind_setKids, Elem.kids_setKids, setKids_setKids]
    rw [if_neg (by omega), if_neg (by omega)]
    simp [setKids_setKids, List.append_assoc]
  | u :: v :: r, h => rfl
theorem bot0_put {e : Elem} : ∀ {st : List Level}, Bot0 st → Bot0 (putF st e)
  | [], h => h.elim
  | [p], h => by
    show PageB ⟨putK p.e e, p.name⟩
    unfold putK
    split
    · exact h
    · exact PageB.set h _
  | u :: v :: r, h => h
theorem takeTok_more (x : List Elem) (t : Token) : ∀ st : List Level, Bot0 st → takeTok (mapBot (moreKids x) st) t = (mapBot (moreKids x) (takeTok st t).1, (takeTok st t).2) ∧ Bot0 (takeTok st t).1
  | [], h => h.elim
  | [p], h => by
    have hp : p.e.kind = 0 := PageB.kind h
    have hm : mapBot (moreKids x) [p] = [moreKids x p] := rfl
    have hk : (moreKids x p).e.kind = 0 := by simp [moreKids, hp]
    have h1 := fun e => putF_more x e [p] h
    rw [hm] at h1
    unfold takeTok
    split
    · unfold beginF
      cases hq : ruleF t.text with
      | none => exact ⟨rfl, h⟩
      | some q =>
        simp only [hm]
        split
        · exact ⟨rfl, h⟩
        · cases attrsF q.kind (elem0 q.kind) [] t.attrs with
          | none => exact ⟨rfl, h⟩
          | some e =>
            simp only
            split
            · exact ⟨rfl, h⟩
            · have e1 : fitsF (moreKids x p).e q.kind q.inn = fitsF p.e q.kind q.inn := by
                unfold fitsF
                rw [hk, hp, if_neg (by omega), if_neg (by omega), if_neg (by omega), if_neg (by omega)]
              rw [e1]
              split
              · exact ⟨rfl, h⟩
              · split
                · rw [h1]; exact ⟨rfl, bot0_put h⟩
                · rw [if_neg (by simp), if_neg (by simp)]
                  exact ⟨rfl, h⟩
    · split
      · unfold closeF
        cases hq : ruleF t.text with
        | none => exact ⟨rfl, h⟩
        | some q =>
          simp only [hm]
          split
          · exact ⟨rfl, h⟩
          · simp only [eq_self, true_or, if_true]
            exact ⟨rfl, h⟩
      · unfold wordF
        simp only [hm]
        rw [if_neg (by omega), if_neg (by omega), h1]
        exact ⟨rfl, bot0_put h⟩
  | u :: v :: r, h => by
    have h0 : Bot0 (v :: r) := h
    have hm : mapBot (moreKids x) (u :: v :: r) = u :: mapBot (moreKids x) (v :: r) := rfl
    have hl := mapBot_len (moreKids x) (v :: r)
    obtain ⟨y, ys, hy⟩ : ∃ y ys, mapBot (moreKids x) (v :: r) = y :: ys := by
      cases hz : mapBot (moreKids x) (v :: r) with
      | nil => rw [hz] at hl; cases hl
      | cons y ys => exact ⟨y, ys, rfl⟩
    have h1 : ∀ e, putF (u :: mapBot (moreKids x) (v :: r)) e = mapBot (moreKids x) (putF (u :: v :: r) e) := fun e => rfl
    have h2 := fun e => putF_more x e (v :: r) h0
    rw [hm]
    unfold takeTok
    split
    · unfold beginF
      cases hq : ruleF t.text with
      | none => exact ⟨rfl, h⟩
      | some q =>
        simp only
        split
        · exact ⟨rfl, h⟩
        · cases attrsF q.kind (elem0 q.kind) [] t.attrs with
          | none => exact ⟨rfl, h⟩
          | some e =>
            simp only
            split
            · exact ⟨rfl, h⟩
            · split
              · exact ⟨rfl, h⟩
              · split
                · exact ⟨rfl, h⟩
                · rw [List.length_cons, hl]
                  simp only [List.length_cons]
                  split
                  · exact ⟨rfl, h⟩
                  · exact ⟨rfl, h⟩
    · split
      · unfold closeF
        cases hq : ruleF t.text with
        | none => exact ⟨rfl, h⟩
        | some q =>
          simp only
          split
          · exact ⟨rfl, h⟩
          · rw [hy] at h2 ⊢
            by_cases hc : (v :: r) = [] ∨ u.name ≠ t.text ∨ u.e.kind = 4 ∧ u.e.kids.length ≠ 2 ∨ u.e.kind = 7 ∧ u.e.kids.length = 0
            · have hc2 : (y :: ys) = [] ∨ u.name ≠ t.text ∨ u.e.kind = 4 ∧ u.e.kids.length ≠ 2 ∨ u.e.kind = 7 ∧ u.e.kids.length = 0 := hc.imp (fun e => by cases e) id
              rw [if_pos hc, if_pos hc2]
              exact ⟨by rw [hm, hy], h⟩
            · have hc2 : ¬ ((y :: ys) = [] ∨ u.name ≠ t.text ∨ u.e.kind = 4 ∧ u.e.kids.length ≠ 2 ∨ u.e.kind = 7 ∧ u.e.kids.length = 0) := fun e => hc (e.imp (fun e => by cases e) id)
              rw [if_neg hc, if_neg hc2, h2]
              exact ⟨rfl, bot0_put h0⟩
      · unfold wordF
        simp only
        split
        · exact ⟨rfl, h⟩
        · exact ⟨rfl, h⟩
/-- Behind x elements tokens are built as by themselves, but for how many they are. -/
theorem buildLoop_more (x : List Elem) (d : Nat) : ∀ (l : List Token) (i : Nat) (st : List Level), Bot0 st → (buildLoop i st l).2 = 0 →
    (buildLoop (i + d) (mapBot (moreKids x) st) l).2 = 4 ∨ buildLoop (i + d) (mapBot (moreKids x) st) l = (mapBot (moreKids x) (buildLoop i st l).1, 0)
  | [], i, st, h, _ => .inr rfl
  | t :: l, i, st, h, he => by
    unfold buildLoop at he ⊢
    split at he
    · cases he
    · rename_i h4
      split at he
      · rename_i hne; exact absurd he hne
      · rename_i hne
        by_cases h5 : 400 ≤ i + d
        · rw [if_pos h5]; exact .inl rfl
        · obtain ⟨e1, e2⟩ := takeTok_more x t st h
          rw [if_neg h5, if_neg h4, e1, if_neg hne]
          simp only [if_neg hne]
          have := buildLoop_more x d l (i + 1) _ e2 he
          rwa [Nat.add_right_comm] at this
end Go.Proofs.YtijpfcjlochahaaGreatDoor
