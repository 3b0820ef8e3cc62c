/- Plain law of what is built: it nests as it must. -/
import Derived.Test.YtijpfcjlochahaaGreatDoorDocF
set_option linter.unusedVariables false
set_option linter.unusedSimpArgs false
namespace Go.Proofs.YtijpfcjlochahaaGreatDoor
open Go Go.RowKit

def leafK (k : Int) : Prop := k = 1 ∨ k = 2 ∨ k = 12 ∨ k = 11
instance (k : Int) : Decidable (leafK k) := by unfold leafK; infer_instance
/-- What is asked of an element by itself. -/
def Self (N : Int → List Elem → Prop) (e : Elem) : Prop :=
  1 ≤ e.kind ∧ e.kind ≤ 12 ∧ (leafK e.kind → e.kids = []) ∧ (¬ leafK e.kind → N e.kind e.kids) ∧ (e.kind = 2 → e.src ≠ []) ∧ (e.kind = 1 → e.text ≠ [])
/-- What is asked of it at its place: within an element of kind inn, behind i others, n in all. -/
def Place (inn : Int) (k : Int) (i n : Nat) : Prop :=
  ((k = 5 ∨ k = 6) → inn = 4 ∧ (k = 5 ↔ i = 0)) ∧ ((k = 8 ∨ k = 9) → inn = 7 ∧ (k = 9 → i ≠ 0 ∧ i + 1 = n)) ∧ (k ≠ 5 → k ≠ 6 → k ≠ 8 → k ≠ 9 → inn ≠ 4 ∧ inn ≠ 7)
def NestAt (N : Int → List Elem → Prop) (inn : Int) (l : List Elem) (i : Nat) (h : i < l.length) : Prop :=
  Self N l[i] ∧ Place inn l[i].kind i l.length ∧ (0 < i → l[i].kind = 1 → ∀ u, l[i - 1]? = some u → u.kind ≠ 1)
def NestK (N : Int → List Elem → Prop) (inn : Int) (l : List Elem) : Prop := ∀ i (h : i < l.length), NestAt N inn l i h
def Nests : Nat → Int → List Elem → Prop
  | 0, _, _ => False
  | d + 1, inn, l => (inn = 4 → l.length = 2) ∧ (inn = 7 → l.length ≠ 0) ∧ NestK (Nests d) inn l

/-- One more at the end. -/
theorem NestK.snoc {N : Int → List Elem → Prop} {inn : Int} {l : List Elem} {e : Elem} (h : NestK N inn l) (hs : Self N e) (hp : Place inn e.kind l.length (l.length + 1))
    (ht : e.kind = 1 → ∀ u, l.getLast? = some u → u.kind ≠ 1) (h9 : inn = 7 → ∀ u, l.getLast? = some u → u.kind ≠ 9) : NestK N inn (l ++ [e]) := by
  intro i hi
  rw [List.length_append, List.length_singleton] at hi
  rcases Nat.lt_or_ge i l.length with hlt | hge
  · obtain ⟨h1, h2, h3⟩ := h i hlt
    have e1 : (l ++ [e])[i]'(by simp; omega) = l[i] := List.getElem_append_left hlt
    refine ⟨by rw [e1]; exact h1, ?_, ?_⟩
    · rw [e1, List.length_append, List.length_singleton]
      obtain ⟨p1, p2, p3⟩ := h2
      refine ⟨p1, fun hk => ⟨(p2 hk).1, fun hk9 => ?_⟩, p3⟩
      obtain ⟨p4, p5⟩ := p2 hk
      obtain ⟨p6, p7⟩ := p5 hk9
      exfalso
      refine h9 p4 l[i] ?_ hk9
      rw [List.getLast?_eq_getElem?, show l.length - 1 = i by omega]
      exact List.getElem?_eq_getElem hlt
    · rw [e1]
      intro hi0 hk u hu
      rw [List.getElem?_append_left (by omega)] at hu
      exact h3 hi0 hk u hu
  · have hie : i = l.length := by omega
    subst hie
    have e1 : (l ++ [e])[l.length]'(by simp) = e := by simp
    refine ⟨by rw [e1]; exact hs, by rw [e1, List.length_append, List.length_singleton]; exact hp, ?_⟩
    rw [e1]
    intro hi0 hk u hu
    refine ht hk u ?_
    rw [List.getLast?_eq_getElem?]
    rwa [List.getElem?_append_left (by omega)] at hu

def innOf (k : Int) : Int := if k = 5 ∨ k = 6 then 4 else if k = 8 ∨ k = 9 then 7 else 0
theorem ruleF_kind {s : List UInt8} {q : Rule} (h : ruleF s = some q) : q.inn = innOf q.kind ∧ (q.alone = true ∧ (q.kind = 2 ∨ q.kind = 12) ∨ q.alone = false ∧ 3 ≤ q.kind ∧ q.kind ≤ 11) := by
  unfold ruleF at h
  repeat (split at h; (· injection h with h; subst h; simp [innOf]))
  cases h
theorem place_fits {t : Elem} {k : Int} (h : fitsF t k (innOf k) = true) : Place t.kind k t.kids.length (t.kids.length + 1) ∧ (t.kind = 7 → ∀ u, t.kids.getLast? = some u → u.kind ≠ 9) := by
  unfold fitsF at h
  split at h
  · rename_i h4
    rw [decide_eq_true_eq] at h
    refine ⟨⟨fun _ => ⟨h4, by omega⟩, fun hk => by omega, fun a b c d => by omega⟩, fun h7 => by omega⟩
  · split at h
    · rename_i h7
      rw [decide_eq_true_eq] at h
      obtain ⟨h1, h2⟩ := h
      exact ⟨⟨fun hk => by omega, fun _ => ⟨h7, fun h9 => ⟨by omega, rfl⟩⟩, fun a b c d => by omega⟩, fun _ => h2⟩
    · rename_i h4 h7
      rw [decide_eq_true_eq] at h
      unfold innOf at h
      split at h
      · cases h
      · split at h
        · cases h
        · exact ⟨⟨fun hk => by omega, fun hk => by omega, fun _ _ _ _ => ⟨h4, h7⟩⟩, fun h => absurd h h7⟩

/-- The stack: each open element, and what it has. -/
def Stack : List Level → Prop
  | [] => False
  | [p] => p.e.kind = 0 ∧ NestK (Nests 16) 0 p.e.kids
  | t :: u :: r => (u :: r).length ≤ 16 ∧ 3 ≤ t.e.kind ∧ t.e.kind ≤ 11 ∧ NestK (Nests (16 - (u :: r).length)) t.e.kind t.e.kids ∧ (t.e.kind = 11 → t.e.kids = []) ∧
      fitsF u.e t.e.kind (innOf t.e.kind) = true ∧ Stack (u :: r)
/-- Behind a text of the open element stands no text. -/
def LastText (st : List Level) : Prop := ∃ t r, st = t :: r ∧ ∃ u, t.e.kids.getLast? = some u ∧ u.kind = 1
theorem Stack.nest {t : Level} {r : List Level} (h : Stack (t :: r)) : NestK (Nests (16 - r.length)) t.e.kind t.e.kids := by
  cases r with
  | nil =>
    obtain ⟨h1, h2⟩ := h
    rw [h1]; exact h2
  | cons u r => exact h.2.2.2.1
/-- The open element has other elements within it. -/
theorem Stack.kids {t : Level} {r : List Level} {l : List Elem} (h : Stack (t :: r)) (hn : NestK (Nests (16 - r.length)) t.e.kind l) (h11 : t.e.kind = 11 → l = []) : Stack (⟨t.e.setKids l, t.name⟩ :: r) := by
  cases r with
  | nil =>
    obtain ⟨h1, h2⟩ := h
    rw [h1] at hn
    exact ⟨by simpa using h1, by simpa using hn⟩
  | cons u r =>
    obtain ⟨h1, h2, h3, h4, h5, h6, h7⟩ := h
    exact ⟨h1, by simpa using h2, by simpa using h3, by simpa using hn, by simpa using h11, by simpa using h6, h7⟩
theorem Stack.put {t : Level} {r : List Level} {e : Elem} (h : Stack (t :: r)) (hs : Self (Nests (16 - r.length)) e) (hf : Place t.e.kind e.kind t.e.kids.length (t.e.kids.length + 1))
    (h9 : t.e.kind = 7 → ∀ u, t.e.kids.getLast? = some u → u.kind ≠ 9) (ht : e.kind = 1 → ¬ LastText (t :: r)) : Stack (putF (t :: r) e) := by
  show Stack (⟨putK t.e e, t.name⟩ :: r)
  unfold putK
  split
  · exact h
  · rename_i h11
    refine h.kids (h.nest.snoc hs hf (fun hk u hu he => ht hk ⟨t, r, rfl, u, hu, he⟩) h9) (fun h => absurd h h11)
theorem lastText_put {t : Level} {r : List Level} {e : Elem} (h0 : t.e.kind = 11 → t.e.kids = []) (h : LastText (putF (t :: r) e)) : e.kind = 1 := by
  obtain ⟨t', r', h1, u, h2, h3⟩ := h
  unfold putF at h1
  injection h1 with h1 _
  subst h1
  unfold putK at h2
  split at h2
  · rename_i h11
    rw [h0 h11] at h2
    cases h2
  · simp only [Elem.kids_setKids, List.getLast?_concat, Option.some.injEq] at h2
    rw [h2]; exact h3
theorem Stack.rem {t : Level} {r : List Level} (h : Stack (t :: r)) : t.e.kind = 11 → t.e.kids = [] := by
  cases r with
  | nil => exact fun e => by have := h.1; omega
  | cons u r => exact h.2.2.2.2.1
theorem takeF_kind {kd : Int} {e e' : Elem} {n v : List UInt8} (h : takeF kd e n v = some e') : e'.kind = e.kind ∧ e'.kids = e.kids := by
  unfold takeF at h
  repeat' split at h
  all_goals first
    | (cases h; done)
    | (injection h with h; subst h; simp)
theorem attrsF_kind {kd : Int} : ∀ {l seen : List Pair} {e e' : Elem}, attrsF kd e seen l = some e' → e'.kind = e.kind ∧ e'.kids = e.kids
  | [], seen, e, e', h => by
    injection h with h
    subst h
    exact ⟨rfl, rfl⟩
  | p :: l, seen, e, e', h => by
    unfold attrsF at h
    split at h
    · cases h
    · split at h
      · cases h
      · rename_i e2 h2
        obtain ⟨h3, h4⟩ := takeF_kind h2
        obtain ⟨h5, h6⟩ := attrsF_kind h
        exact ⟨h5.trans h3, h6.trans h4⟩
theorem nests_pred {d : Nat} (h : 0 < d) (k : Int) (l : List Elem) : Nests d k l ↔ (k = 4 → l.length = 2) ∧ (k = 7 → l.length ≠ 0) ∧ NestK (Nests (d - 1)) k l := by
  obtain ⟨d, rfl⟩ : ∃ m, d = m + 1 := ⟨d - 1, by omega⟩
  simp only [Nests, Nat.add_sub_cancel]

/-- One token. -/
theorem takeTok_stack {st : List Level} {t : Token} (h : Stack st) (ht : t.kind = 0 → t.text ≠ [] ∧ ¬ LastText st) (hk : t.kind = 0 ∨ t.kind = 1 ∨ t.kind = 2 ∨ t.kind = 3) (he : (takeTok st t).2 = 0) :
    Stack (takeTok st t).1 ∧ (LastText (takeTok st t).1 → t.kind = 0) := by
  obtain ⟨u, r, rfl⟩ : ∃ u r, st = u :: r := by
    cases st with
    | nil => exact absurd h (by simp [Stack])
    | cons u r => exact ⟨u, r, rfl⟩
  have hrem := h.rem
  unfold takeTok at he ⊢
  split at he
  · rename_i hk1
    rw [if_pos hk1]
    unfold beginF at he ⊢
    cases hq : ruleF t.text with
    | none => rw [hq] at he; cases he
    | some q =>
      rw [hq] at he
      simp only at he ⊢
      split at he
      · cases he
      · rename_i hal
        rw [if_neg hal]
        cases ha : attrsF q.kind (elem0 q.kind) [] t.attrs with
        | none => rw [ha] at he; cases he
        | some e =>
          rw [ha] at he
          simp only at he ⊢
          split at he
          · cases he
          · rename_i hnd
            rw [if_neg hnd]
            split at he
            · cases he
            · rename_i hft
              rw [if_neg hft]
              have hft : fitsF u.e q.kind q.inn = true := by simpa using hft
              obtain ⟨r1, r2⟩ := ruleF_kind hq
              rw [r1] at hft
              obtain ⟨k1, k2⟩ := attrsF_kind ha
              have k1 : e.kind = q.kind := k1
              have k2 : e.kids = [] := k2
              have hk2 : (hardF q.kind e).kind = q.kind := by unfold hardF; simpa using k1
              have hk3 : (hardF q.kind e).kids = [] := by unfold hardF; simpa using k2
              obtain ⟨f1, f2⟩ := place_fits hft
              split at he
              · rename_i hqa
                rw [if_pos hqa]
                have hqk : q.kind = 2 ∨ q.kind = 12 := by
                  rcases r2 with r2 | r2
                  · exact r2.2
                  · rw [r2.1] at hqa; cases hqa
                refine ⟨h.put ⟨by omega, by omega, fun _ => hk3, fun hl => absurd (by unfold leafK; omega) hl, fun h2 => ?_, fun h1 => by omega⟩ (by rw [hk2]; exact f1) f2 (fun h1 => by omega), fun hl => ?_⟩
                · have : needsF q.kind e = true := by simpa using hnd
                  rw [hk2] at h2
                  unfold needsF at this
                  rw [if_pos (.inl h2), decide_eq_true_eq] at this
                  unfold hardF
                  simpa using this
                · have := lastText_put hrem hl
                  omega
              · rename_i hqa
                rw [if_neg hqa]
                split at he
                · cases he
                · rename_i hdp
                  rw [if_neg hdp]
                  have hqk : 3 ≤ q.kind ∧ q.kind ≤ 11 := by
                    rcases r2 with r2 | r2
                    · exact absurd r2.1 hqa
                    · exact r2.2
                  refine ⟨⟨by omega, by show 3 ≤ (hardF q.kind e).kind; omega, by show (hardF q.kind e).kind ≤ 11; omega, ?_, fun _ => hk3, by show fitsF u.e (hardF q.kind e).kind (innOf (hardF q.kind e).kind) = true; rw [hk2]; exact hft, h⟩, ?_⟩
                  · show NestK _ (hardF q.kind e).kind (hardF q.kind e).kids
                    rw [hk3]
                    intro i hi
                    exact absurd hi (by simp)
                  · rintro ⟨t', r', h1, x, h2, h3⟩
                    injection h1 with h1 _
                    subst h1
                    have h2 : (hardF q.kind e).kids.getLast? = some x := h2
                    rw [hk3] at h2
                    cases h2
  · rename_i hk1
    rw [if_neg hk1]
    split at he
    · rename_i hk2
      rw [if_pos hk2]
      unfold closeF at he ⊢
      cases hq : ruleF t.text with
      | none => rw [hq] at he; cases he
      | some q =>
        rw [hq] at he
        simp only at he ⊢
        split at he
        · cases he
        · rename_i hal
          rw [if_neg hal]
          split at he
          · cases he
          · rename_i hc
            rw [if_neg hc]
            obtain ⟨v, r, rfl⟩ : ∃ v r', r = v :: r' := by
              cases r with
              | nil => exact absurd (.inl rfl) hc
              | cons v r => exact ⟨v, r, rfl⟩
            obtain ⟨h1, h2, h3, h4, h5, h6, h7⟩ := h
            obtain ⟨f1, f2⟩ := place_fits h6
            simp only [List.length_cons] at h1 h4
            have hd : (v :: r).length = r.length + 1 := rfl
            refine ⟨h7.put ⟨by omega, by omega, ?_, ?_, fun e2 => by omega, fun e1 => by omega⟩ f1 f2 (fun h1 => by omega), fun hl => ?_⟩
            · intro hl
              unfold leafK at hl
              exact h5 (by omega)
            · intro hl
              rw [nests_pred (by omega)]
              refine ⟨fun e4 => Classical.byContradiction fun hn => hc (.inr (.inr (.inl ⟨e4, hn⟩))), fun e7 hn => hc (.inr (.inr (.inr ⟨e7, hn⟩))), ?_⟩
              have e : 16 - r.length - 1 = 16 - (r.length + 1) := by omega
              rw [e]; exact h4
            · have := lastText_put h7.rem hl
              omega
    · rename_i hk2
      rw [if_neg hk2]
      have hk0 : t.kind = 0 := by omega
      unfold wordF at he ⊢
      simp only at he ⊢
      split at he
      · rename_i h47
        rw [if_pos h47]
        exact ⟨h, fun _ => hk0⟩
      · rename_i h47
        rw [if_neg h47]
        refine ⟨h.put ⟨by simp [textEl, Elem.kind], by simp [textEl, Elem.kind], fun _ => rfl, fun hl => absurd (.inl rfl) hl, fun e => by simp [textEl, Elem.kind] at e, fun _ => (ht hk0).1⟩ ?_ ?_ (fun _ => (ht hk0).2), fun _ => hk0⟩
        · refine ⟨fun e => by simp [textEl, Elem.kind] at e, fun e => by simp [textEl, Elem.kind] at e, fun _ _ _ _ => by omega⟩
        · exact fun e => absurd (.inr e) h47
/-- Tokens that are joined: known kinds, no empty text, no two texts behind one another. -/
def Joined : List Token → Prop
  | [] => True
  | t :: l => (t.kind = 0 → t.text ≠ [] ∧ ∀ u, l.head? = some u → u.kind ≠ 0) ∧ (t.kind = 0 ∨ t.kind = 1 ∨ t.kind = 2 ∨ t.kind = 3) ∧ Joined l
theorem buildLoop_stack : ∀ (l : List Token) (i : Nat) (st : List Level), Stack st → Joined l → (LastText st → ∀ u, l.head? = some u → u.kind ≠ 0) → (buildLoop i st l).2 = 0 → Stack (buildLoop i st l).1
  | [], i, st, h, _, _, _ => h
  | t :: l, i, st, h, hj, hlt, he => by
    unfold buildLoop at he ⊢
    split at he
    · cases he
    · rename_i h4
      rw [if_neg h4]
      split at he
      · rename_i hne
        exact absurd he hne
      · rename_i hne
        rw [if_neg hne]
        have hne : (takeTok st t).2 = 0 := Classical.byContradiction hne
        obtain ⟨j1, j2, j3⟩ := hj
        obtain ⟨s1, s2⟩ := takeTok_stack h (fun h0 => ⟨(j1 h0).1, fun hl => hlt hl t rfl h0⟩) j2 hne
        exact buildLoop_stack l (i + 1) _ s1 j3 (fun hl => (j1 (s2 hl)).2) he

theorem joined_snoc {l : List Token} {t : Token} (h : Joined l) (h0 : t.kind = 0 → t.text ≠ [] ∧ ∀ u, l.getLast? = some u → u.kind ≠ 0) (hk : t.kind = 0 ∨ t.kind = 1 ∨ t.kind = 2 ∨ t.kind = 3) : Joined (l ++ [t]) := by
  induction l with
  | nil => exact ⟨fun e => ⟨(h0 e).1, by simp⟩, hk, trivial⟩
  | cons x l ih =>
    obtain ⟨h1, h2, h3⟩ := h
    refine ⟨fun e => ⟨(h1 e).1, ?_⟩, h2, ih h3 (fun e => ⟨(h0 e).1, fun u hu => ?_⟩)⟩
    · intro u hu
      cases l with
      | nil =>
        have hu : t = u := Option.some.inj hu
        subst hu
        exact fun hk0 => (h0 hk0).2 x rfl e
      | cons y l => exact (h1 e).2 u (by simpa using hu)
    · refine (h0 e).2 u ?_
      cases l with
      | nil => cases hu
      | cons y l => rw [List.getLast?_cons_cons]; exact hu
theorem joined_last {l : List Token} {u u' : Token} (h : Joined (l ++ [u])) (hk : u'.kind = 0) (hk' : u.kind = 0) (ht : u'.text ≠ []) : Joined (l ++ [u']) := by
  induction l with
  | nil => exact ⟨fun _ => ⟨ht, by simp⟩, .inl hk, trivial⟩
  | cons x l ih =>
    obtain ⟨h1, h2, h3⟩ := h
    refine ⟨fun e => ⟨(h1 e).1, ?_⟩, h2, ih h3⟩
    intro v hv
    cases l with
    | nil =>
      exact absurd hk' ((h1 e).2 u (by simp))
    | cons y l => exact (h1 e).2 v (by simpa using hv)
theorem joinStep_joined {o : List Token} {t : Token} (h : Joined o) (hk : t.kind = 0 ∨ t.kind = 1 ∨ t.kind = 2 ∨ t.kind = 3) : Joined (joinStep o t) := by
  unfold joinStep
  split
  · rename_i h0
    exact joined_snoc h (fun e => absurd e h0) hk
  · split
    · exact h
    · rename_i h0 h1
      rcases List.eq_nil_or_concat o with rfl | ⟨l, u, rfl⟩
      · exact joined_snoc h (fun e => ⟨h1, by simp⟩) hk
      · rw [List.concat_eq_append] at h ⊢
        simp only [List.getLast?_append, List.getLast?_singleton, Option.some_or]
        split
        · rename_i hu
          rw [List.dropLast_concat]
          exact joined_last h hu hu (by simp [h1])
        · rename_i hu
          refine joined_snoc h (fun e => ⟨h1, fun v hv => ?_⟩) hk
          simp only [List.getLast?_append, List.getLast?_singleton, Option.some_or, Option.some.injEq] at hv
          subst hv
          exact hu
theorem foldl_joined : ∀ (l o : List Token), Joined o → (∀ t ∈ l, t.kind = 0 ∨ t.kind = 1 ∨ t.kind = 2 ∨ t.kind = 3) → Joined (l.foldl joinStep o)
  | [], o, h, _ => h
  | t :: l, o, h, hk => foldl_joined l _ (joinStep_joined h (hk t (by simp))) (fun x hx => hk x (by simp [hx]))
theorem knownF_kind (t : Token) : (knownF t).kind = 0 ∨ (knownF t).kind = 1 ∨ (knownF t).kind = 2 ∨ (knownF t).kind = 3 := by
  unfold knownF
  split
  · rename_i h; exact .inr h
  · exact .inl rfl
theorem joinedF_joined (l : List Token) : Joined (joinedF l) := by
  refine foldl_joined _ [] trivial fun t ht => ?_
  obtain ⟨x, -, rfl⟩ := List.mem_map.1 ht
  exact knownF_kind x
/-- What is built nests as it must; where it is refused, there is nothing. -/
theorem buildF_nests (l : List Token) : ((buildF l).2 = 0 → Nests 17 0 (buildF l).1) ∧ ((buildF l).2 ≠ 0 → (buildF l).1 = []) := by
  have hu : buildF l = if (buildLoop 0 [page0] (joinedF l)).2 ≠ 0 then ([], (buildLoop 0 [page0] (joinedF l)).2) else match (buildLoop 0 [page0] (joinedF l)).1 with
    | [p] => (p.e.kids, 0)
    | _ => ([], 42) := rfl
  rw [hu]
  split
  · rename_i hne
    exact ⟨fun h => absurd h hne, fun _ => rfl⟩
  · rename_i hne
    have hne : (buildLoop 0 [page0] (joinedF l)).2 = 0 := Classical.byContradiction hne
    have h := buildLoop_stack (joinedF l) 0 [page0] ⟨rfl, fun i hi => absurd hi (by simp [page0, elem0, Elem.kids])⟩ (joinedF_joined l) (by
      rintro ⟨t, r, h1, u, h2, _⟩
      injection h1 with h1 _
      subst h1
      cases h2) hne
    split
    · rename_i p hp
      rw [hp] at h
      exact ⟨fun _ => ⟨fun e => absurd e (by decide), fun e => absurd e (by decide), h.2⟩, fun e => absurd rfl e⟩
    · exact ⟨fun e => absurd e (by decide), fun _ => rfl⟩
theorem readF_nests (s : List UInt8) : ((readF s).2 = 0 → Nests 17 0 (readF s).1) ∧ ((readF s).2 ≠ 0 → (readF s).1 = []) := by
  unfold readF
  split
  · rename_i h
    exact ⟨fun e => absurd e h, fun _ => rfl⟩
  · exact buildF_nests _
end Go.Proofs.YtijpfcjlochahaaGreatDoor
