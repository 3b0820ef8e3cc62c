/- Plain law of tags that are written: what a tag's text is parted ps. -/
import Derived.Test.YtijpfcjlochahaaLexQ
namespace Go.Proofs.Ytijpfcjlochahaa
open Go Go.RowKit

theorem needF_app : ∀ (m r : List UInt8) (k : Nat), m ≠ [] → needF m (m ++ r) k = if k + m.length ≤ 400 then .ok () r (k + m.length) else .bad 2
  | [], _, _, h => absurd rfl h
  | c :: m, r, k, _ => by
    rw [needF, List.cons_append]
    simp only [peekF]
    by_cases h4 : 400 ≤ k
    · simp only [if_pos h4, Out.bind]
      rw [if_neg (by simp only [List.length_cons]; omega)]
    · simp only [if_neg h4, Out.bind, List.tail_cons, if_true]
      cases m with
      | nil =>
        simp only [List.nil_append, needF, List.length_cons, List.length_nil]
        rw [if_pos (by omega)]
      | cons d m =>
        rw [needF_app (d :: m) r (k + 1) (by simp)]
        simp only [List.length_cons]
        have e : k + 1 + (m.length + 1) = k + (m.length + 1 + 1) := by omega
        rw [e]
theorem runF_app (p : UInt8 → Bool) (c : UInt8) (r : List UInt8) (hc : p c = false) : ∀ (l : List UInt8) (k : Nat), (∀ x ∈ l, p x = true) →
    runF p (l ++ c :: r) k = if k + l.length < 400 then .ok l (c :: r) (k + l.length) else .bad 2
  | [], k, _ => by
    simp only [List.nil_append, runF, List.length_nil, Nat.add_zero, hc]
    by_cases h4 : 400 ≤ k
    · rw [if_pos h4, if_neg (by omega)]
    · rw [if_neg h4]
      simp only [Bool.false_eq_true, if_false]
      rw [if_pos (by omega)]
  | x :: l, k, h => by
    have hx : p x = true := h x (by simp)
    simp only [List.cons_append, runF, hx, if_true]
    by_cases h4 : 400 ≤ k
    · rw [if_pos h4, if_neg (by simp only [List.length_cons]; omega)]
    · rw [if_neg h4, runF_app p c r hc l (k + 1) (fun y hy => h y (by simp [hy]))]
      have e : k + 1 + l.length = k + (x :: l).length := by simp only [List.length_cons]; omega
      rw [e]
      split <;> rfl
theorem nameF_app (c : UInt8) (r : List UInt8) (hc : letterB c = false) (l : List UInt8) (k : Nat) (hl : l ≠ []) (h : ∀ x ∈ l, letterB x = true) :
    nameF (l ++ c :: r) k = if k + l.length < 400 then .ok l (c :: r) (k + l.length) else .bad 2 := by
  rw [nameF, runF_app letterB c r hc l k h]
  split
  · simp only [Out.bind, if_neg hl]
  · rfl

/-- How an attribute is written, with so many blanks besides. -/
def attrText (g : List UInt8) (p : Pair) : List UInt8 := 32 :: g ++ (p.name ++ ([61] ++ ([34] ++ (p.value ++ [34]))))
def attrsText (g : List UInt8) : List Pair → List UInt8
  | [] => []
  | p :: l => attrText g p ++ attrsText g l
theorem attrsText_append (g : List UInt8) : ∀ (a b : List Pair), attrsText g (a ++ b) = attrsText g a ++ attrsText g b
  | [], b => rfl
  | p :: a, b => by simp only [List.cons_append, attrsText]; rw [attrsText_append g a b, List.append_assoc]
/-- How a tag ends: its kind is told by that. -/
def endText (k : Int) : List UInt8 := if k = 3 then [47, 62] else [62]
def GoodAttr (p : Pair) : Prop := p.name ≠ [] ∧ (∀ x ∈ p.name, letterB x = true) ∧ ∀ x ∈ p.value, plainB x = true
/-- No two have one name. -/
def Apart : List Pair → Prop
  | [] => True
  | p :: l => (∀ q ∈ l, q.name ≠ p.name) ∧ Apart l
theorem apart_snoc {l : List Pair} {p : Pair} (h : Apart l) (hp : ∀ q ∈ l, q.name ≠ p.name) : Apart (l ++ [p]) := by
  induction l with
  | nil => exact ⟨by simp, trivial⟩
  | cons x l ih =>
    obtain ⟨h1, h2⟩ := h
    refine ⟨fun q hq => ?_, ih h2 (fun q hq => hp q (by simp [hq]))⟩
    rcases List.mem_append.1 hq with hq | hq
    · exact h1 q hq
    · have : q = p := by simpa using hq
      subst this
      exact fun e => hp x (by simp) e.symm
theorem blank_all {g : List UInt8} (hg : ∀ x ∈ g, x = 32) : ∀ x ∈ g, blankB x = true := fun x hx => by rw [hg x hx]; rfl
theorem letter_facts {c : UInt8} (h : letterB c = true) : blankB c = false ∧ c ≠ 62 ∧ c ≠ 47 := by
  refine ⟨?_, ?_, ?_⟩
  · cases hb : blankB c with
    | false => rfl
    | true =>
      exfalso
      simp only [blankB, Bool.or_eq_true, beq_iff_eq] at hb
      rcases hb with ((rfl | rfl) | rfl) | rfl <;> exact absurd h (by decide)
  · rintro rfl; exact absurd h (by decide)
  · rintro rfl; exact absurd h (by decide)
theorem needF_one (c : UInt8) (r : List UInt8) (k : Nat) : needF [c] (c :: r) k = if k + 1 ≤ 400 then .ok () r (k + 1) else .bad 2 := needF_app [c] r k (by simp)
theorem any_name {l : List Pair} {p : Pair} (h : ∀ q ∈ l, q.name ≠ p.name) : l.any (fun x => x.name == p.name) = false := by
  rw [List.any_eq_false]
  intro q hq
  simpa using h q hq
theorem tagRest_app (g : List UInt8) (hg : ∀ x ∈ g, x = 32) (nm : List UInt8) (kd : Int) (hkd : kd = 1 ∨ kd = 3) : ∀ (ps : List Pair) (n : Nat) (at_ : List Pair) (k : Nat),
    ps.length < n → (∀ p ∈ ps, GoodAttr p) → Apart ps → (∀ p ∈ ps, ∀ q ∈ at_, q.name ≠ p.name) → at_.length + ps.length ≤ 8 →
    tagRest n nm at_ (attrsText g ps ++ (g ++ endText kd)) k =
      if k + (attrsText g ps ++ (g ++ endText kd)).length ≤ 400 then .ok ⟨kd, nm, at_ ++ ps⟩ [] (k + (attrsText g ps ++ (g ++ endText kd)).length) else .bad 2
  | [], 0, _, _, h, _, _, _, _ => absurd h (by simp)
  | [], n + 1, at_, k, _, _, _, _, _ => by
    rw [tagRest]
    simp only [attrsText, List.nil_append, List.append_nil]
    rcases hkd with rfl | rfl
    · rw [show endText 1 = 62 :: [] from rfl, runF_app blankB 62 [] rfl g k (blank_all hg)]
      simp only [List.length_append, List.length_cons, List.length_nil]
      by_cases h4 : k + g.length < 400
      · rw [if_pos h4, if_pos (by omega)]
        simp only [Out.bind, peekF]
        rw [if_neg (by omega)]
        simp only [tagTail, if_true, List.tail_cons]
        rfl
      · rw [if_neg h4, if_neg (by omega)]; rfl
    · rw [show endText 3 = 47 :: [62] from rfl, runF_app blankB 47 [62] rfl g k (blank_all hg)]
      simp only [List.length_append, List.length_cons, List.length_nil]
      by_cases h4 : k + g.length < 400
      · rw [if_pos h4]
        simp only [Out.bind, peekF]
        rw [if_neg (by omega)]
        simp only [tagTail, List.tail_cons, if_true]
        rw [if_neg (by decide), needF_one]
        by_cases h5 : k + g.length + 1 + 1 ≤ 400
        · rw [if_pos h5, if_pos (by omega)]; rfl
        · rw [if_neg h5, if_neg (by omega)]; rfl
      · rw [if_neg h4, if_neg (by omega)]; rfl
  | _ :: _, 0, _, _, h, _, _, _, _ => absurd h (by simp)
  | p :: ps, n + 1, at_, k, hn, hgood, hap, hat, h8 => by
    obtain ⟨hne, hlet, hval⟩ := hgood p (by simp)
    obtain ⟨c, nm', hcn⟩ := List.exists_cons_of_ne_nil hne
    have hc := letter_facts (hlet c (by rw [hcn]; simp))
    have hT : attrsText g (p :: ps) ++ (g ++ endText kd) = (32 :: g) ++ (c :: (nm' ++ 61 :: (34 :: (p.value ++ 34 :: (attrsText g ps ++ (g ++ endText kd)))))) := by
      simp [attrsText, attrText, hcn]
    have hL : (attrsText g (p :: ps) ++ (g ++ endText kd)).length = g.length + p.name.length + p.value.length + 4 + (attrsText g ps ++ (g ++ endText kd)).length := by
      rw [hT, hcn]; simp; omega
    have ih := tagRest_app g hg nm kd hkd ps n (at_ ++ [p]) (k + (g.length + p.name.length + p.value.length + 4)) (by simpa using hn) (fun q hq => hgood q (by simp [hq])) hap.2
      (fun q hq x hx => by
        rcases List.mem_append.1 hx with hx | hx
        · exact hat q (by simp [hq]) x hx
        · have : x = p := by simpa using hx
          subst this
          exact fun e => hap.1 q hq e.symm) (by simp at h8 ⊢; omega)
    rw [hL, hT, tagRest]
    generalize attrsText g ps ++ (g ++ endText kd) = T at *
    rw [runF_app blankB c _ hc.1 (32 :: g) k (fun x hx => by
      rcases List.mem_cons.1 hx with rfl | hx
      · rfl
      · exact blank_all hg x hx)]
    simp only [List.length_cons]
    by_cases h1 : k + (g.length + 1) < 400
    · rw [if_pos h1]
      simp only [Out.bind, peekF]
      rw [if_neg (by omega)]
      simp only [tagTail]
      rw [if_neg hc.2.1, if_neg hc.2.2, if_neg (by simp)]
      have e1 : c :: (nm' ++ 61 :: (34 :: (p.value ++ 34 :: T))) = p.name ++ 61 :: (34 :: (p.value ++ 34 :: T)) := by rw [hcn]; rfl
      rw [e1, nameF_app 61 _ (by decide) p.name _ hne hlet]
      by_cases h2 : k + (g.length + 1) + p.name.length < 400
      · rw [if_pos h2]
        simp only [Out.bind]
        rw [needF_one, if_pos (by omega)]
        simp only [tagEq]
        rw [any_name (hat p (by simp)), show decide (8 ≤ at_.length) = false by rw [decide_eq_false_iff_not]; simp only [List.length_cons] at h8; omega]
        simp only [Bool.or_self, Bool.false_eq_true, if_false, tagVal]
        rw [needF_one]
        by_cases h3 : k + (g.length + 1) + p.name.length + 1 + 1 ≤ 400
        · rw [if_pos h3]
          simp only [Out.bind]
          rw [runF_app plainB 34 _ (by decide) p.value _ hval]
          by_cases h5 : k + (g.length + 1) + p.name.length + 1 + 1 + p.value.length < 400
          · rw [if_pos h5]
            simp only [Out.bind]
            rw [needF_one, if_pos (by omega)]
            simp only [Out.bind]
            have e2 : k + (g.length + 1) + p.name.length + 1 + 1 + p.value.length + 1 = k + (g.length + p.name.length + p.value.length + 4) := by omega
            rw [e2, ih]
            have e3 : k + (g.length + p.name.length + p.value.length + 4) + T.length = k + (g.length + p.name.length + p.value.length + 4 + T.length) := by omega
            rw [e3, List.append_assoc]; rfl
          · rw [if_neg h5, if_neg (by omega)]
        · rw [if_neg h3, if_neg (by omega)]; rfl
      · rw [if_neg h2, if_neg (by omega)]; rfl
    · rw [if_neg h1, if_neg (by omega)]; rfl

/-- How a tag is written. -/
def tagText (kd : Int) (nm g : List UInt8) (ps : List Pair) : List UInt8 :=
  if kd = 2 then closB ++ (nm ++ (g ++ [62])) else openB ++ (nm ++ (attrsText g ps ++ (g ++ endText kd)))
theorem attrs_len (g : List UInt8) : ∀ ps : List Pair, ps.length ≤ (attrsText g ps).length
  | [] => by simp
  | p :: ps => by
    have := attrs_len g ps
    simp only [attrsText, attrText, List.length_append, List.length_cons, List.length_nil]
    omega
theorem tail_head (g : List UInt8) (hg : ∀ x ∈ g, x = 32) (ps : List Pair) (kd : Int) (hkd : kd = 1 ∨ kd = 3) : ∃ c r, attrsText g ps ++ (g ++ endText kd) = c :: r ∧ letterB c = false := by
  cases ps with
  | cons p ps => exact ⟨32, _, rfl, by decide⟩
  | nil =>
    cases g with
    | cons x g => exact ⟨x, _, rfl, by rw [hg x (by simp)]; decide⟩
    | nil => rcases hkd with rfl | rfl
             · exact ⟨62, [], rfl, by decide⟩
             · exact ⟨47, [62], rfl, by decide⟩
theorem tagF_text (kd : Int) (hkd : kd = 1 ∨ kd = 2 ∨ kd = 3) (nm g : List UInt8) (ps : List Pair) (hnm : nm ≠ []) (hlet : ∀ x ∈ nm, letterB x = true) (hg : ∀ x ∈ g, x = 32)
    (hgood : ∀ p ∈ ps, GoodAttr p) (hap : Apart ps) (h8 : ps.length ≤ 8) (h2 : kd = 2 → ps = []) :
    tagF (if kd = 2 then closB else openB) (tagText kd nm g ps) 0 = if (tagText kd nm g ps).length ≤ 400 then .ok ⟨kd, nm, ps⟩ [] (tagText kd nm g ps).length else .bad 2 := by
  by_cases hk : kd = 2
  · subst hk
    have h2 := h2 rfl
    subst h2
    simp only [tagText, if_true]
    rw [tagF, needF_app closB _ 0 (by decide)]
    rw [if_pos (by decide)]
    simp only [Out.bind, if_true, List.length_append]
    have hgap : ∃ c r, g ++ [62] = c :: r ∧ letterB c = false := by
      cases g with
      | nil => exact ⟨62, [], rfl, by decide⟩
      | cons x g => exact ⟨x, _, rfl, by rw [hg x (by simp)]; decide⟩
    obtain ⟨c, r, hcr, hc⟩ := hgap
    have hlen : closB.length = 6 := rfl
    rw [hcr, nameF_app c r hc nm _ hnm hlet, ← hcr]
    by_cases h1 : 0 + closB.length + nm.length < 400
    · rw [if_pos h1]
      simp only [Out.bind]
      rw [runF_app blankB 62 [] rfl g _ (blank_all hg)]
      simp only [List.length_cons, List.length_nil]
      by_cases h3 : 0 + closB.length + nm.length + g.length < 400
      · rw [if_pos h3]
        simp only [Out.bind]
        rw [needF_one, if_pos (by omega), if_pos (by omega)]
        simp only [Out.bind]
        congr 1; omega
      · rw [if_neg h3, if_neg (by omega)]
    · rw [if_neg h1, if_neg (by simp only [List.length_cons, List.length_nil]; omega)]
  · have hkd2 : kd = 1 ∨ kd = 3 := by omega
    simp only [tagText, if_neg hk]
    rw [tagF, needF_app openB _ 0 (by decide), if_pos (show 0 + openB.length ≤ 400 by decide)]
    simp only [Out.bind, if_neg (show ¬ openB = closB by decide)]
    have hlen : openB.length = 5 := rfl
    obtain ⟨c, r, hcr, hc⟩ := tail_head g hg ps kd hkd2
    have hL : (openB ++ (nm ++ (attrsText g ps ++ (g ++ endText kd)))).length = 5 + nm.length + (attrsText g ps ++ (g ++ endText kd)).length := by
      rw [List.length_append, List.length_append, hlen]; omega
    rw [hL, hcr, nameF_app c r hc nm _ hnm hlet, ← hcr]
    have hpos : 0 < (attrsText g ps ++ (g ++ endText kd)).length := by rw [hcr]; simp
    by_cases h1 : 0 + openB.length + nm.length < 400
    · rw [if_pos h1]
      simp only [Out.bind]
      rw [tagRest_app g hg nm kd hkd2 ps _ [] _ (by have := attrs_len g ps; rw [List.length_append]; omega) hgood hap (fun p _ q hq => absurd hq (by simp)) (by simpa using h8)]
      have e : 0 + openB.length + nm.length + (attrsText g ps ++ (g ++ endText kd)).length = 5 + nm.length + (attrsText g ps ++ (g ++ endText kd)).length := by omega
      rw [e]; rfl
    · rw [if_neg h1, if_neg (by rw [hlen] at h1; omega)]

theorem hits_app (m r : List UInt8) : hits (m ++ r) m = true := by
  unfold hits
  rw [List.take_left, List.length_append, List.take_of_length_le (by omega)]
  simp
theorem markF_open (r : List UInt8) : markF false (openB ++ r) = (openB, 0) := by
  have h := hits_app openB r
  show markF false (60 :: (_ ++ r)) = _
  rw [markF]
  have e : markAt false (60 :: ([101, 115, 105, 58] ++ r)) = some openB := by
    unfold markAt
    have h : hits (60 :: ([101, 115, 105, 58] ++ r)) openB = true := h
    rw [if_pos h]
  rw [if_pos (Or.inl rfl)]
  show (match markAt false (60 :: ([101, 115, 105, 58] ++ r)) with | some m => (m, 0) | none => _) = _
  rw [e]
theorem markF_clos (r : List UInt8) : markF false (closB ++ r) = (closB, 0) := by
  have h := hits_app closB r
  show markF false (60 :: (_ ++ r)) = _
  rw [markF]
  have e : markAt false (60 :: ([47, 101, 115, 105, 58] ++ r)) = some closB := by
    unfold markAt
    rw [if_neg (by
      unfold hits
      have : (60 :: ([47, 101, 115, 105, 58] ++ r)).take openB.length = [60, 47, 101, 115, 105] := rfl
      rw [this]
      have : openB.take (60 :: ([47, 101, 115, 105, 58] ++ r)).length = openB := List.take_of_length_le (by simp [openB])
      rw [this]
      decide), if_pos (show hits (60 :: ([47, 101, 115, 105, 58] ++ r)) closB = true from h)]
  rw [if_pos (Or.inl rfl)]
  show (match markAt false (60 :: ([47, 101, 115, 105, 58] ++ r)) with | some m => (m, 0) | none => _) = _
  rw [e]
theorem joinF_one {kd : Int} (h : kd ≠ 0) (nm : List UInt8) (ps : List Pair) : joinF [⟨kd, nm, ps⟩] = [⟨kd, nm, ps⟩] := by
  simp [joinF, joinStep, h]
/-- The plain law of LexTags. -/
theorem allF_tag (kd : Int) (hkd : kd = 1 ∨ kd = 2 ∨ kd = 3) (nm g : List UInt8) (ps : List Pair) (hnm : nm ≠ []) (hlet : ∀ x ∈ nm, letterB x = true) (hg : ∀ x ∈ g, x = 32)
    (hgood : ∀ p ∈ ps, GoodAttr p) (hap : Apart ps) (h8 : ps.length ≤ 8) (h2 : kd = 2 → ps = []) :
    allF (tagText kd nm g ps) = if (tagText kd nm g ps).length ≤ 400 then ([⟨kd, nm, ps⟩], 0) else ([], 2) := by
  have ht := tagF_text kd hkd nm g ps hnm hlet hg hgood hap h8 h2
  obtain ⟨m, hm⟩ : ∃ m, m = if kd = 2 then closB else openB := ⟨_, rfl⟩
  rw [← hm] at ht
  have hm2 : m = closB ∨ m = openB := by rw [hm]; split <;> simp
  have hmk : markF false (tagText kd nm g ps) = (m, 0) := by
    rw [hm]; unfold tagText
    split
    · exact markF_clos _
    · exact markF_open _
  have hml : m.length ≤ (tagText kd nm g ps).length := by
    rw [hm]; unfold tagText
    split <;> simp
  have hm3 : m ≠ [] ∧ m ≠ remB ∧ m ≠ behB := by rcases hm2 with rfl | rfl <;> decide
  generalize tagText kd nm g ps = s at *
  have hf : feedF ⟨[], false⟩ s = if s.length ≤ 400 then (⟨[], false⟩, [⟨kd, nm, ps⟩], 0) else (⟨[], false⟩, [], 2) := by
    rw [feedF_right_eq (x := ⟨[], false⟩) rfl]
    show feedG false s [] = _
    rw [feedG_eq, hmk]
    simp only [withText, Nat.lt_irrefl, if_false, List.drop_zero, feedStep]
    rw [if_neg (by rintro (h | h); exact absurd h (by omega); exact hm3.1 h), if_neg (by rintro (h | h); exact hm3.2.1 h; exact hm3.2.2 h)]
    have hcf : cutF s m = if s.length ≤ 400 then (⟨kd, nm, ps⟩, s.length, 0) else (noTok, 0, 2) := by
      unfold cutF
      rw [ht]
      by_cases h4 : s.length ≤ 400
      · rw [if_pos h4, if_pos h4]
      · rw [if_neg h4, if_neg h4]
    rw [hcf]
    by_cases h4 : s.length ≤ 400
    · simp only [if_pos h4]
      have hpos : s.length ≠ 0 := by
        have := List.length_pos_iff.2 hm3.1
        omega
      rw [if_neg (by simp), if_neg hpos, List.drop_length, feedG_eq]
      simp [markF, withText, feedStep]
    · simp only [if_neg h4]
      rw [if_pos (by simp)]
  unfold allF
  simp only [hf]
  by_cases h4 : s.length ≤ 400
  · simp only [if_pos h4]
    rw [if_neg (by simp)]
    have he : endF ⟨[], false⟩ = ([], 0) := by rfl
    rw [he]
    simp only [List.append_nil]
    rw [if_neg (by simp), joinF_one (by omega)]
  · simp only [if_neg h4]
    rw [if_pos (by simp)]
end Go.Proofs.Ytijpfcjlochahaa
