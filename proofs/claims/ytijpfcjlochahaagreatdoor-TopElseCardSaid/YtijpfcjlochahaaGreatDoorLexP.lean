/- Plain laws of lex's reader: places and lengths. No program is named here. -/
import Derived.Test.YtijpfcjlochahaaGreatDoorLexF
set_option linter.unusedVariables false
set_option linter.unusedSimpArgs false
namespace Go.Proofs.YtijpfcjlochahaaGreatDoor
open Go Go.RowKit

theorem Out.bind_ok {α β : Type} {o : Out α} {f : α → List UInt8 → Nat → Out β} {b : β} {r : List UInt8} {k : Nat} (h : o.bind f = .ok b r k) : ∃ a r1 k1, o = .ok a r1 k1 ∧ f a r1 k1 = .ok b r k := by
  cases o with
  | ok a r1 k1 => exact ⟨a, r1, k1, rfl, h⟩
  | short => cases h
  | bad e => cases h
theorem peekF_inv {r : List UInt8} {k : Nat} {c : UInt8} {r' : List UInt8} {k' : Nat} (h : peekF r k = .ok c r' k') : r' = r ∧ k' = k ∧ k < 400 ∧ ∃ t, r = c :: t := by
  unfold peekF at h
  split at h
  · cases h
  · split at h
    · cases h
    · injection h with h1 h2 h3
      subst h1 h2 h3
      exact ⟨rfl, rfl, by omega, _, rfl⟩
theorem needF_total : ∀ {m r : List UInt8} {k : Nat} {u : Unit} {r' : List UInt8} {k' : Nat}, needF m r k = .ok u r' k' → r'.length + k' = r.length + k ∧ k' = k + m.length
  | [], r, k, u, r', k', h => by
    simp only [needF] at h
    injection h with _ h1 h2
    subst h1 h2
    simp
  | c :: m, r, k, u, r', k', h => by
    rw [needF] at h
    obtain ⟨x, r1, k1, h1, h2⟩ := Out.bind_ok h
    obtain ⟨rfl, rfl, _, t, rfl⟩ := peekF_inv h1
    split at h2
    · obtain ⟨h3, h4⟩ := needF_total h2
      simp only [List.tail_cons] at h3
      simp only [List.length_cons]
      omega
    · cases h2
theorem runF_total {p : UInt8 → Bool} : ∀ {r : List UInt8} {k : Nat} {l r' : List UInt8} {k' : Nat}, runF p r k = .ok l r' k' → r'.length + k' = r.length + k ∧ k' = k + l.length
  | [], k, l, r', k', h => by simp [runF] at h
  | c :: r, k, l, r', k', h => by
    simp only [runF] at h
    split at h
    · cases h
    · split at h
      · obtain ⟨l1, r1, k1, h1, h2⟩ := Out.bind_ok h
        injection h2 with h3 h4 h5
        obtain ⟨h6, h7⟩ := runF_total h1
        subst h3 h4 h5
        simp only [List.length_cons]
        omega
      · injection h with h3 h4 h5
        subst h3 h4 h5
        simp
theorem nameF_total {r : List UInt8} {k : Nat} {l r' : List UInt8} {k' : Nat} (h : nameF r k = .ok l r' k') : r'.length + k' = r.length + k ∧ k' = k + l.length ∧ l ≠ [] := by
  rw [nameF] at h
  obtain ⟨l1, r1, k1, h1, h2⟩ := Out.bind_ok h
  split at h2
  · cases h2
  · rename_i hne
    injection h2 with h3 h4 h5
    subst h3 h4 h5
    exact ⟨(runF_total h1).1, (runF_total h1).2, hne⟩
theorem tagRest_total : ∀ {n : Nat} {nm : List UInt8} {at_ : List Pair} {r : List UInt8} {k : Nat} {t : Token} {r' : List UInt8} {k' : Nat}, tagRest n nm at_ r k = .ok t r' k' →
    r'.length + k' = r.length + k ∧ k < k' ∧ t.text = nm ∧ (t.kind = 1 ∨ t.kind = 3)
  | 0, _, _, _, _, _, _, _, h => by simp [tagRest] at h
  | n + 1, nm, at_, r, k, t, r', k', h => by
    rw [tagRest] at h
    obtain ⟨gap, r1, k1, h1, h2⟩ := Out.bind_ok h
    obtain ⟨a1, a2⟩ := runF_total h1
    obtain ⟨c, r2, k2, h3, h4⟩ := Out.bind_ok h2
    obtain ⟨rfl, rfl, _, t2, rfl⟩ := peekF_inv h3
    simp only [List.length_cons] at a1
    unfold tagTail at h4
    split at h4
    · injection h4 with b1 b2 b3
      subst b1 b2 b3
      simp only [List.tail_cons]
      exact ⟨by omega, by omega, by simp, by simp⟩
    · split at h4
      · obtain ⟨_, r5, k5, h5, h6⟩ := Out.bind_ok h4
        obtain ⟨c1, c2⟩ := needF_total h5
        injection h6 with b1 b2 b3
        subst b1 b2 b3
        simp only [List.tail_cons] at c1
        exact ⟨by omega, by omega, by simp, by simp⟩
      · split at h4
        · cases h4
        · obtain ⟨a, r5, k5, h5, h6⟩ := Out.bind_ok h4
          obtain ⟨c1, c2, _⟩ := nameF_total h5
          obtain ⟨_, r6, k6, h7, h8⟩ := Out.bind_ok h6
          obtain ⟨d1, d2⟩ := needF_total h7
          simp only [List.length_cons] at c1
          unfold tagEq at h8
          split at h8
          · cases h8
          · unfold tagVal at h8
            obtain ⟨_, r9, k9, h9, h10⟩ := Out.bind_ok h8
            obtain ⟨e1, e2⟩ := needF_total h9
            obtain ⟨v, r11, k11, h11, h12⟩ := Out.bind_ok h10
            obtain ⟨f1, f2⟩ := runF_total h11
            obtain ⟨_, r13, k13, h13, h14⟩ := Out.bind_ok h12
            obtain ⟨g1, g2⟩ := needF_total h13
            obtain ⟨i1, i2, i3, i4⟩ := tagRest_total h14
            exact ⟨by omega, by omega, i3, i4⟩
theorem tagF_total {m s : List UInt8} {t : Token} {r : List UInt8} {k : Nat} (h : tagF m s 0 = .ok t r k) : r.length + k = s.length ∧ t.text.length + m.length ≤ k ∧ t.kind ≠ 0 ∧ 0 < k := by
  rw [tagF] at h
  obtain ⟨_, r1, k1, h1, h2⟩ := Out.bind_ok h
  obtain ⟨a1, a2⟩ := needF_total h1
  obtain ⟨nm, r3, k3, h3, h4⟩ := Out.bind_ok h2
  obtain ⟨b1, b2, b3⟩ := nameF_total h3
  have hpos : 0 < nm.length := List.length_pos_iff.2 b3
  split at h4
  · obtain ⟨_, r5, k5, h5, h6⟩ := Out.bind_ok h4
    obtain ⟨c1, c2⟩ := runF_total h5
    obtain ⟨_, r7, k7, h7, h8⟩ := Out.bind_ok h6
    obtain ⟨d1, d2⟩ := needF_total h7
    injection h8 with e1 e2 e3
    subst e1 e2 e3
    refine ⟨by omega, ?_, by simp, by omega⟩
    show nm.length + m.length ≤ k7
    omega
  · obtain ⟨c1, c2, c3, c4⟩ := tagRest_total h4
    refine ⟨by omega, by rw [c3]; omega, by omega, by omega⟩
theorem cutF_total {s m : List UInt8} : (cutF s m).2.1 ≤ s.length ∧ (cutF s m).1.text.length ≤ (cutF s m).2.1 ∧ ((cutF s m).2.1 ≠ 0 → (cutF s m).1.kind ≠ 0) := by
  unfold cutF
  split
  · rename_i t r k h
    obtain ⟨h1, h2, h3, h4⟩ := tagF_total h
    exact ⟨by show k ≤ _; omega, by show t.text.length ≤ k; omega, fun _ => h3⟩
  · simp [noTok]
  · simp [noTok]
end Go.Proofs.YtijpfcjlochahaaGreatDoor
