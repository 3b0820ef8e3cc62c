/- The walk of odd, the reference's in the laws of layer 15. -/
import Derived.Test.YtijpfcjlochahaaDoorRefK
namespace Go.Proofs.YtijpfcjlochahaaDoor
open Go Go.RowKit

/-- A page's end is not as it is alone. -/
def oddF (s : List UInt8) : Bool := (feedF ⟨[], false⟩ s).2.2 != 0 || (!(feedF ⟨[], false⟩ s).1.rest.isEmpty || (feedF ⟨[], false⟩ s).1.inside)
set_option maxRecDepth 20000 in
set_option maxHeartbeats 2000000 in
theorem rodd_calls (s : ByteArray) (w : World) (hs : s.size ≤ 70000) :
    Calls Tryd.prog 24 #[.string s] w fun e w' => e = .returned (.bool (oddF (L s))) ∧ Below w.heap.size w w' := by
  have HFC := Lib.hid (rfeed_calls ⟨#[]⟩ s false w (by have e : (⟨#[]⟩ : ByteArray).size = 0 := rfl; omega))
  rw [show L ⟨#[]⟩ = [] from rfl] at HFC
  have HO : Hid (oddF (L s) = ((feedF ⟨[], false⟩ (L s)).2.2 != 0 || (!(feedF ⟨[], false⟩ (L s)).1.rest.isEmpty || (feedF ⟨[], false⟩ (L s)).1.inside))) := rfl
  generalize oddF (L s) = R at *
  generalize feedF ⟨[], false⟩ (L s) = f at *
  obtain ⟨⟨rs, ins⟩, o, ef⟩ := f
  simp only at HO
  go_enter Tryd.func24, Tryd.ntmps24
  go_wp2_with fail
  refine HFC.out.mono ?_
  rintro e w2 hp
  obtain ⟨v2, rfl, ho2, hb2⟩ := hp
  obtain ⟨A2, c2, hv2⟩ := OwnR.form ho2
  subst hv2
  have hX := Blk.new w2 34 #[.string (bs rs), .bool ins]
  have HB3 := Lib.hid (hb2.alloc hb2.size (.cells #[.string (bs rs), .bool ins] 34))
  have c0 := hX.cell 0
  have c1 := hX.cell 1
  have htl : (bs rs).toList = rs := toList_bs rs
  clear hX hb2 ho2 HFC
  cases hef : (ef != 0) with
  | true =>
    rw [hef, Bool.true_or] at HO
    go_wp2_with fail
    go_ret
    exact ⟨ret_bool HO.out.symm, HB3.out⟩
  | false =>
    rw [hef, Bool.false_or] at HO
    cases hrs : rs.isEmpty with
    | false =>
      rw [hrs, Bool.not_false, Bool.true_or] at HO
      go_wp2_with fail
      go_ret
      exact ⟨ret_bool HO.out.symm, HB3.out⟩
    | true =>
      rw [hrs, Bool.not_true, Bool.false_or] at HO
      go_wp2_with fail
      go_ret
      exact ⟨ret_bool HO.out.symm, HB3.out⟩
theorem odd_false {s : List UInt8} (h : oddF s = false) : (feedF ⟨[], false⟩ s) = (⟨[], false⟩, (feedF ⟨[], false⟩ s).2.1, 0) := by
  unfold oddF at h
  generalize feedF ⟨[], false⟩ s = f at *
  obtain ⟨⟨rs, ins⟩, o, ef⟩ := f
  simp only [Bool.or_eq_false_iff, bne_eq_false_iff_eq, Bool.not_eq_false', List.isEmpty_iff] at h
  obtain ⟨h1, h2, h3⟩ := h
  subst h1 h2 h3
  rfl
/-! ### How many elements a page has at its top -/
def levN (st : List Level) : Nat := (st.map fun x => x.e.kids.length).sum
theorem levN_cons (x : Level) (st : List Level) : levN (x :: st) = x.e.kids.length + levN st := by simp [levN]
theorem putF_N (st : List Level) (e : Elem) : levN (putF st e) ≤ levN st + 1 := by
  cases st with
  | nil => simp [putF, levN]
  | cons t r =>
    rw [putF, levN_cons, levN_cons]
    have : (putK t.e e).kids.length ≤ t.e.kids.length + 1 := by
      unfold putK
      split
      · omega
      · simp
    show (putK t.e e).kids.length + _ ≤ _
    omega
theorem takeTok_N (st : List Level) (t : Token) : levN (takeTok st t).1 ≤ levN st + 1 := by
  unfold takeTok
  split
  · unfold beginF
    split
    · simp [levN]
    · exact Nat.le_add_right _ _
    · rename_i u r q _
      split
      · exact Nat.le_add_right _ _
      · split
        · exact Nat.le_add_right _ _
        · rename_i e he
          split
          · exact Nat.le_add_right _ _
          · split
            · exact Nat.le_add_right _ _
            · split
              · exact putF_N (u :: r) (hardF q.kind e)
              · split
                · exact Nat.le_add_right _ _
                · show levN (⟨hardF q.kind e, t.text⟩ :: u :: r) ≤ _
                  rw [levN_cons]
                  have h1 : e.kids = [] := (attrsF_kind he).2
                  have h2 : (hardF q.kind e).kids = [] := by unfold hardF; simpa using h1
                  show (hardF q.kind e).kids.length + _ ≤ _
                  rw [h2]
                  simp
  · split
    · unfold closeF
      split
      · simp [levN]
      · exact Nat.le_add_right _ _
      · rename_i u r q _
        split
        · exact Nat.le_add_right _ _
        · split
          · exact Nat.le_add_right _ _
          · have := putF_N r u.e
            show levN (putF r u.e) ≤ _
            rw [levN_cons]
            omega
    · unfold wordF
      split
      · simp [levN]
      · rename_i u r
        split
        · exact Nat.le_add_right _ _
        · exact putF_N (u :: r) (textEl t.text)
theorem buildLoop_N : ∀ (l : List Token) (i : Nat) (st : List Level), levN (buildLoop i st l).1 ≤ levN st + l.length
  | [], i, st => by rw [buildLoop]; exact Nat.le_add_right _ _
  | t :: l, i, st => by
    have h1 := takeTok_N st t
    rw [buildLoop, List.length_cons]
    split
    · exact Nat.le_add_right _ _
    · split
      · omega
      · have h2 := buildLoop_N l (i + 1) (takeTok st t).1
        omega
theorem readF_len (s : List UInt8) : (readF s).1.length ≤ s.length + 1 := by
  unfold readF
  split
  · simp
  · unfold buildF
    simp only
    split
    · simp
    · have h1 := buildLoop_N (joinedF (allF s).1) 0 [page0]
      have h2 : levN [page0] = 0 := by simp [levN, page0, elem0, Elem.kids]
      have h3 : (joinedF (allF s).1).length ≤ (allF s).1.length := Nat.le_trans (joinF_len _) (by rw [List.length_map]; exact Nat.le_refl _)
      have h4 : (allF s).1.length ≤ s.length + 1 := by
        unfold allF
        simp only
        split
        · simp
        · split
          · simp
          · refine Nat.le_trans (joinF_len _) ?_
            rw [List.length_append]
            have h5 : (feedF ⟨[], false⟩ s).2.1.length + (feedF ⟨[], false⟩ s).1.rest.length ≤ 0 + s.length := (feedF_len ⟨[], false⟩ s).1
            have h6 := (rendF_len (feedF ⟨[], false⟩ s).1).1
            omega
      split
      · rename_i p hp
        rw [hp, levN_cons] at h1
        show p.e.kids.length ≤ _
        omega
      · simp
/-- A page that is read has few tokens. -/
theorem buildLoop_few : ∀ (l : List Token) (i : Nat) (st : List Level), i ≤ 400 → (buildLoop i st l).2 = 0 → i + l.length ≤ 400
  | [], i, st, hi, _ => hi
  | t :: l, i, st, hi, h => by
    rw [buildLoop] at h
    split at h
    · cases h
    · split at h
      · rename_i h2
        exact absurd h h2
      · have := buildLoop_few l (i + 1) _ (by omega) h
        rw [List.length_cons]
        omega
end Go.Proofs.YtijpfcjlochahaaDoor
