/- Plain laws of layer 15: two pages behind one another; a page within an element. No program is named here. -/
import Derived.Test.YtijpfcjlochahaaGreatDoorPLex
namespace Go.Proofs.YtijpfcjlochahaaGreatDoor
open Go Go.RowKit

theorem fed_all {s : List UInt8} {b : Bool} {o : List Token} (h : Fed s ⟨[], b⟩ o) : allF s = (joinF o, 0) := by
  rw [h.end_]
  have e : endF ⟨[], b⟩ = ([], 0) := by
    unfold endF
    rw [if_pos h.right]
    rfl
  rw [e]
  simp
theorem allF_plain (s : List UInt8) : ∀ t ∈ (allF s).1, PlainT t := by
  unfold allF
  simp only
  split
  · intro t ht; cases ht
  · split
    · intro t ht; cases ht
    · refine joinF_plain fun x hx => ?_
      rcases List.mem_append.1 hx with h | h
      · exact feedF_plain _ _ x h
      · exact endF_plain _ x h
theorem allF_joined (s : List UInt8) : Joined (allF s).1 := by
  unfold allF
  simp only
  split
  · trivial
  · split
    · trivial
    · refine joinF_joined fun x hx => ?_
      rcases List.mem_append.1 hx with h | h
      · exact feedF_plain _ _ x h
      · exact endF_plain _ x h
def finF (z : List Level × Int) : List Elem × Int :=
  if z.2 ≠ 0 then ([], z.2) else match z.1 with
    | [p] => (p.e.kids, 0)
    | _ => ([], 42)
theorem finF_bad {z : List Level × Int} (h : z.2 ≠ 0) : finF z = ([], z.2) := by unfold finF; rw [if_pos h]
theorem finF_one (p : Level) : finF ([p], 0) = (p.e.kids, 0) := rfl
theorem finF_ok {z : List Level × Int} (h : (finF z).2 = 0) : ∃ p, z = ([p], 0) := by
  unfold finF at h
  split at h
  · rename_i hne; exact absurd h hne
  · rename_i hne
    have h0 : z.2 = 0 := Classical.byContradiction hne
    obtain ⟨z1, z2⟩ := z
    simp only at h h0
    subst h0
    split at h
    · exact ⟨_, rfl⟩
    · cases h
theorem readF_all {s : List UInt8} (h : (readF s).2 = 0) : (allF s).2 = 0 := by
  unfold readF at h
  split at h
  · assumption
  · rename_i hne; exact Classical.byContradiction hne
theorem readF_fin {s : List UInt8} (h : (allF s).2 = 0) : readF s = finF (buildLoop 0 [page0] (allF s).1) := by
  unfold readF
  rw [if_neg (by simp [h])]
  show finF (buildLoop 0 [page0] (joinedF (allF s).1)) = _
  rw [joinedF_id (allF_plain s) (allF_joined s)]
theorem buildLoop_bot : ∀ (l : List Token) (i : Nat) (st : List Level), Bot0 st → Bot0 (buildLoop i st l).1
  | [], _, _, h => h
  | t :: l, i, st, h => by
    have h2 := (takeTok_more [] t st h).2
    unfold buildLoop
    split
    · exact h
    · split
      · exact h2
      · exact buildLoop_bot l _ _ h2
theorem fed_of {s : List UInt8} (h : (allF s).2 = 0) : (feedF ⟨[], false⟩ s).2.2 = 0 := by
  refine Classical.byContradiction fun hne => ?_
  have := fed_start.bad s [] hne
  rw [List.nil_append, List.append_nil] at this
  rw [this] at h
  exact hne h
/-- Two pages behind one another, the first of which ends with a tag, and outside a remark. -/
theorem readF_joins {a b : List UInt8} (h1 : (readF (a ++ commentS)).2 = 0) (h2 : (readF b).2 = 0) (hin : (feedF ⟨[], false⟩ (a ++ commentS)).1.inside = false) :
    (readF (a ++ commentS ++ b)).2 = 4 ∨ readF (a ++ commentS ++ b) = ((readF (a ++ commentS)).1 ++ (readF b).1, 0) := by
  have g1 := readF_all h1
  have g2 := readF_all h2
  obtain ⟨i, o, hf⟩ := page_tag g1
  have hst : (feedF ⟨[], false⟩ (a ++ commentS)).1 = ⟨[], i⟩ := by
    rw [feedF_right_eq rfl]; exact hf.eqv.st
  rw [hst] at hin
  have hin : i = false := hin
  subst hin
  have hb0 := fed_of g2
  have fb := fed_start.step b hb0
  have fab := hf.step b hb0
  generalize feedF ⟨[], false⟩ b = z at *
  rw [List.nil_append, List.nil_append] at fb
  have ea := fed_all hf
  have eb := fb.end_
  have eab := fab.end_
  have hend : (endF z.1).2 = 0 := by
    refine Classical.byContradiction fun hne => ?_
    rw [if_pos hne] at eb
    rw [eb] at g2
    exact hne g2
  rw [if_neg (by simp [hend])] at eb eab
  have hj : joinF (o ++ [commentTok] ++ z.2.1 ++ (endF z.1).1) = joinF (o ++ [commentTok]) ++ joinF (z.2.1 ++ (endF z.1).1) := by
    rw [List.append_assoc (o ++ [commentTok])]
    refine joinF_apart ?_
    rw [joinF_tag (by decide)]
    exact endsTag_snoc (by decide)
  rw [hj] at eab
  rw [readF_fin g1] at h1 ⊢
  rw [readF_fin g2] at h2 ⊢
  rw [readF_fin (s := a ++ commentS ++ b) (by rw [eab])]
  rw [ea] at h1 ⊢
  rw [eb] at h2 ⊢
  rw [eab]
  simp only at h1 h2 ⊢
  generalize joinF (o ++ [commentTok]) = JA at *
  generalize joinF (z.2.1 ++ (endF z.1).1) = JB at *
  obtain ⟨p, hp⟩ := finF_ok h1
  obtain ⟨q, hq⟩ := finF_ok h2
  have hpb : PageB p := by
    have := buildLoop_bot JA 0 [page0] pageB0
    rw [hp] at this
    exact this
  have hpe : [p] = mapBot (moreKids p.e.kids) [page0] := by
    have h3 := hpb.eq
    show [p] = [moreKids p.e.kids page0]
    have h4 : moreKids p.e.kids page0 = ⟨(elem0 0).setKids p.e.kids, []⟩ := by
      unfold moreKids page0
      simp [elem0, Elem.kids]
    rw [h4, ← h3]
  rw [buildLoop_append, hp, hq]
  rw [if_neg (by simp)]
  simp only
  rw [hpe]
  have hm := buildLoop_more p.e.kids JA.length JB 0 [page0] pageB0 (by rw [hq])
  rw [hq] at hm
  rw [← hpe]
  rw [← hpe] at hm
  rcases hm with hm | hm
  · left
    rw [finF_bad (by rw [hm]; decide)]
    exact hm
  · right
    rw [hm]
    show finF ([moreKids p.e.kids q], 0) = _
    rw [finF_one, finF_one, finF_one]
    simp [moreKids]

/-- The element that a page is within. -/
def wname (k : Int) : List UInt8 := if k = 10 then nVars else nRemove
def wrapL (k : Int) (p : Level) : Level := ⟨(elem0 k).setKids (if k = 11 then [] else p.e.kids), wname k⟩
def wrapBot (k : Int) : List Level → List Level
  | [] => []
  | [p] => [wrapL k p, page0]
  | u :: v :: r => u :: wrapBot k (v :: r)
theorem wrapBot_len (k : Int) : ∀ (st : List Level), st ≠ [] → (wrapBot k st).length = st.length + 1
  | [], h => absurd rfl h
  | [p], _ => rfl
  | u :: v :: r, _ => by simp only [wrapBot, List.length_cons]; rw [wrapBot_len k (v :: r) (by simp)]; rfl
theorem wrapL_kind (k : Int) (p : Level) : (wrapL k p).e.kind = k := by unfold wrapL; rw [Elem.kind_setKids]; rfl
theorem putF_wrap {k : Int} (hk : k = 10 ∨ k = 11) (e : Elem) : ∀ st : List Level, Bot0 st → putF (wrapBot k st) e = wrapBot k (putF st e)
  | [], h => h.elim
  | [p], h => by
    have h0 : p.e.kind = 0 := PageB.kind h
    show ⟨putK (wrapL k p).e e, (wrapL k p).name⟩ :: [page0] = [wrapL k ⟨putK p.e e, p.name⟩, page0]
    congr 1
    unfold putK
    rw [wrapL_kind, if_neg (by omega : ¬ p.e.kind = 11)]
    rcases hk with rfl | rfl
    · rw [if_neg (by decide)]
      simp [wrapL, setKids_setKids]
    · rw [if_pos rfl]
      simp [wrapL]
  | u :: v :: r, h => rfl
/-- One token within such an element: as on the page, or it is too deep. -/
theorem takeTok_wrap (t : Token) : ∀ st : List Level, Bot0 st → (takeTok st t).2 = 0 → ∃ c : Int, (c = 0 ∨ c = 5) ∧ ∀ k, k = 10 ∨ k = 11 →
    (takeTok (wrapBot k st) t).2 = c ∧ (c = 0 → (takeTok (wrapBot k st) t).1 = wrapBot k (takeTok st t).1)
  | [], h, _ => h.elim
  | [p], h, he => by
    refine ⟨0, .inl rfl, fun k hk => ?_⟩
    have hp : p.e.kind = 0 := PageB.kind h
    have hm : wrapBot k [p] = [wrapL k p, page0] := rfl
    have hkk := wrapL_kind k p
    have h1 := fun e => putF_wrap hk e [p] h
    rw [hm] at h1 ⊢
    unfold takeTok at he ⊢
    split at he
    · rename_i ht
      simp only [if_pos ht]
      unfold beginF at he ⊢
      cases hq : ruleF t.text with
      | none => rw [hq] at he; cases he
      | some q =>
        rw [hq] at he
        simp only at he ⊢
        split at he
        · cases he
        · rename_i ha
          rw [if_neg ha, if_neg ha]
          cases hat : attrsF q.kind (elem0 q.kind) [] t.attrs with
          | none => rw [hat] at he; cases he
          | some e =>
            rw [hat] at he
            simp only at he ⊢
            split at he
            · cases he
            · rename_i hn
              rw [if_neg hn, if_neg hn]
              have e1 : fitsF (wrapL k p).e q.kind q.inn = fitsF p.e q.kind q.inn := by
                unfold fitsF
                rw [hkk, hp, if_neg (by omega), if_neg (by omega), if_neg (by omega), if_neg (by omega)]
              rw [e1]
              split at he
              · cases he
              · rename_i hf
                rw [if_neg hf, if_neg hf]
                split at he
                · rename_i hal
                  rw [if_pos hal, if_pos hal, h1]
                  exact ⟨rfl, fun _ => rfl⟩
                · rename_i hal
                  rw [if_neg hal, if_neg hal, if_neg (by simp), if_neg (by simp)]
                  exact ⟨rfl, fun _ => rfl⟩
    · rename_i ht
      split at he
      · rename_i ht2
        unfold closeF at he
        cases hq : ruleF t.text with
        | none => rw [hq] at he; cases he
        | some q =>
          rw [hq] at he
          simp only at he
          split at he
          · cases he
          · simp at he
      · rename_i ht2
        simp only [if_neg ht, if_neg ht2]
        unfold wordF
        simp only
        rw [if_neg (by omega), if_neg (by omega), h1]
        exact ⟨rfl, fun _ => rfl⟩
  | u :: v :: r, h, he => by
    have h0 : Bot0 (v :: r) := h
    have hl := fun k => wrapBot_len k (v :: r) (by simp)
    have hcons : ∀ k, ∃ y ys, wrapBot k (v :: r) = y :: ys := fun k => by
      cases hz : wrapBot k (v :: r) with
      | nil => have := hl k; rw [hz] at this; cases this
      | cons y ys => exact ⟨y, ys, rfl⟩
    have hm : ∀ k, wrapBot k (u :: v :: r) = u :: wrapBot k (v :: r) := fun k => rfl
    unfold takeTok at he
    by_cases ht : t.kind = 1 ∨ t.kind = 3
    · rw [if_pos ht] at he
      unfold beginF at he
      cases hq : ruleF t.text with
      | none => rw [hq] at he; cases he
      | some q =>
        rw [hq] at he
        simp only at he
        split at he
        · cases he
        · rename_i ha
          cases hat : attrsF q.kind (elem0 q.kind) [] t.attrs with
          | none => rw [hat] at he; cases he
          | some e =>
            rw [hat] at he
            simp only at he
            split at he
            · cases he
            · rename_i hn
              split at he
              · cases he
              · rename_i hf
                split at he
                · rename_i hal
                  refine ⟨0, .inl rfl, fun k hk => ?_⟩
                  rw [hm]
                  unfold takeTok
                  rw [if_pos ht, if_pos ht]
                  unfold beginF
                  rw [hq]
                  simp only
                  rw [if_neg ha, if_neg ha, hat]
                  simp only
                  rw [if_neg hn, if_neg hn, if_neg hf, if_neg hf, if_pos hal, if_pos hal]
                  exact ⟨rfl, fun _ => rfl⟩
                · rename_i hal
                  split at he
                  · cases he
                  · rename_i hd
                    by_cases hd2 : 16 < (u :: v :: r).length + 1
                    · refine ⟨5, .inr rfl, fun k hk => ⟨?_, fun e => by cases e⟩⟩
                      rw [hm]
                      unfold takeTok
                      rw [if_pos ht]
                      unfold beginF
                      rw [hq]
                      simp only
                      rw [if_neg ha, hat]
                      simp only
                      rw [if_neg hn, if_neg hf, if_neg hal, if_pos (by rw [List.length_cons, hl k]; exact hd2)]
                    · refine ⟨0, .inl rfl, fun k hk => ?_⟩
                      rw [hm]
                      unfold takeTok
                      rw [if_pos ht, if_pos ht]
                      unfold beginF
                      rw [hq]
                      simp only
                      rw [if_neg ha, if_neg ha, hat]
                      simp only
                      rw [if_neg hn, if_neg hn, if_neg hf, if_neg hf, if_neg hal, if_neg hal, if_neg (by rw [List.length_cons, hl k]; exact hd2), if_neg hd]
                      exact ⟨rfl, fun _ => rfl⟩
    · rw [if_neg ht] at he
      refine ⟨0, .inl rfl, fun k hk => ?_⟩
      by_cases ht2 : t.kind = 2
      · rw [if_pos ht2] at he
        rw [hm]
        unfold takeTok
        rw [if_neg ht, if_pos ht2, if_neg ht, if_pos ht2]
        unfold closeF at he ⊢
        cases hq : ruleF t.text with
        | none => rw [hq] at he; cases he
        | some q =>
          rw [hq] at he
          simp only at he ⊢
          split at he
          · cases he
          · rename_i hal
            rw [if_neg hal, if_neg hal]
            split at he
            · cases he
            · rename_i hc
              obtain ⟨y, ys, hy⟩ := hcons k
              have h2 := putF_wrap hk u.e (v :: r) h0
              rw [hy] at h2 ⊢
              rw [if_neg hc, if_neg (fun e => hc (e.imp (fun e => by cases e) id)), h2]
              exact ⟨rfl, fun _ => rfl⟩
      · rw [if_neg ht2] at he
        rw [hm]
        unfold takeTok
        rw [if_neg ht, if_neg ht2, if_neg ht, if_neg ht2]
        unfold wordF at he ⊢
        simp only at he ⊢
        split at he
        · rename_i h47
          rw [if_pos h47, if_pos h47]
          exact ⟨he, fun _ => rfl⟩
        · rename_i h47
          rw [if_neg h47, if_neg h47]
          exact ⟨rfl, fun _ => rfl⟩
theorem buildLoop_wrap : ∀ (l : List Token) (i : Nat) (st : List Level), Bot0 st → (buildLoop i st l).2 = 0 → ∃ c : Int, (c = 0 ∨ c = 4 ∨ c = 5) ∧ ∀ k, k = 10 ∨ k = 11 →
    (buildLoop (i + 1) (wrapBot k st) l).2 = c ∧ (c = 0 → (buildLoop (i + 1) (wrapBot k st) l).1 = wrapBot k (buildLoop i st l).1)
  | [], i, st, h, _ => ⟨0, .inl rfl, fun k _ => ⟨rfl, fun _ => rfl⟩⟩
  | t :: l, i, st, h, he => by
    unfold buildLoop at he
    split at he
    · cases he
    · rename_i h4
      split at he
      · rename_i hne; exact absurd he hne
      · rename_i hne
        have hne0 : (takeTok st t).2 = 0 := Classical.byContradiction hne
        by_cases h5 : 400 ≤ i + 1
        · refine ⟨4, .inr (.inl rfl), fun k hk => ⟨?_, fun e => by cases e⟩⟩
          unfold buildLoop
          rw [if_pos h5]
        · obtain ⟨c, hc, hk0⟩ := takeTok_wrap t st h hne0
          rcases hc with rfl | rfl
          · obtain ⟨c, hc, hk1⟩ := buildLoop_wrap l (i + 1) _ (takeTok_more [] t st h).2 he
            refine ⟨c, hc, fun k hk => ?_⟩
            obtain ⟨e1, e2⟩ := hk0 k hk
            have h6 := hk1 k hk
            unfold buildLoop
            rw [if_neg h5, if_neg (by rw [e1]; simp), e2 rfl, if_neg h4, if_neg hne]
            exact h6
          · refine ⟨5, .inr (.inr rfl), fun k hk => ⟨?_, fun e => by cases e⟩⟩
            obtain ⟨e1, -⟩ := hk0 k hk
            unfold buildLoop
            rw [if_neg h5, if_pos (by rw [e1]; decide)]
            exact e1
def openS (k : Int) : List UInt8 := if k = 10 then [60, 101, 115, 105, 58, 118, 97, 114, 115, 62] else [60, 101, 115, 105, 58, 114, 101, 109, 111, 118, 101, 62]
def closeS (k : Int) : List UInt8 := if k = 10 then [60, 47, 101, 115, 105, 58, 118, 97, 114, 115, 62] else [60, 47, 101, 115, 105, 58, 114, 101, 109, 111, 118, 101, 62]
def openT (k : Int) : Token := ⟨1, wname k, []⟩
def closeT (k : Int) : Token := ⟨2, wname k, []⟩
theorem feed_open {k : Int} (hk : k = 10 ∨ k = 11) : feedF ⟨[], false⟩ (openS k) = (⟨[], false⟩, [openT k], 0) := by
  rcases hk with rfl | rfl <;> rfl
theorem feed_close {k : Int} (hk : k = 10 ∨ k = 11) : feedF ⟨[], false⟩ (closeS k) = (⟨[], false⟩, [closeT k], 0) := by
  rcases hk with rfl | rfl <;> rfl
theorem allF_wrap {k : Int} (hk : k = 10 ∨ k = 11) {s : List UInt8} {o : List Token} (h : feedF ⟨[], false⟩ s = (⟨[], false⟩, o, 0)) :
    allF (openS k ++ s ++ closeS k) = (openT k :: joinF o ++ [closeT k], 0) := by
  have f1 := fed_start.step (openS k) (by rw [feed_open hk])
  rw [feed_open hk] at f1
  have f2 := f1.step s (by rw [h])
  rw [h] at f2
  have f3 := f2.step (closeS k) (by rw [feed_close hk])
  rw [feed_close hk] at f3
  have := fed_all f3
  simp only [List.nil_append] at this
  rw [this, joinF_tag (show (closeT k).kind ≠ 0 from by show (2 : Int) ≠ 0; decide), joinF_apart]
  · rw [show joinF [openT k] = [openT k] from joinStep_tag (o := []) (show (openT k).kind ≠ 0 from by show (1 : Int) ≠ 0; decide)]
    rfl
  · rw [show joinF [openT k] = [openT k] from joinStep_tag (o := []) (show (openT k).kind ≠ 0 from by show (1 : Int) ≠ 0; decide)]
    exact endsTag_snoc (l := []) (show (openT k).kind ≠ 0 from by show (1 : Int) ≠ 0; decide)
theorem allF_plainly {s : List UInt8} {o : List Token} (h : feedF ⟨[], false⟩ s = (⟨[], false⟩, o, 0)) : allF s = (joinF o, 0) := by
  have f1 := fed_start.step s (by rw [h])
  rw [h, List.nil_append, List.nil_append] at f1
  exact fed_all f1
def wrapE (k : Int) (l : List Elem) : Elem := (elem0 k).setKids (if k = 11 then [] else l)
theorem take_open {k : Int} (hk : k = 10 ∨ k = 11) : takeTok [page0] (openT k) = (wrapBot k [page0], 0) := by
  rcases hk with rfl | rfl <;> rfl
theorem rule_wname {k : Int} (hk : k = 10 ∨ k = 11) : ∃ q, ruleF (wname k) = some q ∧ q.alone = false := by
  rcases hk with rfl | rfl
  · exact ⟨⟨10, false, 0⟩, rfl, rfl⟩
  · exact ⟨⟨11, false, 0⟩, rfl, rfl⟩
theorem take_close {k : Int} (hk : k = 10 ∨ k = 11) (p : Level) : takeTok (wrapBot k [p]) (closeT k) = ([⟨(elem0 0).setKids [wrapE k p.e.kids], []⟩], 0) := by
  show takeTok [wrapL k p, page0] (closeT k) = _
  obtain ⟨q, hq, hqa⟩ := rule_wname hk
  unfold takeTok
  rw [if_neg (by show ¬ ((2 : Int) = 1 ∨ (2 : Int) = 3); decide), if_pos (show (closeT k).kind = 2 from rfl)]
  unfold closeF
  rw [show (closeT k).text = wname k from rfl, hq]
  simp only [hqa]
  have hkk := wrapL_kind k p
  rw [if_neg (by simp), if_neg]
  · rfl
  · rintro (h | h | ⟨h, -⟩ | ⟨h, -⟩)
    · cases h
    · exact h rfl
    · omega
    · omega
/-- A page within an element of variables, and within one that is removed. -/
theorem readF_wraps {s : List UInt8} {o : List Token} (h : feedF ⟨[], false⟩ s = (⟨[], false⟩, o, 0)) (he : (readF s).2 = 0) : ∃ c : Int, (c = 0 ∨ c = 4 ∨ c = 5) ∧ ∀ k, k = 10 ∨ k = 11 →
    (readF (openS k ++ s ++ closeS k)).2 = c ∧ (c = 0 → (readF (openS k ++ s ++ closeS k)).1 = [wrapE k (readF s).1]) := by
  have hs := allF_plainly h
  rw [readF_fin (by rw [hs])] at he ⊢
  rw [hs] at he ⊢
  simp only at he ⊢
  generalize joinF o = J at *
  obtain ⟨p, hp⟩ := finF_ok he
  obtain ⟨c, hc, hk1⟩ := buildLoop_wrap J 0 [page0] pageB0 (by rw [hp])
  have hrun : ∀ k, k = 10 ∨ k = 11 → allF (openS k ++ s ++ closeS k) = (openT k :: J ++ [closeT k], 0) → readF (openS k ++ s ++ closeS k) = finF (buildLoop 1 (wrapBot k [page0]) (J ++ [closeT k])) := by
    intro k hk ha
    rw [readF_fin (by rw [ha]), ha]
    simp only [List.cons_append]
    rw [buildLoop, if_neg (by decide), take_open hk]
    rw [if_neg (by simp)]
  have hall := fun k (hk : k = 10 ∨ k = 11) => hrun k hk (by rw [allF_wrap hk h, show joinF o = J from by rw [allF_plainly h] at hs; injection hs])
  by_cases hc0 : c = 0
  · subst hc0
    by_cases h4 : 400 ≤ 1 + J.length
    · refine ⟨4, .inr (.inl rfl), fun k hk => ⟨?_, fun e => by cases e⟩⟩
      obtain ⟨e1, e2⟩ := hk1 k hk
      rw [hall k hk, buildLoop_append]
      rw [show (0 : Nat) + 1 = 1 from rfl] at e1 e2
      rw [if_neg (by rw [e1]; simp)]
      have : (buildLoop (1 + J.length) (buildLoop 1 (wrapBot k [page0]) J).1 [closeT k]).2 = 4 := by
        rw [buildLoop, if_pos h4]
      rw [finF_bad (by rw [this]; decide)]
      exact this
    · refine ⟨0, .inl rfl, fun k hk => ?_⟩
      obtain ⟨e1, e2⟩ := hk1 k hk
      rw [show (0 : Nat) + 1 = 1 from rfl] at e1 e2
      rw [hall k hk, buildLoop_append, if_neg (by rw [e1]; simp), e2 rfl, hp]
      rw [buildLoop, if_neg h4, take_close hk]
      rw [if_neg (by simp)]
      refine ⟨rfl, fun _ => ?_⟩
      show ((elem0 0).setKids [wrapE k p.e.kids]).kids = _
      rw [Elem.kids_setKids]
      rfl
  · refine ⟨c, hc, fun k hk => ⟨?_, fun e => absurd e hc0⟩⟩
    obtain ⟨e1, -⟩ := hk1 k hk
    rw [show (0 : Nat) + 1 = 1 from rfl] at e1
    rw [hall k hk, buildLoop_append, if_pos (by rw [e1]; exact hc0), finF_bad (by rw [e1]; exact hc0)]
    exact e1
end Go.Proofs.YtijpfcjlochahaaGreatDoor
