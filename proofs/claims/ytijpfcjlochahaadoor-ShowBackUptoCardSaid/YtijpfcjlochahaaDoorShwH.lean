/- Plain: the elements that are read of a page have texts no longer than the page. No program is named here. The walk of ShowBack. -/
import Derived.Test.YtijpfcjlochahaaDoorShwK
import Derived.Test.YtijpfcjlochahaaDoorLexJ
import Derived.Test.YtijpfcjlochahaaDoorLexP
import Derived.Test.YtijpfcjlochahaaDoorLike
import Derived.Test.YtijpfcjlochahaaDoorDocN
namespace Go.Proofs.YtijpfcjlochahaaDoor
open Go Go.RowKit

def valSz (l : List Pair) : Nat := (l.map fun p => p.value.length).sum
def tokSz (t : Token) : Nat := t.text.length + valSz t.attrs
def toksSz (l : List Token) : Nat := (l.map tokSz).sum
theorem valSz_append (a b : List Pair) : valSz (a ++ b) = valSz a + valSz b := by simp [valSz]
theorem toksSz_append (a b : List Token) : toksSz (a ++ b) = toksSz a + toksSz b := by simp [toksSz]
theorem toksSz_cons (a : Token) (b : List Token) : toksSz (a :: b) = tokSz a + toksSz b := by simp [toksSz]
theorem toksSz_one (a : Token) : toksSz [a] = tokSz a := by simp [toksSz]
theorem tokSz_text (l : List UInt8) : tokSz (textTok l) = l.length := by simp [tokSz, textTok, valSz]
theorem tagRest_sz : ∀ {n : Nat} {nm : List UInt8} {at_ : List Pair} {r : List UInt8} {k : Nat} {t : Token} {r' : List UInt8} {k' : Nat}, tagRest n nm at_ r k = .ok t r' k' → valSz t.attrs + k ≤ valSz at_ + k' ∧ t.text = nm
  | 0, _, _, _, _, _, _, _, h => by simp [tagRest] at h
  | n + 1, nm, at_, r, k, t, r', k', h => by
    rw [tagRest] at h
    obtain ⟨gap, r1, k1, h1, h2⟩ := Out.bind_ok h
    obtain ⟨a1, a2⟩ := runF_total h1
    obtain ⟨c, r2, k2, h3, h4⟩ := Out.bind_ok h2
    obtain ⟨rfl, rfl, _, t2, rfl⟩ := peekF_inv h3
    simp only [List.length_cons] at a1
    unfold tagTail at h4
    split at h4
    · injection h4 with b1 b2 b3
      subst b1 b2 b3
      exact ⟨by show valSz at_ + k ≤ _; omega, rfl⟩
    · split at h4
      · obtain ⟨_, r5, k5, h5, h6⟩ := Out.bind_ok h4
        obtain ⟨c1, c2⟩ := needF_total h5
        injection h6 with b1 b2 b3
        subst b1 b2 b3
        exact ⟨by show valSz at_ + k ≤ _; omega, rfl⟩
      · split at h4
        · cases h4
        · obtain ⟨a, r5, k5, h5, h6⟩ := Out.bind_ok h4
          obtain ⟨c1, c2, _⟩ := nameF_total h5
          obtain ⟨_, r6, k6, h7, h8⟩ := Out.bind_ok h6
          obtain ⟨d1, d2⟩ := needF_total h7
          unfold tagEq at h8
          split at h8
          · cases h8
          · unfold tagVal at h8
            obtain ⟨_, r9, k9, h9, h10⟩ := Out.bind_ok h8
            obtain ⟨e1, e2⟩ := needF_total h9
            obtain ⟨v, r11, k11, h11, h12⟩ := Out.bind_ok h10
            obtain ⟨f1, f2⟩ := runF_total h11
            obtain ⟨_, r13, k13, h13, h14⟩ := Out.bind_ok h12
            obtain ⟨g1, g2⟩ := needF_total h13
            obtain ⟨i1, i2⟩ := tagRest_sz h14
            rw [valSz_append] at i1
            have e : valSz [⟨a, v⟩] = v.length := by simp [valSz]
            exact ⟨by omega, i2⟩
theorem tagF_sz {m s : List UInt8} {t : Token} {r : List UInt8} {k : Nat} (h : tagF m s 0 = .ok t r k) : tokSz t ≤ k := by
  rw [tagF] at h
  obtain ⟨_, r1, k1, h1, h2⟩ := Out.bind_ok h
  obtain ⟨a1, a2⟩ := needF_total h1
  obtain ⟨nm, r3, k3, h3, h4⟩ := Out.bind_ok h2
  obtain ⟨b1, b2, b3⟩ := nameF_total h3
  split at h4
  · obtain ⟨_, r5, k5, h5, h6⟩ := Out.bind_ok h4
    obtain ⟨c1, c2⟩ := runF_total h5
    obtain ⟨_, r7, k7, h7, h8⟩ := Out.bind_ok h6
    obtain ⟨d1, d2⟩ := needF_total h7
    injection h8 with e1 e2 e3
    subst e1 e2 e3
    show nm.length + 0 ≤ k7
    omega
  · obtain ⟨c1, c2⟩ := tagRest_sz h4
    have e : valSz [] = 0 := rfl
    unfold tokSz
    rw [c2]
    omega
theorem cutF_sz (s m : List UInt8) : tokSz (cutF s m).1 ≤ (cutF s m).2.1 := by
  unfold cutF
  split
  · rename_i t r k h
    exact tagF_sz h
  · exact Nat.zero_le _
  · exact Nat.zero_le _
theorem feedLoop_sz : ∀ (n : Nat) (b : Bool) (s : List UInt8) (o : List Token), toksSz (feedLoop n b s o).2.1 + (feedLoop n b s o).1.rest.length ≤ toksSz o + s.length
  | 0, b, s, o => by simp [feedLoop, toksSz]
  | n + 1, b, s, o => by
    have key : ∀ (o' : List Token) (s' : List UInt8) (m : List UInt8), toksSz o' + s'.length ≤ toksSz o + s.length →
        (fun z : LexSt × List Token × Int => toksSz z.2.1 + z.1.rest.length ≤ toksSz o + s.length)
          (if s'.length < m.length ∨ m = [] then (⟨s', b⟩, o', 0)
           else if m = remB ∨ m = behB then feedLoop n (decide (m = remB)) (s'.drop m.length) o'
           else if (cutF s' m).2.2 ≠ 0 then (⟨[], false⟩, [], (cutF s' m).2.2)
           else if (cutF s' m).2.1 = 0 then (⟨s', b⟩, o', 0)
           else feedLoop n b (s'.drop (cutF s' m).2.1) (o' ++ [(cutF s' m).1])) := by
      intro o' s' m h1
      split
      · exact h1
      · split
        · have ih := feedLoop_sz n (decide (m = remB)) (s'.drop m.length) o'
          simp only [List.length_drop] at ih
          show _ ≤ _
          omega
        · split
          · simp [toksSz]
          · split
            · exact h1
            · have ih := feedLoop_sz n b (s'.drop (cutF s' m).2.1) (o' ++ [(cutF s' m).1])
              have t1 := (cutF_total (s := s') (m := m)).1
              have t2 := cutF_sz s' m
              rw [toksSz_append, toksSz_one, List.length_drop] at ih
              show _ ≤ _
              omega
    rw [feedLoop]
    refine key _ _ _ ?_
    split
    · rw [toksSz_append, toksSz_one, tokSz_text, List.length_drop, List.length_take]
      have := (markF_len b s).2
      omega
    · rw [List.length_drop]; omega
theorem feedF_sz (x : LexSt) (s : List UInt8) : toksSz (feedF x s).2.1 + (feedF x s).1.rest.length ≤ x.rest.length + s.length := by
  unfold feedF
  split
  · have h := feedLoop_sz ((x.rest ++ s).length + 1) x.inside (x.rest ++ s) []
    have e : toksSz [] = 0 := rfl
    have e2 : (x.rest ++ s).length = x.rest.length + s.length := by simp
    rw [e] at h
    omega
  · simp [toksSz]
theorem endF_sz (x : LexSt) : toksSz (endF x).1 ≤ x.rest.length := by
  unfold endF
  split
  · split
    · exact Nat.zero_le _
    · split
      · exact Nat.zero_le _
      · rw [toksSz_one, tokSz_text]
        exact Nat.le_refl _
  · exact Nat.zero_le _
theorem joinStep_sz (o : List Token) (t : Token) : toksSz (joinStep o t) ≤ toksSz o + tokSz t := by
  unfold joinStep
  split
  · rw [toksSz_append, toksSz_one]; exact Nat.le_refl _
  · split
    · omega
    · split
      · rename_i u hu
        obtain ⟨init, rfl⟩ : ∃ init, o = init ++ [u] := by
          rcases List.eq_nil_or_concat o with rfl | ⟨i, x, rfl⟩
          · simp at hu
          · rw [List.concat_eq_append] at hu ⊢; simp at hu; subst hu; exact ⟨i, rfl⟩
        split
        · rw [List.dropLast_concat, toksSz_append, toksSz_append, toksSz_one, toksSz_one]
          have e : tokSz { u with text := u.text ++ t.text } = u.text.length + t.text.length + valSz u.attrs := by simp [tokSz]
          have e2 : tokSz u = u.text.length + valSz u.attrs := rfl
          have e3 : tokSz t = t.text.length + valSz t.attrs := rfl
          omega
        · rw [toksSz_append, toksSz_one]; exact Nat.le_refl _
      · rw [toksSz_append, toksSz_one]; exact Nat.le_refl _
theorem foldl_joinStep_sz : ∀ (l : List Token) (o : List Token), toksSz (l.foldl joinStep o) ≤ toksSz o + toksSz l
  | [], o => by simp [toksSz]
  | t :: l, o => by
    have h1 := foldl_joinStep_sz l (joinStep o t)
    have h2 := joinStep_sz o t
    rw [toksSz_cons, List.foldl_cons]
    omega
theorem joinF_sz (l : List Token) : toksSz (joinF l) ≤ toksSz l := by
  have := foldl_joinStep_sz l []
  simpa [joinF, toksSz] using this
theorem allF_sz (s : List UInt8) : toksSz (allF s).1 ≤ s.length := by
  unfold allF
  simp only
  split
  · exact Nat.zero_le _
  · split
    · exact Nat.zero_le _
    · refine Nat.le_trans (joinF_sz _) ?_
      rw [toksSz_append]
      have h1 := feedF_sz ⟨[], false⟩ s
      have h2 := endF_sz (feedF ⟨[], false⟩ s).1
      simp only [List.length_nil] at h1
      omega
theorem takeF_sz {kd : Int} {e e' : Elem} {n v : List UInt8} (h : takeF kd e n v = some e') : textE e' ≤ textE e + v.length := by
  obtain ⟨k, t, s, a, b, u, l⟩ := e
  unfold takeF at h
  repeat' split at h
  all_goals first
    | (cases h; done)
    | (injection h with h; subst h; simp only [Elem.setSrc, Elem.setAlt, Elem.setSoft, Elem.setText, Elem.setTest, textE]; omega)
theorem attrsF_sz {kd : Int} : ∀ {l seen : List Pair} {e e' : Elem}, attrsF kd e seen l = some e' → textE e' ≤ textE e + valSz l
  | [], seen, e, e', h => by
    injection h with h
    subst h
    exact Nat.le_add_right _ _
  | p :: l, seen, e, e', h => by
    unfold attrsF at h
    split at h
    · cases h
    · split at h
      · cases h
      · rename_i e2 h2
        have h3 := takeF_sz h2
        have h4 := attrsF_sz h
        have e : valSz (p :: l) = p.value.length + valSz l := by simp [valSz]
        omega
def levSz (st : List Level) : Nat := (st.map fun x => textE x.e).sum
theorem levSz_cons (x : Level) (st : List Level) : levSz (x :: st) = textE x.e + levSz st := by simp [levSz]
theorem textE_kids (e : Elem) (l : List Elem) : textE (e.setKids l) + textF e.kids = textE e + textF l := by
  obtain ⟨k, t, s, a, b, u, m⟩ := e
  simp only [Elem.setKids, Elem.kids, textE]
  omega
theorem textF_add (l : List Elem) (e : Elem) : textF (l ++ [e]) = textF l + textE e := by
  induction l with
  | nil => simp [textF]
  | cons x l ih => simp only [List.cons_append, textF]; rw [ih, Nat.add_assoc]
theorem putK_sz (t e : Elem) : textE (putK t e) ≤ textE t + textE e := by
  unfold putK
  split
  · omega
  · have h := textE_kids t (t.kids ++ [e])
    rw [textF_add] at h
    omega
theorem putF_sz (st : List Level) (e : Elem) : levSz (putF st e) ≤ levSz st + textE e := by
  cases st with
  | nil => simp [putF, levSz]
  | cons t r =>
    rw [putF, levSz_cons, levSz_cons]
    have := putK_sz t.e e
    show textE (putK t.e e) + _ ≤ _
    omega
theorem hardF_sz (kd : Int) (e : Elem) : textE (hardF kd e) = textE e := by
  obtain ⟨k, t, s, a, b, u, l⟩ := e
  simp only [hardF, Elem.setSoft, textE]
theorem takeTok_sz (st : List Level) (t : Token) : levSz (takeTok st t).1 ≤ levSz st + tokSz t := by
  unfold takeTok
  split
  · unfold beginF
    split
    · simp [levSz]
    · exact Nat.le_add_right _ _
    · rename_i u r q _
      split
      · exact Nat.le_add_right _ _
      · split
        · exact Nat.le_add_right _ _
        · rename_i e he
          have h1 := attrsF_sz he
          have h2 : textE (elem0 q.kind) = 0 := by simp [elem0, textE, textF]
          have h3 : tokSz t = t.text.length + valSz t.attrs := rfl
          have h4 := hardF_sz q.kind e
          split
          · exact Nat.le_add_right _ _
          · split
            · exact Nat.le_add_right _ _
            · split
              · have := putF_sz (u :: r) (hardF q.kind e)
                show levSz (putF (u :: r) (hardF q.kind e)) ≤ _
                omega
              · split
                · exact Nat.le_add_right _ _
                · show levSz (⟨hardF q.kind e, t.text⟩ :: u :: r) ≤ _
                  rw [levSz_cons]
                  show textE (hardF q.kind e) + _ ≤ _
                  omega
  · split
    · unfold closeF
      split
      · simp [levSz]
      · exact Nat.le_add_right _ _
      · rename_i u r q _
        split
        · exact Nat.le_add_right _ _
        · split
          · exact Nat.le_add_right _ _
          · have := putF_sz r u.e
            show levSz (putF r u.e) ≤ _
            rw [levSz_cons]
            omega
    · unfold wordF
      split
      · simp [levSz]
      · rename_i u r
        split
        · exact Nat.le_add_right _ _
        · have := putF_sz (u :: r) (textEl t.text)
          have e : textE (textEl t.text) = t.text.length := by simp [textEl, textE, textF]
          have h3 : tokSz t = t.text.length + valSz t.attrs := rfl
          show levSz (putF (u :: r) (textEl t.text)) ≤ _
          omega
theorem buildLoop_sz : ∀ (l : List Token) (i : Nat) (st : List Level), levSz (buildLoop i st l).1 ≤ levSz st + toksSz l
  | [], i, st => by rw [buildLoop]; exact Nat.le_add_right _ _
  | t :: l, i, st => by
    have h1 := takeTok_sz st t
    rw [buildLoop, toksSz_cons]
    split
    · exact Nat.le_add_right _ _
    · split
      · omega
      · have h2 := buildLoop_sz l (i + 1) (takeTok st t).1
        omega
theorem known_sz (l : List Token) : toksSz (l.map knownF) ≤ toksSz l := by
  induction l with
  | nil => simp [toksSz]
  | cons t l ih =>
    rw [List.map_cons, toksSz_cons, toksSz_cons]
    have h : tokSz (knownF t) ≤ tokSz t := by
      unfold knownF
      split
      · exact Nat.le_refl _
      · rw [tokSz_text]; exact Nat.le_add_right _ _
    omega
theorem buildF_sz (l : List Token) : textF (buildF l).1 ≤ toksSz l := by
  unfold buildF
  simp only
  split
  · exact Nat.zero_le _
  · have h1 := buildLoop_sz (joinedF l) 0 [page0]
    have h2 : levSz [page0] = 0 := by simp [levSz, page0, elem0, textE, textF]
    have h3 : toksSz (joinedF l) ≤ toksSz l := Nat.le_trans (joinF_sz _) (known_sz l)
    split
    · rename_i p hp
      rw [hp, levSz_cons] at h1
      have h4 : textF p.e.kids ≤ textE p.e := by rw [textE_eq]; omega
      show textF p.e.kids ≤ _
      omega
    · exact Nat.zero_le _
theorem readF_sz (s : List UInt8) : textF (readF s).1 ≤ s.length := by
  unfold readF
  split
  · exact Nat.zero_le _
  · exact Nat.le_trans (buildF_sz _) (allF_sz s)
end Go.Proofs.YtijpfcjlochahaaDoor
namespace Go.Proofs.YtijpfcjlochahaaDoor
open Go Go.RowKit

set_option maxRecDepth 20000 in
set_option maxHeartbeats 4000000 in
theorem showBack_calls (l : List Elem) (s : ByteArray) (m : Int) (w : World) {v : Value} (hv : GR w (fun _ => True) (.row 7 (l.map Elem.gv)) [v]) (_hm : w.cell? ⟨0, 0, none⟩ = some (.int .i64 m)) (ht : textF l ≤ 1048576) :
    Calls Tryd.prog 10 #[v, .string s] w fun e w' => e = .returned (.bool true) ∧ Below w.heap.size w w' := by
  obtain ⟨A, c, rfl, -, -, -⟩ := elems_open hv
  have HV := Lib.hid hv
  have HT := Lib.hid ht
  obtain ⟨s0, hs0⟩ : ∃ s0, s0 = s.extract 0 (min s.size 3000) := ⟨_, rfl⟩
  have hs1 : s0.size ≤ 3000 := by rw [hs0, ByteArray.size_extract]; omega
  have HS0 := Lib.hid hs0
  clear hs0 hv _hm ht
  obtain ⟨n, hn⟩ : ∃ n, n = min s.size 3000 := ⟨_, rfl⟩
  have hmi : min (s.size : Int) 3000 = (n : Int) := by omega
  have hn0 : (0 : Int) ≤ (n : Int) := by omega
  have hn1 : (n : Int) ≤ (s.size : Int) := by omega
  have hx : s.extract 0 n = s0 := by rw [hn]; exact HS0.out.symm
  clear hn
  go_enter Tryd.func10, Tryd.ntmps10
  go_wp2_with fail
  refine (rcountL_calls 300 (by omega) l _ _ _ HV.out).mono ?_
  rintro e w1 ⟨rfl, hb1⟩
  have HB1 := Lib.hid hb1
  clear hb1
  go_upto_if 24 with (fail)
  go_cut [] from 24 to 44 (fun wx => Hid (Below w.heap.size w wx))
  case first =>
    by_cases h2 : countF 300 l ≤ 300
    · have hd1 : (countF 300 l : Int) ≤ (300 : Int) := by omega
      have hd2 : decide ((countF 300 l : Int) ≤ (300 : Int)) = true := by simpa using hd1
      generalize countF 300 l = R at *
      clear h2
      have HC := Lib.hid (fun (W : World) (h : GR W (fun _ => True) (.row 7 (l.map Elem.gv)) [.slice A l.length c]) => print_calls l _ _ W h (fun hc => shF_ok (Nat.le_trans HT.out (by omega)) hc))
      rcases print_cases l with h0 | ⟨h1, h2, -⟩
      · obtain ⟨p1, p2, p3, p4⟩ := print_ok h0
        have HP : Hid (printF l = (shF l, 0)) := Prod.ext p1 h0
        rw [HP.out] at HC
        have HR := Lib.hid p3
        have HLE : Hid ((bs (shF l)).size ≤ 90000) := by rw [Hid, size_bs]; omega
        clear h0 p1 p2 p3 p4
        go_wp2_with fail
        refine (HC.out _ (HV.out.below HB1.out)).mono ?_
        rintro e w2 ⟨rfl, hb2⟩
        have HB2 := Lib.hid (HB1.out.trans (hb2.mono HB1.out.size))
        clear hb2
        go_wp2_with fail
        refine (read_calls (bs (shF l)) w2 HLE.out).mono ?_
        rw [L_bs, HR.out]
        rintro e w3 ⟨v3, rfl, hg3, hb3⟩
        obtain ⟨A3, c3, rfl, -, -, -⟩ := elems_open hg3
        have HB3 := Lib.hid (HB2.out.trans (hb3.mono HB2.out.size))
        have HG3 := Lib.hid (hg3.weaken (F' := fun _ => True) (fun _ _ => trivial))
        clear hg3 hb3
        go_wp2_with fail
        refine (like_calls (sizeF l) l _ _ (fun _ => True) _ (Nat.le_refl _) (HV.out.below HB3.out) HG3.out).mono ?_
        rintro e w4 ⟨rfl, hb4⟩
        have HB4 := Lib.hid (HB3.out.trans (hb4.mono HB3.out.size))
        clear hb4
        go_wp2_with fail
        go_meet
        case rel => exact HB4.out
      · have HP : Hid (printF l = ([], 1)) := Prod.ext h2 h1
        rw [HP.out] at HC
        clear h1 h2
        go_wp2_with fail
        refine (HC.out _ (HV.out.below HB1.out)).mono ?_
        rintro e w2 ⟨rfl, hb2⟩
        have HB2 := Lib.hid (HB1.out.trans (hb2.mono HB1.out.size))
        clear hb2
        go_wp2_with fail
        go_meet
        case rel => exact HB2.out
    · have hd1 : ¬ (countF 300 l : Int) ≤ (300 : Int) := by omega
      have hd2 : decide ((countF 300 l : Int) ≤ (300 : Int)) = false := by simpa using hd1
      generalize countF 300 l = R at *
      clear h2
      go_wp2_with fail
      go_meet
      case rel => exact HB1.out
  case rest =>
    have HBC : Hid (Below w.heap.size w wc) := hcut
    clear hcut HB1 HV
    have HN := Lib.hid (readF_nests (L s0)).2
    have HSZ : Hid (textF (readF (L s0)).1 ≤ 20000000) := Nat.le_trans (readF_sz (L s0)) (by rw [← size_L]; omega)
    have hs2 : s0.size ≤ 90000 := by omega
    go_wp2_with fail
    refine (read_calls s0 _ hs2).mono ?_
    generalize readF (L s0) = R1 at *
    obtain ⟨x1, er1⟩ := R1
    rintro e w2 ⟨v2, rfl, h2, hb2⟩
    have HB2 := Lib.hid (HBC.out.trans (hb2.mono HBC.out.size))
    obtain ⟨A2, c2, rfl, -, -, -⟩ := elems_open h2
    have H2 := Lib.hid (h2.weaken (F' := fun _ => True) (fun _ _ => trivial))
    clear h2 hb2
    by_cases h0 : er1 = 0
    · have b1 : (er1 != 0) = false := by rw [h0]; rfl
      clear h0 HN
      go_wp2_with fail
      refine (print_calls x1 _ _ _ H2.out (fun hc => shF_ok HSZ.out hc)).mono ?_
      rcases print_cases x1 with h0 | ⟨h1, h2, h3⟩
      · obtain ⟨p1, p2, p3, p4⟩ := print_ok h0
        have HP : Hid (printF x1 = (shF x1, 0)) := Prod.ext p1 h0
        have HR := Lib.hid p3
        have HLE : Hid ((bs (shF x1)).size ≤ 90000) := by rw [Hid, size_bs]; omega
        clear h0 p1 p2 p3 p4
        rw [HP.out]
        rintro e w3 ⟨rfl, hb3⟩
        have HB3 := Lib.hid (HB2.out.trans (hb3.mono HB2.out.size))
        have H3 := Lib.hid (H2.out.below hb3)
        clear hb3 H2
        go_wp2_with fail
        refine (read_calls (bs (shF x1)) w3 HLE.out).mono ?_
        rw [L_bs, HR.out]
        rintro e w4 ⟨v4, rfl, hg4, hb4⟩
        obtain ⟨A4, c4, rfl, -, -, -⟩ := elems_open hg4
        have HB4 := Lib.hid (HB3.out.trans (hb4.mono HB3.out.size))
        have H4 := Lib.hid (H3.out.below hb4)
        have HG4 := Lib.hid (hg4.weaken (F' := fun _ => True) (fun _ _ => trivial))
        clear hg4 hb4 H3
        go_wp2_with fail
        refine (print_calls x1 _ _ _ HG4.out (fun hc => shF_ok HSZ.out hc)).mono ?_
        rw [HP.out]
        rintro e w5 ⟨rfl, hb5⟩
        have HB5 := Lib.hid (HB4.out.trans (hb5.mono HB4.out.size))
        have H5 := Lib.hid (H4.out.below hb5)
        have HG5 := Lib.hid (HG4.out.below hb5)
        clear hb5 H4 HG4
        go_wp2_with fail
        refine (alive16_calls _).mono ?_
        rintro e w6 ⟨rfl, hb6⟩
        have HB6 := Lib.hid (HB5.out.trans (hb6.mono HB5.out.size))
        have H6 := Lib.hid (H5.out.below hb6)
        have HG6 := Lib.hid (HG5.out.below hb6)
        clear hb6 H5 HG5
        go_wp2_with fail
        refine (like_calls (sizeF x1) x1 _ _ (fun _ => True) _ (Nat.le_refl _) H6.out HG6.out).mono ?_
        rintro e w7 ⟨rfl, hb7⟩
        have HB7 := Lib.hid (HB6.out.trans (hb7.mono HB6.out.size))
        clear hb7 H6 HG6
        go_wp2_with fail
        go_ret
        exact ⟨rfl, HB7.out⟩
      · have HP : Hid (printF x1 = ([], 1)) := Prod.ext h2 h1
        have HPF := Lib.hid h3
        clear h1 h2 h3
        rw [HP.out]
        rintro e w3 ⟨rfl, hb3⟩
        have HB3 := Lib.hid (HB2.out.trans (hb3.mono HB2.out.size))
        have H3 := Lib.hid (H2.out.below hb3)
        clear hb3 H2
        go_wp2_with fail
        refine (alive16_calls _).mono ?_
        rintro e w4 ⟨rfl, hb4⟩
        have HB4 := Lib.hid (HB3.out.trans (hb4.mono HB3.out.size))
        have H4 := Lib.hid (H3.out.below hb4)
        clear hb4 H3
        go_wp2_with fail
        refine (shRight_calls x1 _ _ _ H4.out (fun hc => shF_ok HSZ.out hc)).mono ?_
        rw [HPF.out]
        rintro e w5 ⟨rfl, hb5⟩
        have HB5 := Lib.hid (HB4.out.trans (hb5.mono HB4.out.size))
        clear hb5 H4
        go_wp2_with fail
        go_ret
        exact ⟨rfl, HB5.out⟩
    · have b1 : (er1 != 0) = true := by rw [bne_iff_ne]; exact h0
      have hx0 : x1.length = 0 := by have h : x1 = [] := HN.out h0; rw [h]; rfl
      clear h0
      go_wp2_with fail
      refine (alive16_calls _).mono ?_
      rintro e w4 ⟨rfl, hb4⟩
      have HB4 := Lib.hid (HB2.out.trans (hb4.mono HB2.out.size))
      clear hb4
      go_wp2_with fail
      go_ret
      exact ⟨rfl, HB4.out⟩
end Go.Proofs.YtijpfcjlochahaaDoor
