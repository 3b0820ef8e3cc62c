/- Plain: what the reference's Parse needs (the first mark behind a host), and that an address with a host that is parsed has ASCII bytes alone. The walk of the reference's uri.Parse. -/
import Derived.Test.YtijpfcjlochahaaGreatDoorUriF
import Derived.Lib.IndexBytes
import Derived.Test.YtijpfcjlochahaaGreatDoorRefM
import Derived.Test.YtijpfcjlochahaaGreatDoorUriU
import Derived.Deep.CutRange
set_option linter.unusedVariables false
set_option linter.unusedSimpArgs false
namespace Go.Proofs.YtijpfcjlochahaaGreatDoor
open Go Go.RowKit
set_option linter.unusedVariables false
set_option linter.unusedSimpArgs false

def markB (c : UInt8) : Bool := c == 47 || c == 63
theorem mark_contains (c : UInt8) : ([47, 63] : List UInt8).contains c = markB c := by
  simp only [markB, List.contains_cons, List.contains_nil, Bool.or_false]
theorem anyMark : ∀ (k : Nat) (l : List UInt8), (l.take k).any markB = false → k ≤ l.length →
    Lib.indexAny l [47, 63] = if Lib.indexAny (l.drop k) [47, 63] = -1 then -1 else (k : Int) + Lib.indexAny (l.drop k) [47, 63]
  | 0, l, _, _ => by
    rw [List.drop_zero]
    split
    · assumption
    · simp
  | k + 1, [], _, h => by simp at h
  | k + 1, x :: l, h, hk => by
    rw [List.take_succ_cons, List.any_cons, Bool.or_eq_false_iff] at h
    have ih := anyMark k l h.2 (by simpa using hk)
    have ge := Lib.indexAny_ge [47, 63] (l.drop k)
    rw [Lib.indexAny, mark_contains, h.1, List.drop_succ_cons, ih]
    by_cases h1 : Lib.indexAny (l.drop k) [47, 63] = -1
    · simp [h1]
    · have h2 : ¬ ((k : Int) + Lib.indexAny (l.drop k) [47, 63] = -1) := by omega
      simp [h1, h2]
      omega
theorem firstMark {l : List UInt8} {k : Nat} (h : (l.take k).any markB = false) (hk : k ≤ l.length) (h2 : k = l.length ∨ ∃ c, l[k]? = some c ∧ markB c = true) :
    (if Lib.indexAny l [47, 63] < 0 then l.length else (Lib.indexAny l [47, 63]).toNat) = k := by
  rw [anyMark k l h hk]
  rcases h2 with h2 | ⟨c, hc, hm⟩
  · rw [h2, List.drop_length, Lib.indexAny, if_pos rfl, if_pos (by omega)]
  · have hlt : k < l.length := by
      rcases Nat.lt_or_ge k l.length with h3 | h3
      · exact h3
      · rw [List.getElem?_eq_none h3] at hc; cases hc
    have e : l.drop k = c :: l.drop (k + 1) := by
      rw [List.drop_eq_getElem_cons hlt]
      rw [List.getElem?_eq_getElem hlt] at hc
      rw [Option.some.inj hc]
    rw [e, Lib.indexAny, mark_contains, hm, if_pos rfl, if_neg (by omega), if_neg (by omega)]
    omega
/-- Where a query begins, in the reference's words. -/
theorem pathF_find (s : List UInt8) (u : UriD) : pathF s u = if 0 ≤ Lib.indexByte s 63 then { u with path := s.take (Lib.indexByte s 63).toNat, query := s.drop ((Lib.indexByte s 63).toNat + 1), asks := true } else { u with path := s, query := [], asks := false } := by
  unfold pathF Lib.cut
  rw [Lib.index_one]
  split <;> rfl
theorem slash_begins (s : List UInt8) (h : s = [] ∨ ∃ c, s.head? = some c ∧ markB c = true) : slashF s = if Lib.hasPrefix s [47] = true then s else 47 :: s := by
  unfold slashF
  cases s with
  | nil => rfl
  | cons x l =>
    rcases h with h | ⟨c, hc, hm⟩
    · cases h
    · obtain rfl : x = c := by simpa using hc
      simp only [markB, Bool.or_eq_true, beq_iff_eq] at hm
      rcases hm with rfl | rfl
      · simp [Lib.hasPrefix]
      · simp [Lib.hasPrefix]
/-! An address that is parsed, with a host, has ASCII bytes alone. -/
theorem good_lt {c : UInt8} (h : badB c = false) : c.toNat < 128 := by
  unfold badB at h
  simp only [Bool.or_eq_false_iff, decide_eq_false_iff_not] at h
  omega
theorem host_lt {c : UInt8} (h : hostB (lowB c) = false) : c.toNat < 128 := by
  have h1 : (lowB c).toNat < 128 := by
    unfold hostB at h
    simp at h
    omega
  unfold lowB at h1
  split at h1
  · omega
  · exact h1
theorem dig_lt {c : UInt8} (h : digB c = true) : c.toNat < 128 := by
  unfold digB at h
  simp at h
  omega
theorem readLoop_digs : ∀ (l : List UInt8) (n : Nat) (b : Bool), readLoop l n b ≠ none → ∀ c ∈ l, digB c = true
  | [], _, _, _, c, hc => by cases hc
  | x :: l, n, b, h, c, hc => by
    rw [readLoop] at h
    by_cases hx : digB x = true
    · rw [if_pos hx] at h
      rcases List.mem_cons.1 hc with rfl | hc
      · exact hx
      · split at h
        · exact readLoop_digs l _ _ h c hc
        · exact readLoop_digs l _ _ h c hc
    · rw [if_neg hx] at h
      exact absurd rfl h
theorem readDec_digs {s : List UInt8} (h : (readDecF s).2 = 0) : ∀ c ∈ s, digB c = true := by
  unfold readDecF at h
  split at h
  · cases h
  · apply readLoop_digs s 0 false
    intro e
    rw [e] at h
    cases h
theorem place_lt {s : List UInt8} (h : (placeF s uri0).2 = true) (hh : hostF (placeF s uri0).1.host = true) : ∀ c ∈ s, c.toNat < 128 := by
  unfold placeF at h hh
  intro c hc
  split at hh
  · simp only [hostF, Bool.and_eq_true, Bool.not_eq_true'] at hh
    apply host_lt
    cases hb : hostB (lowB c) with
    | false => rfl
    | true => exact absurd (List.any_eq_true.2 ⟨_, List.mem_map_of_mem hc, hb⟩) (by show ¬ (lowF s).any hostB = true; rw [hh.2]; simp)
  · rename_i h0
    rw [if_neg h0] at h
    simp only [hostF, Bool.and_eq_true, Bool.not_eq_true', decide_eq_true_eq] at hh h
    have hd := readDec_digs h.1
    obtain ⟨i, hi⟩ : ∃ i, lastF 58 s = i + 1 := ⟨lastF 58 s - 1, by omega⟩
    rw [hi] at hh hd
    have e : s = s.take i ++ s.drop i := (List.take_append_drop i s).symm
    rw [e] at hc
    rcases List.mem_append.1 hc with hc | hc
    · apply host_lt
      cases hb : hostB (lowB c) with
      | false => rfl
      | true =>
        have hm : lowB c ∈ (lowF s).take (i + 1 - 1) := by
          rw [Nat.add_sub_cancel, lowF, ← List.map_take]; exact List.mem_map_of_mem hc
        exact absurd (List.any_eq_true.2 ⟨_, hm, hb⟩) (by rw [hh.2]; simp)
    · have hlast : ∀ (l : List UInt8) (i : Nat), lastF 58 l = i + 1 → ∀ c ∈ l.drop i, c = 58 ∨ c ∈ l.drop (i + 1) := by
        intro l
        induction l with
        | nil => intro i hi; simp [lastF] at hi
        | cons x l ih =>
          intro i hi c hc
          rw [lastF] at hi
          split at hi
          · split at hi
            · rename_i h1 h2
              obtain rfl : i = 0 := by omega
              rw [List.drop_zero] at hc
              rcases List.mem_cons.1 hc with rfl | hc
              · exact .inl h2
              · exact .inr (by simpa using hc)
            · omega
          · cases i with
            | zero => omega
            | succ j =>
              rw [List.drop_succ_cons] at hc ⊢
              exact ih j (by omega) c hc
      rcases hlast s i hi c hc with rfl | hc
      · decide
      · exact dig_lt (hd c hc)
theorem cut_mem {s : List UInt8} : ∀ c ∈ s, c = 63 ∨ c ∈ (Lib.cut s [63]).1 ∨ c ∈ (Lib.cut s [63]).2.1 := by
  intro c hc
  unfold Lib.cut
  split
  · rename_i h
    rw [Lib.index_one] at *
    obtain ⟨k, hk⟩ : ∃ k : Nat, Lib.indexByte s 63 = k := ⟨(Lib.indexByte s 63).toNat, by omega⟩
    have hs := (Lib.indexByte_some hk).1
    rw [hk]
    have hlt : k < s.length := by
      rcases Nat.lt_or_ge k s.length with h3 | h3
      · exact h3
      · rw [List.getElem?_eq_none h3] at hs; cases hs
    have e : s = s.take k ++ (63 :: s.drop (k + 1)) := by
      rw [List.getElem?_eq_getElem hlt] at hs
      rw [← Option.some.inj hs, ← List.drop_eq_getElem_cons hlt, List.take_append_drop]
    rw [e] at hc
    rcases List.mem_append.1 hc with hc | hc
    · exact .inr (.inl (by simpa using hc))
    · rcases List.mem_cons.1 hc with rfl | hc
      · exact .inl rfl
      · exact .inr (.inr (by simpa using hc))
  · exact .inr (.inl hc)
theorem ok_lt {u : UriD} (h : uriOk u = true) : (∀ c ∈ u.path, c.toNat < 128) ∧ (∀ c ∈ u.query, c.toNat < 128) := by
  unfold uriOk okF at h
  simp only [Bool.and_eq_true, Bool.not_eq_true'] at h
  exact ⟨fun c hc => good_lt (by cases hb : badB c with | false => rfl | true => exact absurd (List.any_eq_true.2 ⟨c, hc, hb⟩) (by rw [h.1.1]; simp)),
    fun c hc => good_lt (by cases hb : badB c with | false => rfl | true => exact absurd (List.any_eq_true.2 ⟨c, hc, hb⟩) (by rw [h.1.2.1]; simp))⟩
theorem fin_ascii {h r : List UInt8} (h0 : (finF5 (slashF r) (placeF h uri0)).2 = 0) : ∀ c ∈ h ++ r, c.toNat < 128 := by
  unfold finF5 at h0
  split at h0
  · rename_i hk
    obtain ⟨k1, k2⟩ := hk
    have ha : (pathF (slashF r) (placeF h uri0).1).abs = true := by
      show (placeF h uri0).1.abs = true
      unfold placeF; split <;> rfl
    have hho : hostF (placeF h uri0).1.host = true := by
      unfold uriOk at k2
      rw [ha] at k2
      simp only [Bool.and_eq_true, if_true] at k2
      exact k2.2.1
    intro c hc
    rcases List.mem_append.1 hc with hc | hc
    · exact place_lt k1 hho c hc
    · have hm : c ∈ slashF r := by unfold slashF; split; exact List.mem_cons_of_mem _ hc; exact hc
      rcases cut_mem c hm with rfl | hc | hc
      · decide
      · exact (ok_lt k2).1 c hc
      · exact (ok_lt k2).2 c hc
  · cases h0
theorem parse_ascii {s : List UInt8} (h0 : (parseF s).2 = 0) (ha : (parseF s).1.abs = true) : ∀ c ∈ s.drop 7, c.toNat < 128 := by
  unfold parseF parseZ at h0 ha
  split at h0
  · cases h0
  · rename_i h1
    rw [if_neg h1] at ha
    split at h0
    · have := fin_ascii h0
      rwa [List.take_append_drop] at this
    · rename_i h2
      rw [if_neg h2] at ha
      unfold finF5 at ha
      split at ha
      · cases ha
      · cases ha
end Go.Proofs.YtijpfcjlochahaaGreatDoor
namespace Go.Proofs.YtijpfcjlochahaaGreatDoor
open Go Go.RowKit
set_option linter.unusedVariables false
set_option linter.unusedSimpArgs false

theorem rparse_results {w : World} {X : Nat} {tmps : Array Value} {u : UriD} {b : Value} (h4 : tmps[2]?.getD undef = .pointer (some ⟨X, 0, none⟩)) (h5 : tmps[3]?.getD undef = b) (B0 : Blk w X 94 (uCells u)) :
    (results Tryz.f47 tmps).run Tryz.prog w = .ok (.tuple #[u.val, b]) w := by
  have a0 := B0.cell 0
  have a1 := B0.cell 1
  have a2 := B0.cell 2
  have a3 := B0.cell 3
  have a4 := B0.cell 4
  have a5 := B0.cell 5
  simp [uCells] at a0 a1 a2 a3 a4 a5
  simp [results, Tryz.results47, go_sem, h4, h5, a0, a1, a2, a3, a4, a5, UriD.val]
/-- What the reference's Parse answers: where it accepts an address with a host, the program does. -/
def RParse (s : List UInt8) (w : World) (e : Ending) (w' : World) : Prop :=
  ∃ (u : UriD) (b : Int), e = .returned (.tuple #[u.val, .int .i64 b]) ∧ (b = 0 → u.abs = true → (parseF s).2 = 0 ∧ (parseF s).1.abs = true) ∧ Below w.heap.size w w'
theorem rparse_mk {s : List UInt8} {w w' : World} {e : Ending} (u : UriD) (b : Int) (h1 : e = .returned (.tuple #[u.val, .int .i64 b])) (h2 : b = 0 → u.abs = true → (parseF s).2 = 0 ∧ (parseF s).1.abs = true) (h3 : Below w.heap.size w w') : RParse s w e w' := ⟨u, b, h1, h2, h3⟩
/-- What is known behind the host. -/
def RRel (PF : UriD × Int) (r : List UInt8) (u : UriD) : Prop :=
  u.small ∧ u.asks = false ∧ u.query = [] ∧ (u.abs = true → PF = if uriOk (pathF r u) = true then (pathF r u, 0) else (uri0, 20))
theorem rrel_0 (PF : UriD × Int) (r : List UInt8) : RRel PF r uri0 := ⟨uri0_small, rfl, rfl, fun h => by cases h⟩
theorem rrel_place {PF : UriD × Int} {r h : List UInt8} (hl : h.length ≤ 100000) (hp : PF = finF5 r (placeF h uri0)) : RRel PF r (rplaceF h) := by
  have hs := placeF_small h hl
  have h1 : (placeF h uri0).1.asks = false := by unfold placeF; split <;> rfl
  have h2 : (placeF h uri0).1.query = [] := by unfold placeF; split <;> rfl
  unfold rplaceF
  by_cases hf : (placeF h uri0).2 = true
  · rw [if_pos hf]
    refine ⟨hs, h1, h2, fun _ => ?_⟩
    rw [hp, finF5]
    simp [hf]
  · rw [if_neg hf]
    refine ⟨?_, h1, h2, fun _ => ?_⟩
    · obtain ⟨a1, a2, a3, a4, a5⟩ := hs
      exact ⟨a1, a2, a3, by show (-1 : Int) ≤ -1; omega, by show (-1 : Int) ≤ 1099511627776; omega⟩
    · have hn : uriOk (pathF r { (placeF h uri0).1 with port := -1 }) = false := okF_neg (by show ¬ (0 : Int) ≤ -1; omega)
      rw [hp, finF5, hn, if_neg (by simp [hf]), if_neg (by simp)]
set_option maxRecDepth 20000 in
set_option maxHeartbeats 8000000 in
theorem rparse_calls (s : ByteArray) (hs : s.size ≤ 100000) (w : World) :
    Calls Tryz.prog 47 #[.string s] w (RParse (L s) w) := by
  have HSL := Lib.hid (size_L s)
  have HP : Hid (parseF (L s) = if 500 < (L s).length then (uri0, 2)
    else if 7 ≤ (L s).length ∧ lowF ((L s).take 7) = schemeB then
      finF5 (slashF (((L s).drop 7).drop (if Lib.indexAny ((L s).drop 7) [47, 63] < 0 then ((L s).drop 7).length else (Lib.indexAny ((L s).drop 7) [47, 63]).toNat))) (placeF (((L s).drop 7).take (if Lib.indexAny ((L s).drop 7) [47, 63] < 0 then ((L s).drop 7).length else (Lib.indexAny ((L s).drop 7) [47, 63]).toNat)) uri0)
    else finF5 (L s) (uri0, true)) := rfl
  have HMK : Hid (∀ {w w' : World} {e : Ending} (u : UriD) (b : Int), e = .returned (.tuple #[u.val, .int .i64 b]) → (b = 0 → u.abs = true → (parseF (L s)).2 = 0 ∧ (parseF (L s)).1.abs = true) → Below w.heap.size w w' → RParse (L s) w e w') := fun u b h1 h2 h3 => rparse_mk u b h1 h2 h3
  generalize hpf : parseF (L s) = PF at *
  clear hpf
  by_cases hlen : 500 < s.size
  · have hl1 : (500 : Int) < (s.size : Int) := by omega
    clear HP hlen
    have hR := Blk.new w 94 (uCells uri0)
    have hB : Below w.heap.size w (w.alloc (.cells (uCells uri0) 94)) := (Below.refl _ _).alloc (Nat.le_refl _) _
    have HR := Lib.hid hR
    have HB := Lib.hid hB
    clear hR hB
    go_enter Tryz.func47, Tryz.ntmps47
    go_wp2_with fail
    refine bodyPost_ret (rparse_results rfl rfl HR.out) rfl (HMK.out uri0 2 rfl (fun h => by cases h) HB.out)
  · have hl1 : ¬ (500 : Int) < (s.size : Int) := by omega
    have HLE : Hid (s.size ≤ 500) := by rw [Hid]; omega
    have HP2 : Hid (PF = if 7 ≤ (L s).length ∧ lowF ((L s).take 7) = schemeB then
      finF5 (slashF (((L s).drop 7).drop (if Lib.indexAny ((L s).drop 7) [47, 63] < 0 then ((L s).drop 7).length else (Lib.indexAny ((L s).drop 7) [47, 63]).toNat))) (placeF (((L s).drop 7).take (if Lib.indexAny ((L s).drop 7) [47, 63] < 0 then ((L s).drop 7).length else (Lib.indexAny ((L s).drop 7) [47, 63]).toNat)) uri0)
    else finF5 (L s) (uri0, true)) := by rw [Hid, HP.out, if_neg (by rw [← HSL.out]; exact hlen)]
    clear HP hlen
    go_enter Tryz.func47, Tryz.ntmps47
    go_upto_region 4 with (fail)
    have hR := Blk.new w 94 (uCells uri0)
    have hR1 := hR.alloc (.cells (uCells uri0) 94)
    have hU := Blk.new (w.alloc (.cells (uCells uri0) 94)) 94 (uCells uri0)
    have hB0 : Below w.heap.size w (w.alloc (.cells (uCells uri0) 94)) := (Below.refl _ _).alloc (Nat.le_refl _) _
    have hB := hB0.alloc hB0.size (.cells (uCells uri0) 94)
    rw [size_alloc] at hU
    obtain ⟨w1, hw1⟩ : ∃ w1, w1 = (w.alloc (.cells (uCells uri0) 94)).alloc (.cells (uCells uri0) 94) := ⟨_, rfl⟩
    rw [← hw1] at hR1 hU hB
    change Code.wp _ _ _ _ ((w.alloc (.cells (uCells uri0) 94)).alloc (.cells (uCells uri0) 94))
    rw [← hw1]
    clear hw1 hB0 hR
    generalize hXX : w.heap.size = X at *
    have HXX := Lib.hid hXX
    clear hXX
    have HR := Lib.hid hR1
    have HU : Hid (Blk w1 (X + 1) 94 (uCells uri0)) := hU
    have HB := Lib.hid hB
    clear hR1 hU hB
    go_wp2_with fail
    refine (rlower_calls s w1 (by omega)).mono ?_
    rintro e w2 ⟨rfl, hb2⟩
    have HU2 := Lib.hid (HU.out.below hb2 HU.out.lt)
    have HR2 := Lib.hid (HR.out.below hb2 HR.out.lt)
    have HB2 := Lib.hid (HB.out.trans (hb2.mono (by have := HB.out.size; rw [HXX.out] at this; exact this)))
    clear hb2 HU HR HB
    go_wp2_with fail
    refine (rbegins_calls (bs (lowF (L s))) ⟨#[104, 116, 116, 112, 58, 47, 47]⟩ w2).mono ?_
    rintro e w3 ⟨rfl, rfl⟩
    have hc : Lib.hasPrefix (L (bs (lowF (L s)))) (L (⟨#[104, 116, 116, 112, 58, 47, 47]⟩ : ByteArray)) = decide (7 ≤ (L s).length ∧ lowF ((L s).take 7) = schemeB) := by
      rw [hasP_bytes, size_bs, lowF_len, Bool.eq_iff_iff, Bool.and_eq_true, decide_eq_true_eq, decide_eq_true_eq, beq_iff_eq, toList_L, toList_L, L_extract, L_bs, List.drop_zero, lowF, lowF, List.map_take]
      exact Iff.rfl
    rw [hc]
    clear hc
    generalize hc : decide (7 ≤ (L s).length ∧ lowF ((L s).take 7) = schemeB) = c
    have HC := Lib.hid hc
    clear hc
    go_upto_if 14 with (fail)
    go_cut [0, 5] from 15 to 46 (fun sv _ wx => ∃ (r : ByteArray) (u : UriD), sv = .string r ∧ Hid (RRel PF (L r) u) ∧ r.size ≤ 1000 ∧
      Hid (Blk wx (X + 1) 94 (uCells u)) ∧ Hid (Blk wx X 94 (uCells uri0)) ∧ Hid (Below X w wx))
    case first =>
      cases c with
      | false =>
        go_wp2_with fail
        go_meet
        case rel => exact ⟨s, uri0, rfl, rrel_0 _ _, by have := HLE.out; omega, HU2.out, HR2.out, HB2.out⟩
      | true =>
        have h7 := (of_decide_eq_true HC.out).1
        have h7i : (7 : Int) ≤ (s.size : Int) := by have := HSL.out; omega
        have HP3 := Lib.hid (HP2.out.trans (if_pos (of_decide_eq_true HC.out)))
        have hr0 : L (s.extract 7 s.size) = (L s).drop 7 := by rw [L_extract, size_L s, List.take_length]
        have hrs : (s.extract 7 s.size).size = s.size - 7 := by rw [ByteArray.size_extract]; omega
        rw [← hr0] at HP3
        have HRS : Hid ((s.extract 7 s.size).size ≤ 500) := by have := HLE.out; rw [Hid, hrs]; omega
        have hs5 : (s.size : Int) ≤ 500 := by have := HLE.out; omega
        clear hrs hr0 HP2 HC h7
        go_wp2_with fail
        generalize s.extract 7 s.size = r0 at *
        have HRL := Lib.hid (size_L r0)
        have hrs5 : (r0.size : Int) ≤ 500 := by have := HRS.out; omega
        go_loopw [5] (fun i wr => ∃ k : Nat, k ≤ r0.size ∧ i = .int .i64 k ∧ Hid (((L r0).take k).any markB = false) ∧ Hid (wr = w2))
           (fun i wr => r0.size - (intOf i).toNat)
        case atStart => exact ⟨0, Nat.zero_le _, rfl, rfl, rfl⟩
        case round =>
          obtain ⟨k, hk, rfl, HO, HW⟩ := hrel
          have hww := HW.out.symm
          subst hww
          clear HW
          have HPL := Lib.hid (fun W => rplace_calls (r0.extract 0 k) (by have := HRS.out; rw [ByteArray.size_extract]; omega) W)
          have hle : L (r0.extract 0 k) = (L r0).take k := by rw [L_extract, List.drop_zero]
          rw [hle] at HPL
          have hki : (k : Int) ≤ (r0.size : Int) := by omega
          have hk0 : (0 : Int) ≤ (k : Int) := by omega
          have HKK : Hid (k ≤ (L r0).length) := by have := HRL.out; rw [Hid]; omega
          have HTL : Hid (((L r0).take k).length ≤ 100000) := by have := HRS.out; have := HRL.out; rw [Hid, List.length_take]; omega
          have hex : L (r0.extract k r0.size) = (L r0).drop k := by rw [L_extract, size_L r0, List.take_length]
          have HEX := Lib.hid hex
          have hes : (r0.extract k r0.size).size ≤ 500 := by have := HRS.out; rw [ByteArray.size_extract]; omega
          have HES := Lib.hid hes
          have hq : (⟨#[47]⟩ : ByteArray).size + (r0.extract k r0.size).size ≤ 1000 := by show 1 + _ ≤ _; omega
          clear hle hex
          have HBG := Lib.hid (fun W => rbegins_calls (r0.extract k r0.size) ⟨#[47]⟩ W)
          -- what the code behind the loop leaves
          have HZ : Hid ((k = (L r0).length ∨ ∃ c, (L r0)[k]? = some c ∧ markB c = true) →
              (Lib.hasPrefix (L (r0.extract k r0.size)) [47] = true → RRel PF (L (r0.extract k r0.size)) (rplaceF ((L r0).take k))) ∧
              (Lib.hasPrefix (L (r0.extract k r0.size)) [47] = false → RRel PF (L (⟨#[47]⟩ ++ r0.extract k r0.size)) (rplaceF ((L r0).take k)))) := fun hm => by
            have h1 := firstMark HO.out HKK.out hm
            have h2 : PF = finF5 (slashF ((L r0).drop k)) (placeF ((L r0).take k) uri0) := by rw [HP3.out, h1]
            have h3 : (L r0).drop k = [] ∨ ∃ c, ((L r0).drop k).head? = some c ∧ markB c = true := by
              rcases hm with hm | ⟨c, hc, hm⟩
              · exact .inl (by rw [hm, List.drop_length])
              · exact .inr ⟨c, by rw [List.head?_drop]; exact hc, hm⟩
            rw [slash_begins _ h3] at h2
            constructor
            · intro hp
              refine rrel_place HTL.out ?_
              rw [HEX.out] at hp ⊢
              rw [if_pos hp] at h2
              exact h2
            · intro hp
              refine rrel_place HTL.out ?_
              rw [HEX.out] at hp
              rw [if_neg (by rw [hp]; simp)] at h2
              rw [L_append, HEX.out]
              exact h2
          generalize rplaceF ((L r0).take k) = u at *
          clear hes
          by_cases hlt : k < r0.size
          · have h1 : (k : Int) < (r0.size : Int) := by omega
            have hjl : k < (L r0).length := by have := HRL.out; omega
            have HE : Hid ((L r0)[k]? = some (r0[k]'hlt)) := by rw [Hid, List.getElem?_eq_getElem hjl]; rfl
            have HST : Hid (markB (r0[k]'hlt) = false → ((L r0).take (k + 1)).any markB = false) := fun h => by
              rw [List.take_succ_eq_append_getElem hjl, List.any_append, HO.out]
              show (false || (markB ((L r0)[k]'hjl) || false)) = false
              rw [show ((L r0)[k]'hjl) = r0[k]'hlt from rfl, h]; rfl
            clear hjl
            by_cases q1 : (r0[k]'hlt) = 47
            · have e1 : ((r0[k]'hlt).toNat : Int) = 47 := by rw [q1]; rfl
              have e2 : (((r0[k]'hlt).toNat : Int) != 47) = false := by rw [e1]; rfl
              have HM : Hid (k = (L r0).length ∨ ∃ c, (L r0)[k]? = some c ∧ markB c = true) := .inr ⟨_, HE.out, by rw [q1]; rfl⟩
              clear q1 HST HE
              go_wp2_with fail
              refine (HPL.out _).mono ?_
              rintro e w5 ⟨rfl, hb5⟩
              have HU5 := Lib.hid (HU2.out.below hb5 HU2.out.lt)
              have HR5 := Lib.hid (HR2.out.below hb5 HR2.out.lt)
              have HB5 := Lib.hid (HB2.out.trans (hb5.mono (by have := HB2.out.size; rw [HXX.out] at this; exact this)))
              clear hb5 HU2 HR2 HB2 HPL
              simp only [UriD.val]
              have u0 : w5.cell? ⟨X + 1, 0, none⟩ = some (.bool false) := HU5.out.cell 0
              have u1 : w5.cell? ⟨X + 1, 1, none⟩ = some (.string ⟨#[]⟩) := HU5.out.cell 1
              have u2 : w5.cell? ⟨X + 1, 2, none⟩ = some (.int .i64 0) := HU5.out.cell 2
              have u3 : w5.cell? ⟨X + 1, 3, none⟩ = some (.string ⟨#[]⟩) := HU5.out.cell 3
              have u4 : w5.cell? ⟨X + 1, 4, none⟩ = some (.bool false) := HU5.out.cell 4
              have u5 : w5.cell? ⟨X + 1, 5, none⟩ = some (.string ⟨#[]⟩) := HU5.out.cell 5
              have f0 := HU5.out.frozen 0
              have f1 := HU5.out.frozen 1
              have f2 := HU5.out.frozen 2
              have f3 := HU5.out.frozen 3
              have f4 := HU5.out.frozen 4
              have f5 := HU5.out.frozen 5
              go_upto_region 10 with (fail)
              clear u0 u1 u2 u3 u4 u5 f0 f1 f2 f3 f4 f5
              have hU6 := fill6_blk (show Blk w5 (X + 1) 94 #[.bool false, .string ⟨#[]⟩, .int .i64 0, .string ⟨#[]⟩, .bool false, .string ⟨#[]⟩] from HU5.out) u
              have hR6 := fill6_far HR5.out (R := X + 1) (by omega) u
              have hB6 := fill6_below HB5.out (show X ≤ X + 1 by omega) u
              change Code.wp _ _ _ _ (fill6 w5 (X + 1) u)
              generalize fill6 w5 (X + 1) u = w6 at *
              have HU6 := Lib.hid hU6
              have HR6 := Lib.hid hR6
              have HB6 := Lib.hid hB6
              clear hU6 hR6 hB6 HU5 HR5 HB5
              obtain ⟨HZ1, HZ2⟩ := HZ.out HM.out
              have HZ1 := Lib.hid HZ1
              have HZ2 := Lib.hid HZ2
              go_wp2_with fail
              refine (HBG.out _).mono ?_
              rintro e w7 ⟨rfl, rfl⟩
              generalize hp : Lib.hasPrefix (L (r0.extract k r0.size)) (L (⟨#[47]⟩ : ByteArray)) = P
              have HP7 := Lib.hid hp
              clear hp
              cases P with
              | true =>
                go_wp2_with fail
                go_meet
                case rel => exact ⟨_, u, rfl, HZ1.out HP7.out, by have := HES.out; omega, HU6.out, HR6.out, HB6.out⟩
              | false =>
                go_wp2_with fail
                go_meet
                case rel => exact ⟨_, u, rfl, HZ2.out HP7.out, by have := HES.out; rw [ByteArray.size_append]; show 1 + _ ≤ _; omega, HU6.out, HR6.out, HB6.out⟩
            · have e1 : ((r0[k]'hlt).toNat : Int) ≠ 47 := fun e => q1 ((u8_eq _ 47).2 e)
              have e2 : (((r0[k]'hlt).toNat : Int) != 47) = true := by rw [bne_iff_ne]; exact e1
              by_cases q2 : (r0[k]'hlt) = 63
              · have e3 : ((r0[k]'hlt).toNat : Int) = 63 := by rw [q2]; rfl
                have e4 : (((r0[k]'hlt).toNat : Int) != 63) = false := by rw [e3]; rfl
                have HM : Hid (k = (L r0).length ∨ ∃ c, (L r0)[k]? = some c ∧ markB c = true) := .inr ⟨_, HE.out, by rw [q2]; rfl⟩
                clear q1 q2 HST HE
                go_wp2_with fail
                refine (HPL.out _).mono ?_
                rintro e w5 ⟨rfl, hb5⟩
                have HU5 := Lib.hid (HU2.out.below hb5 HU2.out.lt)
                have HR5 := Lib.hid (HR2.out.below hb5 HR2.out.lt)
                have HB5 := Lib.hid (HB2.out.trans (hb5.mono (by have := HB2.out.size; rw [HXX.out] at this; exact this)))
                clear hb5 HU2 HR2 HB2 HPL
                simp only [UriD.val]
                have u0 : w5.cell? ⟨X + 1, 0, none⟩ = some (.bool false) := HU5.out.cell 0
                have u1 : w5.cell? ⟨X + 1, 1, none⟩ = some (.string ⟨#[]⟩) := HU5.out.cell 1
                have u2 : w5.cell? ⟨X + 1, 2, none⟩ = some (.int .i64 0) := HU5.out.cell 2
                have u3 : w5.cell? ⟨X + 1, 3, none⟩ = some (.string ⟨#[]⟩) := HU5.out.cell 3
                have u4 : w5.cell? ⟨X + 1, 4, none⟩ = some (.bool false) := HU5.out.cell 4
                have u5 : w5.cell? ⟨X + 1, 5, none⟩ = some (.string ⟨#[]⟩) := HU5.out.cell 5
                have f0 := HU5.out.frozen 0
                have f1 := HU5.out.frozen 1
                have f2 := HU5.out.frozen 2
                have f3 := HU5.out.frozen 3
                have f4 := HU5.out.frozen 4
                have f5 := HU5.out.frozen 5
                go_upto_region 10 with (fail)
                clear u0 u1 u2 u3 u4 u5 f0 f1 f2 f3 f4 f5
                have hU6 := fill6_blk (show Blk w5 (X + 1) 94 #[.bool false, .string ⟨#[]⟩, .int .i64 0, .string ⟨#[]⟩, .bool false, .string ⟨#[]⟩] from HU5.out) u
                have hR6 := fill6_far HR5.out (R := X + 1) (by omega) u
                have hB6 := fill6_below HB5.out (show X ≤ X + 1 by omega) u
                change Code.wp _ _ _ _ (fill6 w5 (X + 1) u)
                generalize fill6 w5 (X + 1) u = w6 at *
                have HU6 := Lib.hid hU6
                have HR6 := Lib.hid hR6
                have HB6 := Lib.hid hB6
                clear hU6 hR6 hB6 HU5 HR5 HB5
                obtain ⟨HZ1, HZ2⟩ := HZ.out HM.out
                have HZ1 := Lib.hid HZ1
                have HZ2 := Lib.hid HZ2
                go_wp2_with fail
                refine (HBG.out _).mono ?_
                rintro e w7 ⟨rfl, rfl⟩
                generalize hp : Lib.hasPrefix (L (r0.extract k r0.size)) (L (⟨#[47]⟩ : ByteArray)) = P
                have HP7 := Lib.hid hp
                clear hp
                cases P with
                | true =>
                  go_wp2_with fail
                  go_meet
                  case rel => exact ⟨_, u, rfl, HZ1.out HP7.out, by have := HES.out; omega, HU6.out, HR6.out, HB6.out⟩
                | false =>
                  go_wp2_with fail
                  go_meet
                  case rel => exact ⟨_, u, rfl, HZ2.out HP7.out, by have := HES.out; rw [ByteArray.size_append]; show 1 + _ ≤ _; omega, HU6.out, HR6.out, HB6.out⟩
              · have e3 : ((r0[k]'hlt).toNat : Int) ≠ 63 := fun e => q2 ((u8_eq _ 63).2 e)
                have e4 : (((r0[k]'hlt).toNat : Int) != 63) = true := by rw [bne_iff_ne]; exact e3
                have HX := Lib.hid (HST.out (by unfold markB; rw [beq_eq_false_iff_ne.2 q1, beq_eq_false_iff_ne.2 q2]; rfl))
                clear q1 q2 HST HE
                go_wp2_with fail
                go_roundw
                case rel => exact ⟨k + 1, by omega, by go_num, HX.out, (by first | exact trivial | exact rfl)⟩
                case measure => simp [intOf] <;> omega
          · have h1 : ¬ (k : Int) < (r0.size : Int) := by omega
            have HM : Hid (k = (L r0).length ∨ ∃ c, (L r0)[k]? = some c ∧ markB c = true) := .inl (by have := HRL.out; omega)
            go_wp2_with fail
            refine (HPL.out _).mono ?_
            rintro e w5 ⟨rfl, hb5⟩
            have HU5 := Lib.hid (HU2.out.below hb5 HU2.out.lt)
            have HR5 := Lib.hid (HR2.out.below hb5 HR2.out.lt)
            have HB5 := Lib.hid (HB2.out.trans (hb5.mono (by have := HB2.out.size; rw [HXX.out] at this; exact this)))
            clear hb5 HU2 HR2 HB2 HPL
            simp only [UriD.val]
            have u0 : w5.cell? ⟨X + 1, 0, none⟩ = some (.bool false) := HU5.out.cell 0
            have u1 : w5.cell? ⟨X + 1, 1, none⟩ = some (.string ⟨#[]⟩) := HU5.out.cell 1
            have u2 : w5.cell? ⟨X + 1, 2, none⟩ = some (.int .i64 0) := HU5.out.cell 2
            have u3 : w5.cell? ⟨X + 1, 3, none⟩ = some (.string ⟨#[]⟩) := HU5.out.cell 3
            have u4 : w5.cell? ⟨X + 1, 4, none⟩ = some (.bool false) := HU5.out.cell 4
            have u5 : w5.cell? ⟨X + 1, 5, none⟩ = some (.string ⟨#[]⟩) := HU5.out.cell 5
            have f0 := HU5.out.frozen 0
            have f1 := HU5.out.frozen 1
            have f2 := HU5.out.frozen 2
            have f3 := HU5.out.frozen 3
            have f4 := HU5.out.frozen 4
            have f5 := HU5.out.frozen 5
            go_upto_region 10 with (fail)
            clear u0 u1 u2 u3 u4 u5 f0 f1 f2 f3 f4 f5
            have hU6 := fill6_blk (show Blk w5 (X + 1) 94 #[.bool false, .string ⟨#[]⟩, .int .i64 0, .string ⟨#[]⟩, .bool false, .string ⟨#[]⟩] from HU5.out) u
            have hR6 := fill6_far HR5.out (R := X + 1) (by omega) u
            have hB6 := fill6_below HB5.out (show X ≤ X + 1 by omega) u
            change Code.wp _ _ _ _ (fill6 w5 (X + 1) u)
            generalize fill6 w5 (X + 1) u = w6 at *
            have HU6 := Lib.hid hU6
            have HR6 := Lib.hid hR6
            have HB6 := Lib.hid hB6
            clear hU6 hR6 hB6 HU5 HR5 HB5
            obtain ⟨HZ1, HZ2⟩ := HZ.out HM.out
            have HZ1 := Lib.hid HZ1
            have HZ2 := Lib.hid HZ2
            go_wp2_with fail
            refine (HBG.out _).mono ?_
            rintro e w7 ⟨rfl, rfl⟩
            generalize hp : Lib.hasPrefix (L (r0.extract k r0.size)) (L (⟨#[47]⟩ : ByteArray)) = P
            have HP7 := Lib.hid hp
            clear hp
            cases P with
            | true =>
              go_wp2_with fail
              go_meet
              case rel => exact ⟨_, u, rfl, HZ1.out HP7.out, by have := HES.out; omega, HU6.out, HR6.out, HB6.out⟩
            | false =>
              go_wp2_with fail
              go_meet
              case rel => exact ⟨_, u, rfl, HZ2.out HP7.out, by have := HES.out; rw [ByteArray.size_append]; show 1 + _ ≤ _; omega, HU6.out, HR6.out, HB6.out⟩
    case rest =>
      clear HU2 HR2 HB2 HP2 HC
      obtain ⟨r, u, rfl, HRR, hr, HU, HR, HB⟩ := hcut
      obtain ⟨w4, rfl⟩ : ∃ w4 : World, w4 = wc := ⟨_, rfl⟩
      have HF1 : Hid (∀ W, Calls Tryz.prog 76 #[.string r, .int .u8 63] W fun e w' => e = .returned (.int .i64 (Lib.indexByte (L r) 63)) ∧ W = w') := fun W => rfind_calls r 63 W (by omega)
      have HPT := Lib.hid (pathF_find (L r) u)
      obtain ⟨hsm, ha, hq, hpf⟩ := HRR.out
      have HIX : Hid (Lib.indexByte (L r) 63 < (r.size : Int)) := by
        rw [Hid, ← Lib.indexAny_one, size_L]
        have := indexAny_lt [63] (L r)
        exact this
      have hsv : (pathF (L r) u).small := pathF_small (by rw [← size_L]; omega) hsm
      obtain ⟨abs, host, port, path, asks, query⟩ := u
      simp only at ha hq hpf
      subst ha hq
      have HPFE := Lib.hid hpf
      have HSV := Lib.hid hsv
      clear HRR hsm hpf hsv
      generalize pathF (L r) ⟨abs, host, port, path, false, []⟩ = v at *
      have u3 : w4.cell? ⟨X + 1, 3, none⟩ = some (.string (bs path)) := HU.out.cell 3
      have f3 := HU.out.frozen 3
      go_upto_region 14 with (fail)
      clear u3 f3
      have hU := HU.out.set_ 3 (.string r)
      have hR := HR.out.far (p := ⟨X + 1, 3, none⟩) (by show X ≠ X + 1; omega) (.string r)
      have hB := HB.out.setCell (p := ⟨X + 1, 3, none⟩) (by show X ≤ X + 1; omega) (.string r)
      generalize w4.setCell ⟨X + 1, 3, none⟩ (.string r) = w5 at *
      have HU5 : Hid (Blk w5 (X + 1) 94 #[.bool abs, .string (bs host), .int .i64 port, .string r, .bool false, .string (bs [])]) := hU
      have HR5 := Lib.hid hR
      have HB5 := Lib.hid hB
      clear hU hR hB HU HR HB
      go_wp2_with fail
      refine (HF1.out w5).mono ?_
      rintro e w6 ⟨rfl, rfl⟩
      generalize Lib.indexByte (L r) 63 = z at *
      by_cases hz : 0 ≤ z
      · obtain ⟨n, rfl⟩ : ∃ n : Nat, z = n := ⟨z.toNat, by omega⟩
        have hn1 : (n : Int) < (r.size : Int) := HIX.out
        have hn2 : (n : Int) + 1 ≤ (r.size : Int) := by omega
        have hn3 : (n : Int) ≤ (r.size : Int) := by omega
        have hr9 : (r.size : Int) ≤ 1000 := by omega
        have HVE : Hid (v = ⟨abs, host, port, L (r.extract 0 n), true, L (r.extract (n + 1) r.size)⟩) := by
          rw [Hid, HPT.out, if_pos hz, L_extract, List.drop_zero, L_extract, size_L r, List.take_length]; rfl
        have u3 := HU5.out.cell 3
        have u4 := HU5.out.cell 4
        have u5 := HU5.out.cell 5
        have f3 := HU5.out.frozen 3
        have f4 := HU5.out.frozen 4
        have f5 := HU5.out.frozen 5
        go_upto_region 19 with (fail)
        clear u3 u4 u5 f3 f4 f5
        obtain ⟨w7, hw7⟩ : ∃ w7, w7 = ((w5.setCell ⟨X + 1, 4, none⟩ (.bool true)).setCell ⟨X + 1, 3, none⟩ (.string (r.extract 0 n))).setCell ⟨X + 1, 5, none⟩ (.string (r.extract (n + 1) r.size)) := ⟨_, rfl⟩
        have HU7 : Hid (Blk w7 (X + 1) 94 #[.bool abs, .string (bs host), .int .i64 port, .string (r.extract 0 n), .bool true, .string (r.extract (n + 1) r.size)]) := by
          rw [Hid, hw7]; exact ((HU5.out.set_ 4 _).set_ 3 _).set_ 5 _
        have HR7 : Hid (Blk w7 X 94 (uCells uri0)) := by
          rw [Hid, hw7]
          exact ((HR5.out.far (p := ⟨X + 1, 4, none⟩) (by show X ≠ X + 1; omega) _).far (p := ⟨X + 1, 3, none⟩) (by show X ≠ X + 1; omega) _).far (p := ⟨X + 1, 5, none⟩) (by show X ≠ X + 1; omega) _
        have HB7 : Hid (Below X w w7) := by
          rw [Hid, hw7]
          exact ((HB5.out.setCell (p := ⟨X + 1, 4, none⟩) (by show X ≤ X + 1; omega) _).setCell (p := ⟨X + 1, 3, none⟩) (by show X ≤ X + 1; omega) _).setCell (p := ⟨X + 1, 5, none⟩) (by show X ≤ X + 1; omega) _
        change Code.wp _ _ _ _ (((w5.setCell ⟨X + 1, 4, none⟩ (.bool true)).setCell ⟨X + 1, 3, none⟩ (.string (r.extract 0 n))).setCell ⟨X + 1, 5, none⟩ (.string (r.extract (n + 1) r.size)))
        rw [← hw7]
        clear hw7 HU5 HR5 HB5
        rw [show Value.string (r.extract 0 n) = .string (bs (L (r.extract 0 n))) by rw [bs_L], show Value.string (r.extract (n + 1) r.size) = .string (bs (L (r.extract (n + 1) r.size))) by rw [bs_L]] at HU7
        generalize L (r.extract 0 n) = P1 at *
        generalize L (r.extract (n + 1) r.size) = P2 at *
        obtain ⟨P1, A, P2, HVE, HU7⟩ : ∃ P1 A P2, Hid (v = ⟨abs, host, port, P1, A, P2⟩) ∧ Hid (Blk w7 (X + 1) 94 #[.bool abs, .string (bs host), .int .i64 port, .string (bs P1), .bool A, .string (bs P2)]) := ⟨_, _, _, HVE, HU7⟩
        obtain rfl := HVE.out
        clear HVE
        have x0 := HU7.out.cell 0
        have x1 := HU7.out.cell 1
        have x2 := HU7.out.cell 2
        have x3 := HU7.out.cell 3
        have x4 := HU7.out.cell 4
        have x5 := HU7.out.cell 5
        have HRI := Lib.hid (r5right_calls ⟨abs, host, port, P1, A, P2⟩ HSV.out w7)
        simp only [UriD.val] at HRI
        go_wp2_with fail
        refine HRI.out.mono ?_
        rintro e w8 ⟨b, rfl, hbv, hb8⟩
        have HBV := Lib.hid hbv
        have HU8 := Lib.hid (HU7.out.below hb8 HU7.out.lt)
        have HR8 := Lib.hid (HR7.out.below hb8 HR7.out.lt)
        have HB8 := Lib.hid (HB7.out.trans (hb8.mono (by have := HB7.out.size; rw [HXX.out] at this; exact this)))
        clear hb8 hbv HRI x0 x1 x2 x3 x4 x5 HU7 HR7 HB7
        have x0 := HU8.out.cell 0
        have x1 := HU8.out.cell 1
        have x2 := HU8.out.cell 2
        have x3 := HU8.out.cell 3
        have x4 := HU8.out.cell 4
        have x5 := HU8.out.cell 5
        have r0 : w8.cell? ⟨X, 0, none⟩ = some (.bool false) := HR8.out.cell 0
        have r1 : w8.cell? ⟨X, 1, none⟩ = some (.string ⟨#[]⟩) := HR8.out.cell 1
        have r2 : w8.cell? ⟨X, 2, none⟩ = some (.int .i64 0) := HR8.out.cell 2
        have r3 : w8.cell? ⟨X, 3, none⟩ = some (.string ⟨#[]⟩) := HR8.out.cell 3
        have r4 : w8.cell? ⟨X, 4, none⟩ = some (.bool false) := HR8.out.cell 4
        have r5 : w8.cell? ⟨X, 5, none⟩ = some (.string ⟨#[]⟩) := HR8.out.cell 5
        have y0 := HR8.out.frozen 0
        have y1 := HR8.out.frozen 1
        have y2 := HR8.out.frozen 2
        have y3 := HR8.out.frozen 3
        have y4 := HR8.out.frozen 4
        have y5 := HR8.out.frozen 5
        cases b with
        | true =>
          have hb := Lib.hid (fill6_blk (show Blk w8 X 94 #[.bool false, .string ⟨#[]⟩, .int .i64 0, .string ⟨#[]⟩, .bool false, .string ⟨#[]⟩] from HR8.out) ⟨abs, host, port, P1, A, P2⟩)
          have hl := Lib.hid (fill6_below HB8.out (Nat.le_refl _) ⟨abs, host, port, P1, A, P2⟩)
          go_wp2_with fail
          clear x0 x1 x2 x3 x4 x5 r0 r1 r2 r3 r4 r5 y0 y1 y2 y3 y4 y5
          change bodyPost _ _ _ _ _ (fill6 w8 X ⟨abs, host, port, P1, A, P2⟩)
          generalize fill6 w8 X ⟨abs, host, port, P1, A, P2⟩ = W at *
          refine bodyPost_ret (rparse_results rfl rfl hb.out) rfl (HMK.out ⟨abs, host, port, P1, A, P2⟩ 0 rfl (fun _ hab => ?_) (by rw [HXX.out]; exact hl.out))
          rw [HPFE.out hab, if_pos (HBV.out hab).symm]
          exact ⟨rfl, hab⟩
        | false =>
          have hb := Lib.hid (fill6_blk (show Blk w8 X 94 #[.bool false, .string ⟨#[]⟩, .int .i64 0, .string ⟨#[]⟩, .bool false, .string ⟨#[]⟩] from HR8.out) uri0)
          have hl := Lib.hid (fill6_below HB8.out (Nat.le_refl _) uri0)
          go_wp2_with fail
          clear x0 x1 x2 x3 x4 x5 r0 r1 r2 r3 r4 r5 y0 y1 y2 y3 y4 y5
          change bodyPost _ _ _ _ _ (fill6 w8 X uri0)
          generalize fill6 w8 X uri0 = W at *
          exact bodyPost_ret (rparse_results rfl rfl hb.out) rfl (HMK.out uri0 20 rfl (fun h => by cases h) (by rw [HXX.out]; exact hl.out))
      · have HVE : Hid (v = ⟨abs, host, port, L r, false, []⟩) := by rw [Hid, HPT.out, if_neg hz]
        go_upto_region 19 with (fail)
        have HU7 := HU5
        have HR7 := HR5
        have HB7 := HB5
        rw [show Value.string r = .string (bs (L r)) by rw [bs_L]] at HU7
        obtain ⟨w7, rfl⟩ : ∃ w7, w7 = w5 := ⟨_, rfl⟩
        obtain ⟨P1, A, P2, HVE, HU7⟩ : ∃ P1 A P2, Hid (v = ⟨abs, host, port, P1, A, P2⟩) ∧ Hid (Blk w7 (X + 1) 94 #[.bool abs, .string (bs host), .int .i64 port, .string (bs P1), .bool A, .string (bs P2)]) := ⟨_, _, _, HVE, HU7⟩
        obtain rfl := HVE.out
        clear HVE
        have x0 := HU7.out.cell 0
        have x1 := HU7.out.cell 1
        have x2 := HU7.out.cell 2
        have x3 := HU7.out.cell 3
        have x4 := HU7.out.cell 4
        have x5 := HU7.out.cell 5
        have HRI := Lib.hid (r5right_calls ⟨abs, host, port, P1, A, P2⟩ HSV.out w7)
        simp only [UriD.val] at HRI
        go_wp2_with fail
        refine HRI.out.mono ?_
        rintro e w8 ⟨b, rfl, hbv, hb8⟩
        have HBV := Lib.hid hbv
        have HU8 := Lib.hid (HU7.out.below hb8 HU7.out.lt)
        have HR8 := Lib.hid (HR7.out.below hb8 HR7.out.lt)
        have HB8 := Lib.hid (HB7.out.trans (hb8.mono (by have := HB7.out.size; rw [HXX.out] at this; exact this)))
        clear hb8 hbv HRI x0 x1 x2 x3 x4 x5 HU7 HR7 HB7
        have x0 := HU8.out.cell 0
        have x1 := HU8.out.cell 1
        have x2 := HU8.out.cell 2
        have x3 := HU8.out.cell 3
        have x4 := HU8.out.cell 4
        have x5 := HU8.out.cell 5
        have r0 : w8.cell? ⟨X, 0, none⟩ = some (.bool false) := HR8.out.cell 0
        have r1 : w8.cell? ⟨X, 1, none⟩ = some (.string ⟨#[]⟩) := HR8.out.cell 1
        have r2 : w8.cell? ⟨X, 2, none⟩ = some (.int .i64 0) := HR8.out.cell 2
        have r3 : w8.cell? ⟨X, 3, none⟩ = some (.string ⟨#[]⟩) := HR8.out.cell 3
        have r4 : w8.cell? ⟨X, 4, none⟩ = some (.bool false) := HR8.out.cell 4
        have r5 : w8.cell? ⟨X, 5, none⟩ = some (.string ⟨#[]⟩) := HR8.out.cell 5
        have y0 := HR8.out.frozen 0
        have y1 := HR8.out.frozen 1
        have y2 := HR8.out.frozen 2
        have y3 := HR8.out.frozen 3
        have y4 := HR8.out.frozen 4
        have y5 := HR8.out.frozen 5
        cases b with
        | true =>
          have hb := Lib.hid (fill6_blk (show Blk w8 X 94 #[.bool false, .string ⟨#[]⟩, .int .i64 0, .string ⟨#[]⟩, .bool false, .string ⟨#[]⟩] from HR8.out) ⟨abs, host, port, P1, A, P2⟩)
          have hl := Lib.hid (fill6_below HB8.out (Nat.le_refl _) ⟨abs, host, port, P1, A, P2⟩)
          go_wp2_with fail
          clear x0 x1 x2 x3 x4 x5 r0 r1 r2 r3 r4 r5 y0 y1 y2 y3 y4 y5
          change bodyPost _ _ _ _ _ (fill6 w8 X ⟨abs, host, port, P1, A, P2⟩)
          generalize fill6 w8 X ⟨abs, host, port, P1, A, P2⟩ = W at *
          refine bodyPost_ret (rparse_results rfl rfl hb.out) rfl (HMK.out ⟨abs, host, port, P1, A, P2⟩ 0 rfl (fun _ hab => ?_) (by rw [HXX.out]; exact hl.out))
          rw [HPFE.out hab, if_pos (HBV.out hab).symm]
          exact ⟨rfl, hab⟩
        | false =>
          have hb := Lib.hid (fill6_blk (show Blk w8 X 94 #[.bool false, .string ⟨#[]⟩, .int .i64 0, .string ⟨#[]⟩, .bool false, .string ⟨#[]⟩] from HR8.out) uri0)
          have hl := Lib.hid (fill6_below HB8.out (Nat.le_refl _) uri0)
          go_wp2_with fail
          clear x0 x1 x2 x3 x4 x5 r0 r1 r2 r3 r4 r5 y0 y1 y2 y3 y4 y5
          change bodyPost _ _ _ _ _ (fill6 w8 X uri0)
          generalize fill6 w8 X uri0 = W at *
          exact bodyPost_ret (rparse_results rfl rfl hb.out) rfl (HMK.out uri0 20 rfl (fun h => by cases h) (by rw [HXX.out]; exact hl.out))
end Go.Proofs.YtijpfcjlochahaaGreatDoor
