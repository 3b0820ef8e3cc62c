/- The walk of uri's place. The walk of uri.Parse, where the first '/' or '?' is looked for by a function whose answer is given. -/
import Derived.Test.YtijpfcjlochahaaGreatDoorUriP
import Derived.Deep.CutBlock
set_option linter.unusedVariables false
set_option linter.unusedSimpArgs false
namespace Go.Proofs.YtijpfcjlochahaaGreatDoor
open Go Go.RowKit
set_option linter.unusedVariables false
set_option linter.unusedSimpArgs false

theorem place_results {w : World} {X : Nat} {tmps : Array Value} {u : UriD} {b : Value} (h4 : tmps[4]?.getD undef = .pointer (some ⟨X, 0, none⟩)) (h5 : tmps[5]?.getD undef = b) (B0 : Blk w X 94 (uCells u)) :
    (results Tryz.f83 tmps).run Tryz.prog w = .ok (.tuple #[u.val, b]) w := by
  have a0 := B0.cell 0
  have a1 := B0.cell 1
  have a2 := B0.cell 2
  have a3 := B0.cell 3
  have a4 := B0.cell 4
  have a5 := B0.cell 5
  simp [uCells] at a0 a1 a2 a3 a4 a5
  simp [results, Tryz.results83, go_sem, h4, h5, a0, a1, a2, a3, a4, a5, UriD.val]
theorem readRes_le (o : Option (Nat × Bool)) (h : ∀ n b, o = some (n, b) → n ≤ 1099511627776) : (readRes o).1 ≤ 1099511627776 := by
  rcases o with _ | ⟨n, b⟩
  · simp [readRes]
  · have := h n b rfl
    cases b <;> simp [readRes] <;> omega
theorem readLoop_le : ∀ (l : List UInt8) (n : Nat) (b : Bool), n ≤ 1099511627776 → ∀ m c, readLoop l n b = some (m, c) → m ≤ 1099511627776
  | [], n, b, h, m, c, e => by
    rw [readLoop] at e
    injection e with e
    injection e with e1 e2
    omega
  | x :: l, n, b, h, m, c, e => by
    rw [readLoop_cons] at e
    split at e
    · split at e
      · exact readLoop_le l _ _ (by assumption) m c e
      · exact readLoop_le l _ _ (by omega) m c e
    · cases e
theorem readDec_le (s : List UInt8) : (readDecF s).1 ≤ 1099511627776 := by
  unfold readDecF
  split
  · simp
  · exact readRes_le _ fun n b h => readLoop_le s 0 false (by omega) n b h
theorem lowF_len (s : List UInt8) : (lowF s).length = s.length := by unfold lowF; rw [List.length_map]
set_option maxRecDepth 20000 in
set_option maxHeartbeats 8000000 in
theorem place_calls (s : ByteArray) (u : UriD) (hs : s.size ≤ 1000000) (w : World) :
    Calls Tryz.prog 83 #[.string s, u.val] w fun e w' => e = .returned (.tuple #[(placeF (L s) u).1.val, .bool (placeF (L s) u).2]) ∧ Below w.heap.size w w' := by
  obtain ⟨abs, host, port, path, asks, query⟩ := u
  have HP : Hid (placeF (L s) ⟨abs, host, port, path, asks, query⟩ = if lastF 58 (L s) = 0 then (⟨true, lowF (L s), port, path, asks, query⟩, true)
    else (⟨true, (lowF (L s)).take (lastF 58 (L s) - 1), ((readDecF ((L s).drop (lastF 58 (L s)))).1 : Int), path, asks, query⟩,
      decide ((readDecF ((L s).drop (lastF 58 (L s)))).2 = 0) && (decide ((L s).length - lastF 58 (L s) ≤ 5) && decide (0 < (readDecF ((L s).drop (lastF 58 (L s)))).1)))) := rfl
  have HLE := Lib.hid (lastF_le 58 (L s))
  have HLL := Lib.hid (lowF_len (L s))
  have HSL := Lib.hid (size_L s)
  generalize placeF (L s) ⟨abs, host, port, path, asks, query⟩ = PF at *
  simp only [UriD.val] at *
  have hal1 : Below w.heap.size w (w.alloc (.cells #[.bool abs, .string (bs host), .int .i64 port, .string (bs path), .bool asks, .string (bs query)] 94)) := (Below.refl _ _).alloc (Nat.le_refl _) _
  have hX := Blk.new w 94 #[.bool abs, .string (bs host), .int .i64 port, .string (bs path), .bool asks, .string (bs query)]
  have hX1 := hX.alloc (.cells #[.bool false, .string ⟨#[]⟩, .int .i64 0, .string ⟨#[]⟩, .bool false, .string ⟨#[]⟩] 94)
  have hR := Blk.new (w.alloc (.cells #[.bool abs, .string (bs host), .int .i64 port, .string (bs path), .bool asks, .string (bs query)] 94)) 94 #[.bool false, .string ⟨#[]⟩, .int .i64 0, .string ⟨#[]⟩, .bool false, .string ⟨#[]⟩]
  have hB := hal1.alloc hal1.size (.cells #[.bool false, .string ⟨#[]⟩, .int .i64 0, .string ⟨#[]⟩, .bool false, .string ⟨#[]⟩] 94)
  rw [size_alloc] at hR
  go_enter Tryz.func83, Tryz.ntmps83
  go_wp2_with fail
  refine (lower_calls s _ hs).mono ?_
  rintro e w3 ⟨rfl, hb3⟩
  have hX3 := hX1.below hb3 hX1.lt
  have hR3 := hR.below hb3 hR.lt
  have hB3 := hB.trans (hb3.mono hB.size)
  have HX := Lib.hid hX3
  have HR := Lib.hid hR3
  have HB := Lib.hid hB3
  clear hX3 hR3 hB3 hX hX1 hR hB hal1 hb3
  generalize hXX : w.heap.size = X at *
  have HXX := Lib.hid hXX
  clear hXX
  have x0 := HX.out.cell 0
  have x1 := HX.out.cell 1
  have y0 := HX.out.frozen 0
  have y1 := HX.out.frozen 1
  go_upto_region 2 with (fail)
  clear x0 x1 y0 y1
  obtain ⟨w4, hw4⟩ : ∃ w4, w4 = (w3.setCell ⟨X, 0, none⟩ (.bool true)).setCell ⟨X, 1, none⟩ (.string (bs (lowF (L s)))) := ⟨_, rfl⟩
  have HX4 : Hid (Blk w4 X 94 #[.bool true, .string (bs (lowF (L s))), .int .i64 port, .string (bs path), .bool asks, .string (bs query)]) := by rw [Hid, hw4]; exact (HX.out.set_ 0 _).set_ 1 _
  have HB4 : Hid (Below X w w4) := by rw [Hid, hw4]; exact (HB.out.setCell (p := ⟨X, 0, none⟩) (Nat.le_refl _) _).setCell (p := ⟨X, 1, none⟩) (Nat.le_refl _) _
  have HR4 : Hid (Blk w4 (X + 1) 94 #[.bool false, .string ⟨#[]⟩, .int .i64 0, .string ⟨#[]⟩, .bool false, .string ⟨#[]⟩]) := by
    rw [Hid, hw4]
    exact (HR.out.far (p := ⟨X, 0, none⟩) (by show X + 1 ≠ X; omega) _).far (p := ⟨X, 1, none⟩) (by show X + 1 ≠ X; omega) _
  rw [← hw4]
  clear hw4 HX HB HR
  go_wp2_with fail
  refine (lastByte_calls s 58 w4 hs).mono ?_
  rintro e w5 ⟨rfl, rfl⟩
  by_cases h0 : lastF 58 (L s) = 0
  · have HP2 : Hid (PF = (⟨true, lowF (L s), port, path, asks, query⟩, true)) := by rw [Hid, HP.out, if_pos h0]
    rw [h0]
    have hz : (((0 : Nat) : Int) - 1) = -1 := rfl
    rw [hz]
    clear h0 HP hz
    have x0 := HX4.out.cell 0
    have x1 := HX4.out.cell 1
    have x2 := HX4.out.cell 2
    have x3 := HX4.out.cell 3
    have x4 := HX4.out.cell 4
    have x5 := HX4.out.cell 5
    have r0 := HR4.out.cell 0
    have r1 := HR4.out.cell 1
    have r2 := HR4.out.cell 2
    have r3 := HR4.out.cell 3
    have r4 := HR4.out.cell 4
    have r5 := HR4.out.cell 5
    have y0 := HR4.out.frozen 0
    have y1 := HR4.out.frozen 1
    have y2 := HR4.out.frozen 2
    have y3 := HR4.out.frozen 3
    have y4 := HR4.out.frozen 4
    have y5 := HR4.out.frozen 5
    go_wp2_with fail
    have hb := fill6_blk HR4.out ⟨true, lowF (L s), port, path, asks, query⟩
    have hl := fill6_below HB4.out (show X ≤ X + 1 by omega) ⟨true, lowF (L s), port, path, asks, query⟩
    clear x0 x1 x2 x3 x4 x5 r0 r1 r2 r3 r4 r5 y0 y1 y2 y3 y4 y5
    change bodyPost _ _ _ _ _ (fill6 w4 (X + 1) ⟨true, lowF (L s), port, path, asks, query⟩)
    generalize fill6 w4 (X + 1) ⟨true, lowF (L s), port, path, asks, query⟩ = W at *
    refine bodyPost_ret (place_results rfl rfl hb) rfl ⟨?_, by rw [HXX.out]; exact hl⟩
    rw [HP2.out]
    rfl
  · obtain ⟨i, hi⟩ : ∃ i, lastF 58 (L s) = i + 1 := ⟨lastF 58 (L s) - 1, by omega⟩
    have hil : i < s.size := by have h1 := HLE.out; have h2 := HSL.out; omega
    rw [hi] at HP HLE ⊢
    have hz : (((i + 1 : Nat) : Int) - 1) = (i : Int) := by omega
    rw [hz]
    have HRD := Lib.hid (readDec_calls (s.extract (i + 1) s.size) w4 (by rw [ByteArray.size_extract]; omega))
    have hex : L (s.extract (i + 1) s.size) = (L s).drop (i + 1) := by rw [L_extract, size_L s, List.take_length]
    rw [hex] at HRD
    have HNL := Lib.hid (readDec_le ((L s).drop (i + 1)))
    obtain ⟨n, bad, hnb⟩ : ∃ n bad, readDecF ((L s).drop (i + 1)) = (n, bad) := ⟨_, _, rfl⟩
    rw [hnb] at HRD HNL HP
    simp only [Nat.add_sub_cancel] at HP
    have HP2 : Hid (PF = (⟨true, (lowF (L s)).take i, (n : Int), path, asks, query⟩, decide (bad = 0) && (decide (s.size - (i + 1) ≤ 5) && decide (0 < n)))) := by
      rw [Hid, HP.out, if_neg (by omega), HSL.out]
    have hi0 : ¬ (i : Int) < 0 := by omega
    have hi1 : (i : Int) < (s.size : Int) := by omega
    have hi2 : (i : Int) + 1 ≤ (s.size : Int) := by omega
    have hn1 : (n : Int) ≤ 1099511627776 := by have := HNL.out; simp only at this; omega
    have hn0 : (0 : Int) ≤ (n : Int) := by omega
    have hll : (i : Int) ≤ ((bs (lowF (L s))).size : Int) := by rw [size_bs, HLL.out, ← HSL.out]; omega
    have hs1 : (s.size : Int) ≤ 1000000 := by omega
    clear h0 HP hz hex hnb hi
    go_wp2_with fail
    refine HRD.out.mono ?_
    rintro e w6 ⟨rfl, rfl⟩
    have x0 := HX4.out.cell 0
    have x1 := HX4.out.cell 1
    have x2 := HX4.out.cell 2
    have x3 := HX4.out.cell 3
    have x4 := HX4.out.cell 4
    have x5 := HX4.out.cell 5
    have y1 := HX4.out.frozen 1
    have y2 := HX4.out.frozen 2
    go_upto_region 7 with (fail)
    clear x0 x1 x2 x3 x4 x5 y1 y2
    obtain ⟨w7, hw7⟩ : ∃ w7, w7 = (w4.setCell ⟨X, 1, none⟩ (.string ((bs (lowF (L s))).extract 0 i))).setCell ⟨X, 2, none⟩ (.int .i64 (n : Int)) := ⟨_, rfl⟩
    have hexx : (bs (lowF (L s))).extract 0 i = bs ((lowF (L s)).take i) := by rw [extract_bs, List.drop_zero]
    have HX7 : Hid (Blk w7 X 94 #[.bool true, .string (bs ((lowF (L s)).take i)), .int .i64 (n : Int), .string (bs path), .bool asks, .string (bs query)]) := by rw [Hid, hw7, hexx]; exact (HX4.out.set_ 1 _).set_ 2 _
    have HB7 : Hid (Below X w w7) := by rw [Hid, hw7]; exact (HB4.out.setCell (p := ⟨X, 1, none⟩) (Nat.le_refl _) _).setCell (p := ⟨X, 2, none⟩) (Nat.le_refl _) _
    have HR7 : Hid (Blk w7 (X + 1) 94 #[.bool false, .string ⟨#[]⟩, .int .i64 0, .string ⟨#[]⟩, .bool false, .string ⟨#[]⟩]) := by
      rw [Hid, hw7]
      exact (HR4.out.far (p := ⟨X, 1, none⟩) (by show X + 1 ≠ X; omega) _).far (p := ⟨X, 2, none⟩) (by show X + 1 ≠ X; omega) _
    rw [← hw7]
    clear hw7 HX4 HB4 HR4 hexx
    generalize (lowF (L s)).take i = H at *
    have HX4 := HX7
    have HR4 := HR7
    clear HX7 HR7
    have x0 := HX4.out.cell 0
    have x1 := HX4.out.cell 1
    have x2 := HX4.out.cell 2
    have x3 := HX4.out.cell 3
    have x4 := HX4.out.cell 4
    have x5 := HX4.out.cell 5
    have r0 := HR4.out.cell 0
    have r1 := HR4.out.cell 1
    have r2 := HR4.out.cell 2
    have r3 := HR4.out.cell 3
    have r4 := HR4.out.cell 4
    have r5 := HR4.out.cell 5
    have y0 := HR4.out.frozen 0
    have y1 := HR4.out.frozen 1
    have y2 := HR4.out.frozen 2
    have y3 := HR4.out.frozen 3
    have y4 := HR4.out.frozen 4
    have y5 := HR4.out.frozen 5
    have hb := Lib.hid (fill6_blk HR4.out ⟨true, H, (n : Int), path, asks, query⟩)
    have hl := Lib.hid (fill6_below HB7.out (show X ≤ X + 1 by omega) ⟨true, H, (n : Int), path, asks, query⟩)
    by_cases hbd : bad = 0
    · have b1 : (bad == 0) = true := by rw [hbd]; rfl
      by_cases h5 : s.size - (i + 1) ≤ 5
      · have b2 : (s.size : Int) - (i : Int) - 1 ≤ 5 := by omega
        by_cases hn : 0 < n
        · have b3 : (0 : Int) < (n : Int) := by omega
          have HP3 : Hid (PF = (⟨true, H, (n : Int), path, asks, query⟩, true)) := by rw [Hid, HP2.out, decide_eq_true hbd, decide_eq_true h5, decide_eq_true hn]; rfl
          go_wp2_with fail
          clear x0 x1 x2 x3 x4 x5 r0 r1 r2 r3 r4 r5 y0 y1 y2 y3 y4 y5
          change bodyPost _ _ _ _ _ (fill6 w7 (X + 1) ⟨true, H, (n : Int), path, asks, query⟩)
          generalize fill6 w7 (X + 1) ⟨true, H, (n : Int), path, asks, query⟩ = W at *
          refine bodyPost_ret (place_results rfl rfl hb.out) rfl ⟨?_, by rw [HXX.out]; exact hl.out⟩
          rw [HP3.out]
          rfl
        · have b3 : ¬ (0 : Int) < (n : Int) := by omega
          have HP3 : Hid (PF = (⟨true, H, (n : Int), path, asks, query⟩, false)) := by rw [Hid, HP2.out, decide_eq_true hbd, decide_eq_true h5, decide_eq_false hn]; rfl
          go_wp2_with fail
          clear x0 x1 x2 x3 x4 x5 r0 r1 r2 r3 r4 r5 y0 y1 y2 y3 y4 y5
          change bodyPost _ _ _ _ _ (fill6 w7 (X + 1) ⟨true, H, (n : Int), path, asks, query⟩)
          generalize fill6 w7 (X + 1) ⟨true, H, (n : Int), path, asks, query⟩ = W at *
          refine bodyPost_ret (place_results rfl rfl hb.out) rfl ⟨?_, by rw [HXX.out]; exact hl.out⟩
          rw [HP3.out]
          rfl
      · have b2 : ¬ (s.size : Int) - (i : Int) - 1 ≤ 5 := by omega
        have HP3 : Hid (PF = (⟨true, H, (n : Int), path, asks, query⟩, false)) := by rw [Hid, HP2.out, decide_eq_true hbd, decide_eq_false h5]; rfl
        go_wp2_with fail
        clear x0 x1 x2 x3 x4 x5 r0 r1 r2 r3 r4 r5 y0 y1 y2 y3 y4 y5
        change bodyPost _ _ _ _ _ (fill6 w7 (X + 1) ⟨true, H, (n : Int), path, asks, query⟩)
        generalize fill6 w7 (X + 1) ⟨true, H, (n : Int), path, asks, query⟩ = W at *
        refine bodyPost_ret (place_results rfl rfl hb.out) rfl ⟨?_, by rw [HXX.out]; exact hl.out⟩
        rw [HP3.out]
        rfl
    · have b1 : (bad == 0) = false := by rw [beq_eq_false_iff_ne]; exact hbd
      have HP3 : Hid (PF = (⟨true, H, (n : Int), path, asks, query⟩, false)) := by rw [Hid, HP2.out, decide_eq_false hbd]; rfl
      go_wp2_with fail
      clear x0 x1 x2 x3 x4 x5 r0 r1 r2 r3 r4 r5 y0 y1 y2 y3 y4 y5
      change bodyPost _ _ _ _ _ (fill6 w7 (X + 1) ⟨true, H, (n : Int), path, asks, query⟩)
      generalize fill6 w7 (X + 1) ⟨true, H, (n : Int), path, asks, query⟩ = W at *
      refine bodyPost_ret (place_results rfl rfl hb.out) rfl ⟨?_, by rw [HXX.out]; exact hl.out⟩
      rw [HP3.out]
      rfl
end Go.Proofs.YtijpfcjlochahaaGreatDoor
namespace Go.Proofs.YtijpfcjlochahaaGreatDoor
open Go Go.RowKit
set_option linter.unusedVariables false
set_option linter.unusedSimpArgs false

theorem parse_results {w : World} {X : Nat} {tmps : Array Value} {u : UriD} {b : Value} (h4 : tmps[2]?.getD undef = .pointer (some ⟨X, 0, none⟩)) (h5 : tmps[3]?.getD undef = b) (B0 : Blk w X 94 (uCells u)) :
    (results Tryz.f51 tmps).run Tryz.prog w = .ok (.tuple #[u.val, b]) w := by
  have a0 := B0.cell 0
  have a1 := B0.cell 1
  have a2 := B0.cell 2
  have a3 := B0.cell 3
  have a4 := B0.cell 4
  have a5 := B0.cell 5
  simp [uCells] at a0 a1 a2 a3 a4 a5
  simp [results, Tryz.results51, go_sem, h4, h5, a0, a1, a2, a3, a4, a5, UriD.val]
theorem cut_small (s c : List UInt8) : (Lib.cut s c).1.length ≤ s.length ∧ (Lib.cut s c).2.1.length ≤ s.length := by
  unfold Lib.cut
  split
  · simp only [List.length_take, List.length_drop]; omega
  · simp
theorem placeF_small (s : List UInt8) (hs : s.length ≤ 100000) : (placeF s uri0).1.small := by
  have h1 := lowF_len s
  have h2 := readDec_le (s.drop (lastF 58 s))
  unfold placeF UriD.small
  split
  · simp only [uri0, List.length_nil]; omega
  · simp only [uri0, List.length_nil, List.length_take]; omega
theorem pathF_small {s : List UInt8} {u : UriD} (hs : s.length ≤ 100000) (h : u.small) : (pathF s u).small := by
  obtain ⟨h1, h2, h3, h4, h5⟩ := h
  have := cut_small s [63]
  unfold pathF UriD.small
  simp only
  omega
theorem uri0_small : uri0.small := by simp [UriD.small, uri0]
set_option maxRecDepth 20000 in
set_option maxHeartbeats 8000000 in
theorem parseZ_calls (s : ByteArray) (z : Int) (w : World) (hg : Glob w) (hz1 : -1 ≤ z) (hz2 : z + 7 ≤ s.size ∨ z < 0)
    (hidx : ∀ W, Calls Tryz.prog 82 #[.string (s.extract 7 s.size), .string ⟨#[47, 63]⟩] W fun e W' => e = .returned (.int .i64 z) ∧ Below W.heap.size W W') :
    Calls Tryz.prog 51 #[.string s] w fun e w' => e = .returned (.tuple #[(parseZ (L s) z).1.val, .int .i64 (parseZ (L s) z).2]) ∧ Below w.heap.size w w' := by
  have HSL := Lib.hid (size_L s)
  have HP : Hid (parseZ (L s) z = if 500 < (L s).length then (uri0, 2)
    else if 7 ≤ (L s).length ∧ lowF ((L s).take 7) = schemeB then
      finF5 (slashF (((L s).drop 7).drop (if z < 0 then ((L s).drop 7).length else z.toNat))) (placeF (((L s).drop 7).take (if z < 0 then ((L s).drop 7).length else z.toNat)) uri0)
    else finF5 (L s) (uri0, true)) := rfl
  generalize parseZ (L s) z = PF at *
  have HI := Lib.hid hidx
  have HG0 := Lib.hid hg
  clear hidx hg
  by_cases hlen : 500 < s.size
  · have hl1 : (500 : Int) < (s.size : Int) := by omega
    have HP2 : Hid (PF = (uri0, 2)) := by rw [Hid, HP.out, if_pos (by rw [← HSL.out]; exact hlen)]
    clear HP hlen
    have hR := Blk.new w 94 (uCells uri0)
    have hB : Below w.heap.size w (w.alloc (.cells (uCells uri0) 94)) := (Below.refl _ _).alloc (Nat.le_refl _) _
    have HR := Lib.hid hR
    have HB := Lib.hid hB
    clear hR hB
    go_enter Tryz.func51, Tryz.ntmps51
    go_wp2_with fail
    refine bodyPost_ret (parse_results rfl rfl HR.out) rfl ⟨?_, HB.out⟩
    rw [HP2.out]
    rfl
  · have hl1 : ¬ (500 : Int) < (s.size : Int) := by omega
    have HLE : Hid (s.size ≤ 500) := by rw [Hid]; omega
    have HP2 : Hid (PF = if 7 ≤ s.size ∧ lowF ((L s).take 7) = schemeB then
        finF5 (slashF (((L s).drop 7).drop (if z < 0 then ((L s).drop 7).length else z.toNat))) (placeF (((L s).drop 7).take (if z < 0 then ((L s).drop 7).length else z.toNat)) uri0)
      else finF5 (L s) (uri0, true)) := by rw [Hid, HP.out, if_neg (by rw [← HSL.out]; exact hlen), ← HSL.out]
    clear HP hlen
    go_enter Tryz.func51, Tryz.ntmps51
    go_upto_region 6 with (fail)
    have hR := Blk.new w 94 (uCells uri0)
    have hR1 := hR.alloc (.cells (uCells uri0) 94)
    have hU := Blk.new (w.alloc (.cells (uCells uri0) 94)) 94 (uCells uri0)
    have hB0 : Below w.heap.size w (w.alloc (.cells (uCells uri0) 94)) := (Below.refl _ _).alloc (Nat.le_refl _) _
    have hB := hB0.alloc hB0.size (.cells (uCells uri0) 94)
    rw [size_alloc] at hU
    have HR := Lib.hid hR1
    have HU := Lib.hid hU
    have HB := Lib.hid hB
    clear hR hR1 hU hB0 hB
    obtain ⟨w1, hw1⟩ : ∃ w1, w1 = (w.alloc (.cells (uCells uri0) 94)).alloc (.cells (uCells uri0) 94) := ⟨_, rfl⟩
    rw [← hw1] at HR HU HB
    change Code.wp _ _ _ _ ((w.alloc (.cells (uCells uri0) 94)).alloc (.cells (uCells uri0) 94))
    rw [← hw1]
    clear hw1
    have HG := Lib.hid (HG0.out.below HB.out)
    generalize hXX : w.heap.size = X at *
    have HXX := Lib.hid hXX
    clear hXX
    have HU : Hid (Blk w1 (X + 1) 94 (uCells uri0)) := HU
    go_cut [21] from 12 to 22 (fun v wx => v = .bool (decide (7 ≤ s.size ∧ lowF ((L s).take 7) = schemeB)) ∧ Hid (Below w1.heap.size w1 wx))
    case first =>
      by_cases h7 : 7 ≤ s.size
      · have h7i : (7 : Int) ≤ (s.size : Int) := by omega
        have hex : L (s.extract 0 7) = (L s).take 7 := by rw [L_extract, List.drop_zero]
        have HEX := Lib.hid hex
        clear hex
        go_wp2_with fail
        refine (same_calls5 (s.extract 0 7) ⟨#[104, 116, 116, 112, 58, 47, 47]⟩ w1 (by rw [ByteArray.size_extract]; omega) (by show 7 ≤ 1000000; omega)).mono ?_
        rintro e w2 ⟨rfl, hb2⟩
        go_wp2_with fail
        go_meet
        case rel =>
          refine ⟨congrArg Value.bool ?_, hb2⟩
          rw [HEX.out, Bool.eq_iff_iff, beq_iff_eq, decide_eq_true_eq]
          exact ⟨fun h => ⟨h7, h⟩, fun h => h.2⟩
      · have h7i : ¬ (7 : Int) ≤ (s.size : Int) := by omega
        go_wp2_with fail
        go_meet
        case rel => exact ⟨congrArg Value.bool (decide_eq_false (fun h => h7 h.1)).symm, Below.refl _ _⟩
    case rest =>
      obtain ⟨rfl, hb2⟩ := hcut
      obtain ⟨w2, rfl⟩ : ∃ w2 : World, w2 = wc := ⟨_, rfl⟩
      have HU2 := Lib.hid (HU.out.below hb2.out HU.out.lt)
      have HR2 := Lib.hid (HR.out.below hb2.out HR.out.lt)
      have HB2 := Lib.hid (HB.out.trans (hb2.out.mono (by have := HB.out.size; rw [HXX.out] at this; exact this)))
      have HG2 := Lib.hid (HG.out.below hb2.out)
      clear hb2 HU HR HB HG
      generalize hc : decide (7 ≤ s.size ∧ lowF ((L s).take 7) = schemeB) = c
      have HC := Lib.hid hc
      clear hc
      go_upto_if 21 with (fail)
      go_cut [0, 5, 7] from 22 to 51 (fun sv iv _ wx => ∃ (r : ByteArray) (u : UriD) (b : Bool), sv = .string r ∧ iv = .bool b ∧ Hid (PF = finF5 (L r) (u, b)) ∧ Hid u.small ∧ r.size ≤ 1000 ∧
        Hid (Blk wx (X + 1) 94 (uCells u)) ∧ Hid (Blk wx X 94 (uCells uri0)) ∧ Hid (Below X w wx))
      case first =>
        cases c with
        | false =>
          have HP3 : Hid (PF = finF5 (L s) (uri0, true)) := by rw [Hid, HP2.out, if_neg (of_decide_eq_false HC.out)]
          go_wp2_with fail
          go_meet
          case rel => exact ⟨s, uri0, true, rfl, rfl, HP3.out, uri0_small, by have := HLE.out; omega, HU2.out, HR2.out, HB2.out⟩
        | true =>
          have h7 := (of_decide_eq_true HC.out).1
          have HP3 : Hid (PF = finF5 (slashF (((L s).drop 7).drop (if z < 0 then ((L s).drop 7).length else z.toNat))) (placeF (((L s).drop 7).take (if z < 0 then ((L s).drop 7).length else z.toNat)) uri0)) := by
            rw [Hid, HP2.out, if_pos (of_decide_eq_true HC.out)]
          have hr0 : L (s.extract 7 s.size) = (L s).drop 7 := by rw [L_extract, size_L s, List.take_length]
          have hrs : (s.extract 7 s.size).size = s.size - 7 := by rw [ByteArray.size_extract]; omega
          rw [← hr0] at HP3
          have h7i : (7 : Int) ≤ (s.size : Int) := by omega
          have hs5 : (s.size : Int) ≤ 500 := by have := HLE.out; omega
          have HRS : Hid ((s.extract 7 s.size).size ≤ 500) := by have := HLE.out; rw [Hid, hrs]; omega
          have HZ2 : Hid (z ≤ ((s.extract 7 s.size).size : Int)) := by rw [Hid, hrs]; omega
          clear hrs hr0 HP2 HC
          go_wp2_with fail
          refine (HI.out w2).mono ?_
          rintro e w3 ⟨rfl, hb3⟩
          have HU3 := Lib.hid (HU2.out.below hb3 HU2.out.lt)
          have HR3 := Lib.hid (HR2.out.below hb3 HR2.out.lt)
          have HB3 := Lib.hid (HB2.out.trans (hb3.mono (by have := HB2.out.size; rw [HXX.out] at this; exact this)))
          clear hb3 HU2 HR2 HB2 HI
          generalize s.extract 7 s.size = r0 at *
          have HRL := Lib.hid (size_L r0)
          go_upto_if 28 with (fail)
          go_cut [7] from 28 to 31 (fun v wx => ∃ n : Nat, v = .int .i64 n ∧ n ≤ r0.size ∧ Hid (n = if z < 0 then (L r0).length else z.toNat) ∧ wx = w3)
          case first =>
            by_cases hz : z < 0
            · have hzb : decide (z < 0) = true := decide_eq_true hz
              go_wp2_with fail
              go_meet
              case rel => exact ⟨r0.size, rfl, Nat.le_refl _, by rw [Hid, if_pos hz]; exact HRL.out, rfl⟩
            · have hzb : decide (z < 0) = false := decide_eq_false hz
              go_wp2_with fail
              go_meet
              case rel => exact ⟨z.toNat, congrArg (Value.int .i64) (by omega), by have := HZ2.out; omega, by rw [Hid, if_neg (by omega)], rfl⟩
          case rest =>
            obtain ⟨n, rfl, hn, HN, hww⟩ := hcut
            have hww := hww.symm
            subst hww
            have hni : (n : Int) ≤ (r0.size : Int) := by omega
            have HPL := Lib.hid (fun W => place_calls (r0.extract 0 n) uri0 (by have := HRS.out; rw [ByteArray.size_extract]; omega) W)
            have hle : L (r0.extract 0 n) = (L r0).take n := by rw [L_extract, List.drop_zero]
            rw [hle] at HPL
            have hsm := placeF_small ((L r0).take n) (by have := HRS.out; have := HRL.out; rw [List.length_take]; omega)
            rw [← HN.out] at HP3
            obtain ⟨u, b, hub⟩ : ∃ u b, placeF ((L r0).take n) uri0 = (u, b) := ⟨_, _, rfl⟩
            rw [hub] at HPL hsm HP3
            have HSM := Lib.hid hsm
            clear hle hsm hub
            have u0 : w3.cell? ⟨X + 1, 0, none⟩ = some (.bool false) := HU3.out.cell 0
            have u1 : w3.cell? ⟨X + 1, 1, none⟩ = some (.string ⟨#[]⟩) := HU3.out.cell 1
            have u2 : w3.cell? ⟨X + 1, 2, none⟩ = some (.int .i64 0) := HU3.out.cell 2
            have u3 : w3.cell? ⟨X + 1, 3, none⟩ = some (.string ⟨#[]⟩) := HU3.out.cell 3
            have u4 : w3.cell? ⟨X + 1, 4, none⟩ = some (.bool false) := HU3.out.cell 4
            have u5 : w3.cell? ⟨X + 1, 5, none⟩ = some (.string ⟨#[]⟩) := HU3.out.cell 5
            go_upto_region 11 with (fail)
            refine wp_region_any (by kernel_rfl) ?_
            change wpAny _ _ _ _ _ _ _ (World.drew _)
            refine wpAny_take (i := 0) (v := ?_) rfl (by kernel_rfl) (by kernel_rfl) (by kernel_rfl) (fun _ _ _ h => h) (Or.inl ⟨by rfl, ?_⟩) ?_
            rotate_left
            · (intro w_; go_simp; try with_reducible rfl)
            refine wpAny_take (i := 1) (v := ?_) rfl (by kernel_rfl) (by kernel_rfl) (by kernel_rfl) (fun _ _ _ h => h) (Or.inl ⟨by rfl, ?_⟩) ?_
            rotate_left
            · (intro w_; go_simp; try with_reducible rfl)
            refine wpAny_take (i := 2) (v := ?_) rfl (by kernel_rfl) (by kernel_rfl) (by kernel_rfl) (fun _ _ _ h => h) (Or.inl ⟨by rfl, ?_⟩) ?_
            rotate_left
            · (intro w_; go_simp; try with_reducible rfl)
            refine wpAny_ready (rs := [3]) (by kernel_rfl) (by simp) ?_
            refine AllReady.cons rfl (fun K_ hK_ => ?_) AllReady.nil
            go_simp
            refine hK_ _ _ ?_
            clear hK_ K_ u0 u1 u2 u3 u4 u5
            refine wpAny_ready (rs := [4]) (by kernel_rfl) (by simp) ?_
            refine AllReady.cons rfl (fun K_ hK_ => ?_) AllReady.nil
            go_simp
            refine (HPL.out _).mono ?_
            rintro e w5 ⟨rfl, hb5⟩
            have hb5 : Below w3.heap.size w3 w5 := (Below.refl _ _).drew.trans hb5
            have HU5 := Lib.hid (HU3.out.below hb5 HU3.out.lt)
            have HR5 := Lib.hid (HR3.out.below hb5 HR3.out.lt)
            have HB5 := Lib.hid (HB3.out.trans (hb5.mono (by have := HB3.out.size; rw [HXX.out] at this; exact this)))
            clear hb5 HU3 HR3 HB3 HPL
            refine hK_ _ _ ?_
            clear hK_ K_
            simp only [UriD.val]
            have u0 : w5.cell? ⟨X + 1, 0, none⟩ = some (.bool false) := HU5.out.cell 0
            have u1 : w5.cell? ⟨X + 1, 1, none⟩ = some (.string ⟨#[]⟩) := HU5.out.cell 1
            have u2 : w5.cell? ⟨X + 1, 2, none⟩ = some (.int .i64 0) := HU5.out.cell 2
            have u3 : w5.cell? ⟨X + 1, 3, none⟩ = some (.string ⟨#[]⟩) := HU5.out.cell 3
            have u4 : w5.cell? ⟨X + 1, 4, none⟩ = some (.bool false) := HU5.out.cell 4
            have u5 : w5.cell? ⟨X + 1, 5, none⟩ = some (.string ⟨#[]⟩) := HU5.out.cell 5
            have f0 := HU5.out.frozen 0
            have f1 := HU5.out.frozen 1
            have f2 := HU5.out.frozen 2
            have f3 := HU5.out.frozen 3
            have f4 := HU5.out.frozen 4
            have f5 := HU5.out.frozen 5
            refine wpAny_take (i := 5) (v := ?_) rfl (by kernel_rfl) (by kernel_rfl) (by kernel_rfl) (fun _ _ _ h => h) (Or.inl ⟨by rfl, ?_⟩) ?_
            rotate_left
            · (intro w_; go_simp; try with_reducible rfl)
            refine wpAny_take (i := 6) (v := ?_) rfl (by kernel_rfl) (by kernel_rfl) (by kernel_rfl) (fun _ _ _ h => h) (Or.inl ⟨by rfl, ?_⟩) ?_
            rotate_left
            · (intro w_; go_simp; try with_reducible rfl)
            refine wpAny_take (i := 7) (v := ?_) rfl (by kernel_rfl) (by kernel_rfl) (by kernel_rfl) (fun _ _ _ h => h) (Or.inl ⟨by rfl, ?_⟩) ?_
            rotate_left
            · (intro w_; go_simp; try with_reducible rfl)
            refine wpAny_ready (rs := [8]) (by kernel_rfl) (by simp) ?_
            refine AllReady.cons rfl (fun K_ hK_ => ?_) AllReady.nil
            go_simp
            refine hK_ _ _ ?_
            clear hK_ K_
            refine wpAny_take (i := 9) (v := ?_) rfl (by kernel_rfl) (by kernel_rfl) (by kernel_rfl) (fun _ _ _ h => h) (Or.inl ⟨by rfl, ?_⟩) ?_
            rotate_left
            · (intro w_; go_simp; try with_reducible rfl)
            refine wpAny_done (by kernel_rfl) ?_ _
            go_simp
            go_upto_region 13 with (fail)
            have HU6 := Lib.hid (fill6_blk HU5.out u)
            have HR6 := Lib.hid (fill6_far HR5.out (show X ≠ X + 1 by omega) u)
            have HB6 := Lib.hid (fill6_below HB5.out (show X ≤ X + 1 by omega) u)
            clear u0 u1 u2 u3 u4 u5 f0 f1 f2 f3 f4 f5 HU5 HR5 HB5
            change Code.wp _ _ _ _ (fill6 w5 (X + 1) u)
            generalize fill6 w5 (X + 1) u = w6 at *
            have hr1 : L (r0.extract n r0.size) = (L r0).drop n := by rw [L_extract, size_L r0, List.take_length]
            have hrs1 : (r0.extract n r0.size).size ≤ 500 := by have := HRS.out; rw [ByteArray.size_extract]; omega
            generalize r0.extract n r0.size = r1 at *
            rw [← hr1] at HP3
            have HR1 := Lib.hid hr1
            have hl1 := size_L r1
            have hadd : (⟨#[47]⟩ : ByteArray).size + r1.size ≤ 1000 := by show 1 + r1.size ≤ 1000; omega
            have hla : L ((⟨#[47]⟩ : ByteArray) ++ r1) = 47 :: L r1 := by rw [L_append]; rfl
            have HLA := Lib.hid hla
            have HAD := Lib.hid hadd
            clear hr1 hla
            cases hq : L r1 with
            | nil =>
              have e1 : r1.toList = [] := by rw [toList_L]; exact hq
              have e2 : r1.toList.isEmpty = true := by rw [e1]; rfl
              have HS1 : Hid (slashF (L r1) = 47 :: L r1) := by rw [Hid, slashF, if_pos (.inl hq)]
              clear hq hl1
              go_wp2_with fail
              go_meet
              case rel => exact ⟨(⟨#[47]⟩ : ByteArray) ++ r1, u, b, rfl, rfl, by rw [Hid, HP3.out, HS1.out, HLA.out], HSM.out, by have := HAD.out; rw [ByteArray.size_append]; exact this, HU6.out, HR6.out, HB6.out⟩
            | cons c l =>
              have e1 : ¬ r1.toList = [] := by rw [toList_L, hq]; simp
              have e2 : r1.toList.isEmpty = false := by rw [toList_L, hq]; rfl
              rw [hq, List.length_cons] at hl1
              have hpos : (0 : Int) < (r1.size : Int) := by omega
              have hp0 : 0 < r1.size := by omega
              have hc0 : r1[0] = c := by rw [getElem_L r1 0 hp0]; simp [hq]
              by_cases h63 : c = 63
              · have b63 : ((r1[0].toNat : Int) == 63) = true := by rw [hc0, h63]; rfl
                have HS1 : Hid (slashF (L r1) = 47 :: L r1) := by rw [Hid, slashF, if_pos (.inr (by rw [hq, h63]; rfl))]
                clear hq hl1 hc0 h63
                go_wp2_with fail
                go_meet
                case rel => exact ⟨(⟨#[47]⟩ : ByteArray) ++ r1, u, b, rfl, rfl, by rw [Hid, HP3.out, HS1.out, HLA.out], HSM.out, by have := HAD.out; rw [ByteArray.size_append]; exact this, HU6.out, HR6.out, HB6.out⟩
              · have b63 : ((r1[0].toNat : Int) == 63) = false := by rw [hc0, beq_eq_false_iff_ne]; exact fun e => h63 ((u8_eq c 63).2 e)
                have HS1 : Hid (slashF (L r1) = L r1) := by rw [Hid, slashF, if_neg (by rw [hq]; simp; exact h63)]
                clear hq hl1 hc0 h63
                go_wp2_with fail
                go_meet
                case rel => exact ⟨r1, u, b, rfl, rfl, by rw [Hid, HP3.out, HS1.out], HSM.out, by omega, HU6.out, HR6.out, HB6.out⟩
      case rest =>
        obtain ⟨r, u, b, rfl, rfl, HPF, HSM, hrsz, HU3, HR3, HB3⟩ := hcut
        obtain ⟨w3, rfl⟩ : ∃ w3 : World, w3 = wc := ⟨_, rfl⟩
        have hg3 : Hid (Glob w3) := by
          have := HB3.out
          rw [← HXX.out] at this
          exact HG0.out.below this
        clear HU2 HR2 HB2 HG2 HI HP2 HC
        have HRL : Hid ((L r).length ≤ 100000) := by rw [Hid, ← size_L]; omega
        have u0 := HU3.out.cell 0
        have u1 := HU3.out.cell 1
        have u2 := HU3.out.cell 2
        have u3 := HU3.out.cell 3
        have u4 := HU3.out.cell 4
        have u5 := HU3.out.cell 5
        simp [uCells] at u0 u1 u2 u3 u4 u5
        go_wp2_with fail
        refine (path_calls r u (by omega) w3 hg3.out).mono ?_
        rintro e w4 ⟨rfl, hb4⟩
        have HU4 := Lib.hid (HU3.out.below hb4 HU3.out.lt)
        have HR4 := Lib.hid (HR3.out.below hb4 HR3.out.lt)
        have HB4 := Lib.hid (HB3.out.trans (hb4.mono (by have := HB3.out.size; rw [HXX.out] at this; exact this)))
        clear hb4 HU3 HR3 HB3 u0 u1 u2 u3 u4 u5
        have HSM2 := Lib.hid (pathF_small HRL.out HSM.out)
        have HFF : Hid (PF = if b = true ∧ uriOk (pathF (L r) u) = true then (pathF (L r) u, 0) else (uri0, 20)) := HPF
        generalize pathF (L r) u = v at *
        have u0 := HU4.out.cell 0
        have u1 := HU4.out.cell 1
        have u2 := HU4.out.cell 2
        have u3 := HU4.out.cell 3
        have u4 := HU4.out.cell 4
        have u5 := HU4.out.cell 5
        have f0 := HU4.out.frozen 0
        have f1 := HU4.out.frozen 1
        have f2 := HU4.out.frozen 2
        have f3 := HU4.out.frozen 3
        have f4 := HU4.out.frozen 4
        have f5 := HU4.out.frozen 5
        simp [uCells] at u0 u1 u2 u3 u4 u5
        simp only [UriD.val]
        go_upto_region 16 with (fail)
        have HU5 := Lib.hid (fill6_blk HU4.out v)
        have HR5 := Lib.hid (fill6_far HR4.out (show X ≠ X + 1 by omega) v)
        have HB5 := Lib.hid (fill6_below HB4.out (show X ≤ X + 1 by omega) v)
        clear u0 u1 u2 u3 u4 u5 f0 f1 f2 f3 f4 f5 HU4 HR4 HB4
        change Code.wp _ _ _ _ (fill6 w4 (X + 1) v)
        generalize fill6 w4 (X + 1) v = w5 at *
        have hg5 : Hid (Glob w5) := by
          have := HB5.out
          rw [← HXX.out] at this
          exact HG0.out.below this
        cases b with
        | false =>
          have HF2 : Hid (PF = (uri0, 20)) := by rw [Hid, HFF.out, if_neg (by simp)]
          have r0 := HR5.out.cell 0
          have r1 := HR5.out.cell 1
          have r2 := HR5.out.cell 2
          have r3 := HR5.out.cell 3
          have r4 := HR5.out.cell 4
          have r5 := HR5.out.cell 5
          simp [uCells] at r0 r1 r2 r3 r4 r5
          have f0 := HR5.out.frozen 0
          have f1 := HR5.out.frozen 1
          have f2 := HR5.out.frozen 2
          have f3 := HR5.out.frozen 3
          have f4 := HR5.out.frozen 4
          have f5 := HR5.out.frozen 5
          go_wp2_with fail
          have hb := fill6_blk HR5.out uri0
          have hl := fill6_below HB5.out (Nat.le_refl X) uri0
          change bodyPost _ _ _ _ _ (fill6 w5 X uri0)
          generalize fill6 w5 X uri0 = W at *
          refine bodyPost_ret (parse_results rfl rfl hb) rfl ⟨?_, by rw [HXX.out]; exact hl⟩
          rw [HF2.out]
          rfl
        | true =>
          have u0 := HU5.out.cell 0
          have u1 := HU5.out.cell 1
          have u2 := HU5.out.cell 2
          have u3 := HU5.out.cell 3
          have u4 := HU5.out.cell 4
          have u5 := HU5.out.cell 5
          simp [uCells] at u0 u1 u2 u3 u4 u5
          go_wp2_with fail
          refine (uright_calls v HSM2.out w5 hg5.out).mono ?_
          rintro e w6 ⟨rfl, hb6⟩
          have hu6 := HU5.out.below hb6 HU5.out.lt
          have hr6 := HR5.out.below hb6 HR5.out.lt
          have hb6' := HB5.out.trans (hb6.mono (by have := HB5.out.size; rw [HXX.out] at this; exact this))
          clear HU5 HR5 HB5 hb6 u0 u1 u2 u3 u4 u5
          have HU5 := Lib.hid hu6
          have HR5 := Lib.hid hr6
          have HB5 := Lib.hid hb6'
          clear hu6 hr6 hb6'
          cases hok : uriOk v with
          | false =>
            have HF2 : Hid (PF = (uri0, 20)) := by rw [Hid, HFF.out, if_neg (by rw [hok]; simp)]
            have r0 := HR5.out.cell 0
            have r1 := HR5.out.cell 1
            have r2 := HR5.out.cell 2
            have r3 := HR5.out.cell 3
            have r4 := HR5.out.cell 4
            have r5 := HR5.out.cell 5
            simp [uCells] at r0 r1 r2 r3 r4 r5
            have f0 := HR5.out.frozen 0
            have f1 := HR5.out.frozen 1
            have f2 := HR5.out.frozen 2
            have f3 := HR5.out.frozen 3
            have f4 := HR5.out.frozen 4
            have f5 := HR5.out.frozen 5
            go_wp2_with fail
            have hb := fill6_blk HR5.out uri0
            have hl := fill6_below HB5.out (Nat.le_refl X) uri0
            change bodyPost _ _ _ _ _ (fill6 w6 X uri0)
            generalize fill6 w6 X uri0 = W at *
            refine bodyPost_ret (parse_results rfl rfl hb) rfl ⟨?_, by rw [HXX.out]; exact hl⟩
            rw [HF2.out]
            rfl
          | true =>
            have HF2 : Hid (PF = (v, 0)) := by rw [Hid, HFF.out, if_pos (by simp [hok])]
            have u0 := HU5.out.cell 0
            have u1 := HU5.out.cell 1
            have u2 := HU5.out.cell 2
            have u3 := HU5.out.cell 3
            have u4 := HU5.out.cell 4
            have u5 := HU5.out.cell 5
            simp [uCells] at u0 u1 u2 u3 u4 u5
            have r0 := HR5.out.cell 0
            have r1 := HR5.out.cell 1
            have r2 := HR5.out.cell 2
            have r3 := HR5.out.cell 3
            have r4 := HR5.out.cell 4
            have r5 := HR5.out.cell 5
            simp [uCells] at r0 r1 r2 r3 r4 r5
            have f0 := HR5.out.frozen 0
            have f1 := HR5.out.frozen 1
            have f2 := HR5.out.frozen 2
            have f3 := HR5.out.frozen 3
            have f4 := HR5.out.frozen 4
            have f5 := HR5.out.frozen 5
            go_wp2_with fail
            have hb := fill6_blk HR5.out v
            have hl := fill6_below HB5.out (Nat.le_refl X) v
            change bodyPost _ _ _ _ _ (fill6 w6 X v)
            generalize fill6 w6 X v = W at *
            refine bodyPost_ret (parse_results rfl rfl hb) rfl ⟨?_, by rw [HXX.out]; exact hl⟩
            rw [HF2.out]
            rfl
end Go.Proofs.YtijpfcjlochahaaGreatDoor
