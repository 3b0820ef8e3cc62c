/- The walk of intarsiatop.TopMany. -/
import Derived.Test.YtijpfcjlochahaaGreatDoorTopN
import Derived.Test.YtijpfcjlochahaaGreatDoorRefO
set_option linter.unusedVariables false
set_option linter.unusedSimpArgs false
namespace Go.Proofs.YtijpfcjlochahaaGreatDoor
open Go Go.RowKit
set_option linter.unusedVariables false
set_option linter.unusedSimpArgs false

/-- A new result of this call's. -/
structure AtB (W wz : World) (A : Nat) : Prop where
  blk : Blk W A 31 (rCells res0)
  ge : wz.heap.size ≤ A
  lt : A < W.heap.size
theorem AtB.new {W wz : World} (h : wz.heap.size ≤ W.heap.size) : AtB (W.alloc (.cells (rCells res0) 31)) wz W.heap.size :=
  ⟨Blk.new W _ _, h, by rw [size_alloc]; omega⟩
theorem AtB.keep {W W' wz : World} {A : Nat} (h : AtB W wz A) (hb : Below W.heap.size W W') : AtB W' wz A :=
  ⟨h.blk.below hb h.lt, h.ge, Nat.lt_of_lt_of_le h.lt hb.size⟩
theorem fill4_far {W : World} {R g : Nat} {t : TypeId} {cs : Array Value} (h : Blk W g t cs) (hne : g ≠ R) (r : Res) : Blk (fill4 W R r) g t cs :=
  (((h.far (p := ⟨R, 0, none⟩) hne _).far (p := ⟨R, 1, none⟩) hne _).far (p := ⟨R, 2, none⟩) hne _).far (p := ⟨R, 3, none⟩) hne _
/-- A page's cells. -/
def PgS (P : Nat) (v : EnvD) (base body : List UInt8) (esi : Bool) (W : World) : Prop :=
  W.cell? ⟨P, 0, none⟩ = some (.string (bs v.e0)) ∧ W.cell? ⟨P, 1, none⟩ = some (.string (bs v.e1)) ∧ W.cell? ⟨P, 2, none⟩ = some (.string (bs v.e2)) ∧ W.cell? ⟨P, 3, none⟩ = some (.string (bs v.e3)) ∧ W.cell? ⟨P, 4, none⟩ = some (.string (bs v.e4)) ∧ W.cell? ⟨P, 5, none⟩ = some (.string (bs v.e5)) ∧
  W.cell? ⟨P, 6, none⟩ = some (.string (bs base)) ∧ W.cell? ⟨P, 7, none⟩ = some (.string (bs body)) ∧ W.cell? ⟨P, 8, none⟩ = some (.bool esi)
theorem pgS_of {W : World} {P : Nat} {v : EnvD} {base body : List UInt8} {esi : Bool} (h : Blk W P 25 (pgCells v base body esi)) : PgS P v base body esi W :=
  ⟨h.cell 0, h.cell 1, h.cell 2, h.cell 3, h.cell 4, h.cell 5, h.cell 6, h.cell 7, h.cell 8⟩
theorem clamp30 (many : Int) : ∃ n : Nat, n ≤ 30 ∧ min (max many 0) 30 = (n : Int) := ⟨(min (max many 0) 30).toNat, by omega, by omega⟩
set_option maxRecDepth 20000 in
set_option maxHeartbeats 8000000 in
theorem many_calls (v : EnvD) (b y : List UInt8) (q : Bool) (many : Int) (s : List UInt8) (w : World) (hg : Glob w) :
    Calls Tryz.prog 7 #[pageV v b y q, .int .i64 many, .string (bs s)] w fun e w' => e = .returned (.bool true) ∧ Below w.heap.size w w' := by
  have HFW := Lib.hid (fun W => tfew_calls v b y q W)
  have hBl : (b.take 300).length ≤ 100000 := by rw [List.length_take]; omega
  generalize b.take 300 = B at *
  generalize y.take 2000 = YB at *
  generalize cutEnv v = V at *
  have H19 := Lib.hid (fun W => right19_calls V B YB true hBl W)
  have HRN := Lib.hid (fun (hb : ParseOk B) D (hf : D.full = false) (hr : RepsOk V D) body hok hbl rv F W hg hrv => trun_calls V D B YB body true rv F hb hf hr hok hbl W hg hrv)
  have HBL := Lib.hid hBl
  clear hBl
  obtain ⟨n, hn30, hmm⟩ := clamp30 many
  obtain ⟨S, hS⟩ : ∃ S, S = s.take 100 := ⟨_, rfl⟩
  have hSl : S.length ≤ 100 := by rw [hS, List.length_take]; omega
  have hal : Below w.heap.size w (w.alloc (.cells (pgCells v b y q) 25)) := (Below.refl _ _).alloc (Nat.le_refl _) _
  have HX := Lib.hid (Blk.new w 25 (pgCells v b y q))
  have HB := Lib.hid hal
  have HG := Lib.hid (fun W (hb : Below w.heap.size w W) => hg.below hb)
  have HSS := Lib.hid hS
  have HMM := Lib.hid hmm
  clear hal hg hS hmm
  simp only [pageV] at *
  go_enter Tryz.func7, Tryz.ntmps7
  go_upto_region 1 with (fail)
  change Code.wp _ _ _ _ (w.alloc (.cells (pgCells v b y q) 25))
  generalize w.alloc (.cells (pgCells v b y q) 25) = w0 at *
  generalize hPP : w.heap.size = P at *
  have HPP := Lib.hid hPP
  clear hPP
  have HX : Hid (Blk w0 P 25 (pgCells v b y q)) := HX
  have x0 := HX.out.cell 0
  have x1 := HX.out.cell 1
  have x2 := HX.out.cell 2
  have x3 := HX.out.cell 3
  have x4 := HX.out.cell 4
  have x5 := HX.out.cell 5
  have x6 := HX.out.cell 6
  have x7 := HX.out.cell 7
  have x8 := HX.out.cell 8
  simp [pgCells] at x0 x1 x2 x3 x4 x5 x6 x7 x8
  go_wp2_with fail
  refine (HFW.out w0).mono ?_
  rintro e w1 ⟨rfl, hb1⟩
  clear x0 x1 x2 x3 x4 x5 x6 x7 x8
  have hx := HX.out.below hb1 HX.out.lt
  have hbb := HB.out.trans (hb1.mono (by have := HB.out.size; rw [HPP.out] at this; exact this))
  clear HX HB HFW hb1
  have HX := Lib.hid hx
  have HB := Lib.hid hbb
  clear hx hbb
  have x0 := HX.out.cell 0
  have x1 := HX.out.cell 1
  have x2 := HX.out.cell 2
  have x3 := HX.out.cell 3
  have x4 := HX.out.cell 4
  have x5 := HX.out.cell 5
  have x6 := HX.out.cell 6
  have x7 := HX.out.cell 7
  have x8 := HX.out.cell 8
  simp [pgCells] at x0 x1 x2 x3 x4 x5 x6 x7 x8
  have f0 := HX.out.frozen 0
  have f1 := HX.out.frozen 1
  have f2 := HX.out.frozen 2
  have f3 := HX.out.frozen 3
  have f4 := HX.out.frozen 4
  have f5 := HX.out.frozen 5
  have f6 := HX.out.frozen 6
  have f7 := HX.out.frozen 7
  have f8 := HX.out.frozen 8
  go_upto_region 2 with (fail)
  have hx := fillP_blk HX.out V B YB q
  have hbb := fillP_below HB.out (Nat.le_refl P) V B YB q
  change Code.wp _ _ _ _ (fillP w1 P V B YB q)
  generalize fillP w1 P V B YB q = w2 at *
  clear x0 x1 x2 x3 x4 x5 x6 x7 x8 f0 f1 f2 f3 f4 f5 f6 f7 f8 HX HB
  have HX := Lib.hid hx
  have HB := Lib.hid hbb
  clear hx hbb
  have x0 := HX.out.cell 0
  have x1 := HX.out.cell 1
  have x2 := HX.out.cell 2
  have x3 := HX.out.cell 3
  have x4 := HX.out.cell 4
  have x5 := HX.out.cell 5
  have x6 := HX.out.cell 6
  have x7 := HX.out.cell 7
  have x8 := HX.out.cell 8
  simp [pgCells] at x0 x1 x2 x3 x4 x5 x6 x7 x8
  have f0 := HX.out.frozen 0
  have f1 := HX.out.frozen 1
  have f2 := HX.out.frozen 2
  have f3 := HX.out.frozen 3
  have f4 := HX.out.frozen 4
  have f5 := HX.out.frozen 5
  have f6 := HX.out.frozen 6
  have f7 := HX.out.frozen 7
  have f8 := HX.out.frozen 8
  go_upto_region 3 with (fail)
  have hx : Blk (w2.setCell ⟨P, 8, none⟩ (.bool true)) P 25 (pgCells V B YB true) := HX.out.set_ 8 (.bool true)
  have hbb := HB.out.setCell (p := ⟨P, 8, none⟩) (Nat.le_refl P) (.bool true)
  change Code.wp _ _ _ _ (w2.setCell ⟨P, 8, none⟩ (.bool true))
  generalize w2.setCell ⟨P, 8, none⟩ (.bool true) = w3 at *
  clear x0 x1 x2 x3 x4 x5 x6 x7 x8 f0 f1 f2 f3 f4 f5 f6 f7 f8 HX HB
  have HX := Lib.hid hx
  have HB := Lib.hid hbb
  clear hx hbb
  have x0 := HX.out.cell 0
  have x1 := HX.out.cell 1
  have x2 := HX.out.cell 2
  have x3 := HX.out.cell 3
  have x4 := HX.out.cell 4
  have x5 := HX.out.cell 5
  have x6 := HX.out.cell 6
  have x7 := HX.out.cell 7
  have x8 := HX.out.cell 8
  simp [pgCells] at x0 x1 x2 x3 x4 x5 x6 x7 x8
  go_wp2_with fail
  refine (H19.out w3).mono ?_
  rintro e w4 ⟨rb, rfl, hrb, hb4⟩
  clear x0 x1 x2 x3 x4 x5 x6 x7 x8
  have hx := HX.out.below hb4 HX.out.lt
  have hbb := HB.out.trans (hb4.mono (by have := HB.out.size; rw [HPP.out] at this; exact this))
  clear HX HB H19 hb4
  have HX := Lib.hid hx
  have HB := Lib.hid hbb
  clear hx hbb
  have HG4 := Lib.hid (HG.out w4 HB.out)
  cases rb with
  | false =>
    clear hrb
    go_wp2_with fail
    refine (talive_calls w4 HG4.out).mono ?_
    rintro e w5 ⟨rfl, hb5⟩
    have hbb := HB.out.trans (hb5.mono (by have := HB.out.size; rw [HPP.out] at this; exact this))
    have HB := Lib.hid hbb
    clear hbb hb5
    go_wp2_with fail
    go_ret
    exact ⟨rfl, by first | exact HB.out | (rw [HPP.out]; exact HB.out)⟩
  | true =>
    have HRB := Lib.hid (hrb rfl)
    clear hrb
    go_wp2_with fail
    refine (talive_calls w4 HG4.out).mono ?_
    rintro e w5 ⟨rfl, hb5⟩
    have hx := HX.out.below hb5 HX.out.lt
    have hbb := HB.out.trans (hb5.mono (by have := HB.out.size; rw [HPP.out] at this; exact this))
    clear HX HB HG4 hb5
    have HX := Lib.hid hx
    have HB := Lib.hid hbb
    clear hx hbb
    obtain ⟨sn, hsn⟩ : ∃ sn, sn = min s.length 100 := ⟨_, rfl⟩
    have hsz : ((bs s).size : Int) = (s.length : Int) := by rw [size_bs]
    have hms : min (s.length : Int) 100 = (sn : Int) := by omega
    have hs0 : (0 : Int) ≤ (sn : Int) := by omega
    have hs1 : (sn : Int) ≤ (s.length : Int) := by omega
    have hx : (bs s).extract 0 sn = bs S := by rw [HSS.out]; exact take_cut s 100 sn hsn
    have hmm := HMM.out
    clear hsn
    go_upto_region 9 with (fail)
    clear hx hsz hms hs0 hs1 hmm HMM HSS
    have hal : Below w5.heap.size w5 (w5.alloc (.cells (repCells (manyRep S)) 41)) := (Below.refl _ _).alloc (Nat.le_refl _) _
    have hrv : GR (w5.alloc (.cells (repCells (manyRep S)) 41)) (fun _ => True) (.row 5 ((manyDep S).replies.map Rep.gv)) [.slice (some ⟨w5.heap.size, 0, none⟩) 1 1] :=
      gr_one_new (cs := [.string (bs (manyRep S).url), .int .i64 (manyRep S).code, .bool (manyRep S).esi, .string (bs (manyRep S).body), .int .i64 (manyRep S).bad]) (Blk.new w5 41 (repCells (manyRep S))) trivial (GR_agg.2 (GRa_cons.2 ⟨[_], _, rfl, GR_str.2 rfl, GRa_cons.2 ⟨[_], _, rfl, GR_int.2 rfl, GRa_cons.2 ⟨[_], _, rfl, GR_bool.2 rfl, GRa_cons.2 ⟨[_], _, rfl, GR_str.2 rfl, GRa_cons.2 ⟨[_], [], rfl, GR_int.2 rfl, GRa_nil.2 rfl⟩⟩⟩⟩⟩)) rfl
    have hx := HX.out.below hal HX.out.lt
    have hbb := HB.out.trans (hal.mono (by have := HB.out.size; rw [HPP.out] at this; exact this))
    change Code.wp _ _ _ _ (w5.alloc (.cells (repCells (manyRep S)) 41))
    generalize w5.alloc (.cells (repCells (manyRep S)) 41) = w6 at *
    generalize w5.heap.size = R at *
    clear hal HX HB
    have HX := Lib.hid hx
    have HB := Lib.hid hbb
    have HRV := Lib.hid hrv
    clear hx hbb hrv
    have hpo : ParseOk B := parseOk_ascii B HBL.out (parse_ascii HRB.out.1 HRB.out.2)
    have hre : RepsOk V (manyDep S) := fun r hr he => by
      have : r = manyRep S := by simpa [manyDep] using hr
      rw [this] at he
      cases he
    have hrun : ∀ bb, Hid (∀ u, Glob u → GR u (fun _ => True) (.row 5 ((manyDep S).replies.map Rep.gv)) [.slice (some ⟨R, 0, none⟩) 1 1] → _) := fun bb => Lib.hid (fun u hgu hru => HRN.out hpo (manyDep S) rfl hre (repS (incS bb) n) (fun _ => many_ok bb n (by omega)) (by
      rw [repS_length]
      have : (incS bb).length ≤ 60 := by cases bb <;> decide
      exact Nat.le_trans (Nat.mul_le_mul hn30 this) (by decide)) (.slice (some ⟨R, 0, none⟩) 1 1) (fun _ => True) u hgu hru)
    have HR1 := hrun false
    have HR2 := hrun true
    clear hrun hpo hre HRN
    rw [many_run HRB.out.1 HRB.out.2 hSl false n hn30] at HR1
    rw [many_run HRB.out.1 HRB.out.2 hSl true n hn30] at HR2
    clear HRB HBL
    rw [if_pos (Or.inr rfl)] at HR2
    obtain ⟨Zt, hZt⟩ : ∃ Zt, Zt = repS S (min n 20) := ⟨_, rfl⟩
    obtain ⟨st, er, hst, hr1⟩ : ∃ st er : Int, (n ≤ 20 ∧ st = 0 ∧ er = 0 ∨ 20 < n ∧ st = 2 ∧ er = 4) ∧ (if n ≤ 20 ∨ false = true then doneR (repS S (min n 20)) else failR (repS S 20) 4) = ⟨Zt, st, er, []⟩ := by
      by_cases h : n ≤ 20
      · exact ⟨0, 0, .inl ⟨h, rfl, rfl⟩, by rw [if_pos (Or.inl h), hZt]; rfl⟩
      · exact ⟨2, 4, .inr ⟨by omega, rfl, rfl⟩, by rw [if_neg (by simp; omega), hZt, show min n 20 = 20 by omega]; rfl⟩
    rw [hr1] at HR1
    rw [← hZt] at HR2
    clear hr1
    simp only [doneR, Res.val] at HR1 HR2
    have HZT := Lib.hid hZt
    have HST := Lib.hid hst
    clear hZt hst
    go_wp2_with fail
    go_loopw [8, 9, 10, 37] (fun h so wt i wr => ∃ (k : Nat) (X Y Z : List UInt8), k ≤ n ∧ h = .string (bs X) ∧ so = .string (bs Y) ∧ wt = .string (bs Z) ∧ i = .int .i64 k ∧ Hid (X = repS hardS k) ∧ Hid (Y = repS softS k) ∧ Hid (Z = repS S (min k 20)) ∧ w6 = wr)
      (fun h so wt i wr => n - (intOf i).toNat)
    case atStart => exact ⟨0, [], [], [], Nat.zero_le _, rfl, rfl, rfl, rfl, rfl, rfl, rfl, rfl⟩
    case round =>
      obtain ⟨k, X, Y, Z, hk, rfl, rfl, rfl, rfl, HXX, HYY, HZZ, hwr⟩ := hrel
      subst hwr
      have hXl : (bs X).size + 33 ≤ 100000 := by
        have : X.length = k * 33 := by rw [HXX.out, repS_length]; rfl
        rw [size_bs]; omega
      have hYl : (bs Y).size + 52 ≤ 100000 := by
        have : Y.length = k * 52 := by rw [HYY.out, repS_length]; rfl
        rw [size_bs]; omega
      have hZl : (bs Z).size + (bs S).size ≤ 100000 := by
        have h1 : Z.length = min k 20 * S.length := by rw [HZZ.out, repS_length]
        have h2 : min k 20 * S.length ≤ 20 * 100 := Nat.mul_le_mul (by omega) hSl
        rw [size_bs, size_bs]; omega
      by_cases hlt : k < n
      · have hki : (k : Int) < (n : Int) := by omega
        by_cases h20 : k < 20
        · have hk20 : (k : Int) < 20 := by omega
          go_wp2_with fail
          exact ⟨⟨k + 1, X ++ hardS, Y ++ softS, Z ++ S, hlt, congrArg Value.string (bs_append X hardS), congrArg Value.string (bs_append Y softS), by rw [bs_append], by go_num, by rw [Hid, HXX.out]; rfl, by rw [Hid, HYY.out]; rfl, by rw [Hid, HZZ.out, show min (k + 1) 20 = k + 1 by omega, show min k 20 = k by omega]; rfl, trivial⟩, by simp [intOf]; omega⟩
        · have hk20 : ¬ (k : Int) < 20 := by omega
          go_wp2_with fail
          exact ⟨⟨k + 1, X ++ hardS, Y ++ softS, Z, hlt, congrArg Value.string (bs_append X hardS), congrArg Value.string (bs_append Y softS), rfl, by go_num, by rw [Hid, HXX.out]; rfl, by rw [Hid, HYY.out]; rfl, by rw [Hid, HZZ.out, show min (k + 1) 20 = min k 20 by omega], trivial⟩, by simp [intOf]; omega⟩
      · have hki : ¬ (k : Int) < (n : Int) := by omega
        have hkn : k = n := by omega
        subst hkn
        rw [show repS (incS false) k = X from HXX.out.symm] at HR1
        rw [show repS (incS true) k = Y from HYY.out.symm] at HR2
        obtain rfl : Zt = Z := HZT.out.trans HZZ.out.symm
        clear HXX HYY HZZ HZT hXl hYl hZl
        have HGZ := Lib.hid (HG.out w6 HB.out)
        go_upto_region 17 with (fail)
        go_cut [12, 13] from 50 to 57 (fun p q wx => ∃ A C, p = .pointer (some ⟨A, 0, none⟩) ∧ q = .pointer (some ⟨C, 0, none⟩) ∧ Hid (Blk wx A 31 (rCells ⟨Zt, st, er, []⟩)) ∧ Hid (Blk wx C 31 (rCells ⟨Zt, 0, 0, []⟩)) ∧ Hid (Below w.heap.size w wx))
        case first =>
          refine wp_region_held (S := (PgS P V B YB true)) (by kernel_rfl) ?_
          change wpAnyH _ _ _ _ _ _ _ _ (World.drew _)
          have HB0 : Hid (Below w6.heap.size w6 w6.drew) := (Below.refl _ _).drew
          generalize w6.drew = u0 at *
          refine wpAnyH_take (i := 0) (v := ?_) rfl (by kernel_rfl) (by kernel_rfl) (by kernel_rfl) (fun _ _ _ h => h) (Or.inl ⟨by rfl, ?_⟩) (pgS_of (HX.out.below HB0.out HX.out.lt)) ?_
          rotate_left
          · (intro w_ hS_; obtain ⟨s0, s1, s2, s3, s4, s5, s6, s7, s8⟩ := hS_; go_simp; try with_reducible rfl)
          refine wpAnyH_take (i := 1) (v := ?_) rfl (by kernel_rfl) (by kernel_rfl) (by kernel_rfl) (fun _ _ _ h => h) (Or.inl ⟨by rfl, ?_⟩) (pgS_of (HX.out.below HB0.out HX.out.lt)) ?_
          rotate_left
          · (intro w_ hS_; obtain ⟨s0, s1, s2, s3, s4, s5, s6, s7, s8⟩ := hS_; go_simp; try with_reducible rfl)
          refine wpAnyH_take (i := 2) (v := ?_) rfl (by kernel_rfl) (by kernel_rfl) (by kernel_rfl) (fun _ _ _ h => h) (Or.inl ⟨by rfl, ?_⟩) (pgS_of (HX.out.below HB0.out HX.out.lt)) ?_
          rotate_left
          · (intro w_ hS_; obtain ⟨s0, s1, s2, s3, s4, s5, s6, s7, s8⟩ := hS_; go_simp; try with_reducible rfl)
          refine wpAnyH_take (i := 4) (v := ?_) rfl (by kernel_rfl) (by kernel_rfl) (by kernel_rfl) (fun _ _ _ h => h) (Or.inl ⟨by rfl, ?_⟩) (pgS_of (HX.out.below HB0.out HX.out.lt)) ?_
          rotate_left
          · (intro w_ hS_; obtain ⟨s0, s1, s2, s3, s4, s5, s6, s7, s8⟩ := hS_; go_simp; try with_reducible rfl)
          refine wpAnyH_take (i := 5) (v := ?_) rfl (by kernel_rfl) (by kernel_rfl) (by kernel_rfl) (fun _ _ _ h => h) (Or.inl ⟨by rfl, ?_⟩) (pgS_of (HX.out.below HB0.out HX.out.lt)) ?_
          rotate_left
          · (intro w_ hS_; obtain ⟨s0, s1, s2, s3, s4, s5, s6, s7, s8⟩ := hS_; go_simp; try with_reducible rfl)
          refine wpAnyH_take (i := 6) (v := ?_) rfl (by kernel_rfl) (by kernel_rfl) (by kernel_rfl) (fun _ _ _ h => h) (Or.inl ⟨by rfl, ?_⟩) (pgS_of (HX.out.below HB0.out HX.out.lt)) ?_
          rotate_left
          · (intro w_ hS_; obtain ⟨s0, s1, s2, s3, s4, s5, s6, s7, s8⟩ := hS_; go_simp; try with_reducible rfl)
          refine wpAnyH_ready (rs := [3, 8, 9]) (by kernel_rfl) (by simp) ?_
          refine AllReadyH.cons rfl (fun K_ hK_ => ?_) (AllReadyH.cons rfl (fun K_ hK_ => ?_) (AllReadyH.cons rfl (fun K_ hK_ => ?_) AllReadyH.nil))
          · go_simp
            refine (HR1.out u0 (HGZ.out.below HB0.out) (HRV.out.below HB0.out)).mono ?_
            rintro e u1 ⟨rfl, hbn⟩
            have HB1 := Lib.hid (HB0.out.trans (hbn.mono HB0.out.size))
            refine hK_.out _ _ (pgS_of (HX.out.below HB1.out HX.out.lt)) fun _ => ?_
            clear hK_ K_ hbn HB0
            refine wpAnyH_ready (rs := [7, 8, 9]) (by kernel_rfl) (by simp) ?_
            refine AllReadyH.cons rfl (fun K_ hK_ => ?_) (AllReadyH.cons rfl (fun K_ hK_ => ?_) (AllReadyH.cons rfl (fun K_ hK_ => ?_) AllReadyH.nil))
            · go_simp
              refine (HR2.out u1 (HGZ.out.below HB1.out) (HRV.out.below HB1.out)).mono ?_
              rintro e u2 ⟨rfl, hbn⟩
              have HB2 := Lib.hid (HB1.out.trans (hbn.mono HB1.out.size))
              refine hK_.out _ _ (pgS_of (HX.out.below HB2.out HX.out.lt)) fun _ => ?_
              clear hK_ K_ hbn HB1
              refine wpAnyH_ready (rs := [8, 9]) (by kernel_rfl) (by simp) ?_
              refine AllReadyH.cons rfl (fun K_ hK_ => ?_) (AllReadyH.cons rfl (fun K_ hK_ => ?_) AllReadyH.nil)
              · go_simp
                have hbn : Below u2.heap.size u2 (u2.alloc (.cells (rCells res0) 31)) := (Below.refl _ _).alloc (Nat.le_refl _) _
                have HB3 := Lib.hid (HB2.out.trans (hbn.mono HB2.out.size))
                have hA3 : AtB (u2.alloc (.cells (rCells res0) 31)) w6 u2.heap.size := AtB.new HB2.out.size
                refine hK_.out _ (u2.alloc (.cells (rCells res0) 31)) (pgS_of (HX.out.below HB3.out HX.out.lt)) fun _ => ?_
                clear hK_ K_ hbn
                generalize u2.alloc (.cells (rCells res0) 31) = u3 at *
                generalize u2.heap.size = A at *
                clear HB2
                refine wpAnyH_ready (rs := [9]) (by kernel_rfl) (by simp) ?_
                refine AllReadyH.cons rfl (fun K_ hK_ => ?_) AllReadyH.nil
                go_simp
                have hbn : Below u3.heap.size u3 (u3.alloc (.cells (rCells res0) 31)) := (Below.refl _ _).alloc (Nat.le_refl _) _
                have HB4 := Lib.hid (HB3.out.trans (hbn.mono HB3.out.size))
                have hC4 : AtB (u3.alloc (.cells (rCells res0) 31)) w6 u3.heap.size := AtB.new HB3.out.size
                have hA4 : AtB (u3.alloc (.cells (rCells res0) 31)) w6 A := hA3.keep hbn
                have HNE : Hid (u3.heap.size ≠ A) := (Nat.ne_of_gt hA3.lt)
                refine hK_.out _ (u3.alloc (.cells (rCells res0) 31)) (pgS_of (HX.out.below HB4.out HX.out.lt)) fun _ => ?_
                clear hK_ K_ hbn
                generalize u3.alloc (.cells (rCells res0) 31) = u4 at *
                generalize u3.heap.size = C at *
                clear HB3 hA3
                obtain ⟨hA, hA2, -⟩ := hA4
                obtain ⟨hC, hC2, -⟩ := hC4
                have HAC : Hid (C ≠ A) := by first | exact HNE | exact Ne.symm HNE
                have hb9 := HB4.out
                have hx9 := HX.out.below hb9 HX.out.lt
                clear HB4 HNE
                generalize u4 = u9 at *
                have a0 := hA.cell 0
                have a1 := hA.cell 1
                have a2 := hA.cell 2
                have a3 := hA.cell 3
                simp [rCells, res0] at a0 a1 a2 a3
                have fa0 := hA.frozen 0
                have fa1 := hA.frozen 1
                have fa2 := hA.frozen 2
                have fa3 := hA.frozen 3
                have HPA : Hid (P ≠ A) := by have := HX.out.lt; show P ≠ A; omega
                have HPC : Hid (P ≠ C) := by have := HX.out.lt; show P ≠ C; omega
                refine wpAnyH_ready (rs := [10]) (by kernel_rfl) (by simp) ?_
                refine AllReadyH.cons rfl (fun K_ hK_ => ?_) AllReadyH.nil
                go_simp
                change K_ _ (fill4 u9 A ⟨Zt, st, er, []⟩)
                have hA' := fill4_blk hA ⟨Zt, st, er, []⟩
                have hC' := fill4_far hC HAC.out ⟨Zt, st, er, []⟩
                have hx' := fill4_far hx9 HPA.out ⟨Zt, st, er, []⟩
                have hb' := fill4_below hb9 hA2 ⟨Zt, st, er, []⟩
                generalize fill4 u9 A ⟨Zt, st, er, []⟩ = u10 at *
                refine hK_.out _ _ (pgS_of hx') fun _ => ?_
                clear hK_ K_ a0 a1 a2 a3 fa0 fa1 fa2 fa3
                have a0 := hC'.cell 0
                have a1 := hC'.cell 1
                have a2 := hC'.cell 2
                have a3 := hC'.cell 3
                simp [rCells, res0] at a0 a1 a2 a3
                have fa0 := hC'.frozen 0
                have fa1 := hC'.frozen 1
                have fa2 := hC'.frozen 2
                have fa3 := hC'.frozen 3
                refine wpAnyH_ready (rs := [11]) (by kernel_rfl) (by simp) ?_
                refine AllReadyH.cons rfl (fun K_ hK_ => ?_) AllReadyH.nil
                go_simp
                change K_ _ (fill4 u10 C ⟨Zt, 0, 0, []⟩)
                have hA'' := fill4_far hA' (Ne.symm HAC.out) ⟨Zt, 0, 0, []⟩
                have hC'' := fill4_blk hC' ⟨Zt, 0, 0, []⟩
                have hx'' := fill4_far hx' HPC.out ⟨Zt, 0, 0, []⟩
                have hb'' := fill4_below hb' hC2 ⟨Zt, 0, 0, []⟩
                generalize fill4 u10 C ⟨Zt, 0, 0, []⟩ = u11 at *
                refine hK_.out _ _ (pgS_of hx'') fun _ => ?_
                clear hK_ K_ a0 a1 a2 a3 fa0 fa1 fa2 fa3
                have HA := Lib.hid hA''
                have HC := Lib.hid hC''
                have HB3 := Lib.hid (HB.out.trans (hb''.mono (by have := HB.out.size; rw [HPP.out] at this; exact this)))
                clear hA hC hx9 hb9 hA' hC' hx' hb' hA'' hC'' hx'' hb''
                refine wpAnyH_done (by kernel_rfl) ?_ _
                go_wp2_with fail
                go_meet
                case rel => exact ⟨A, C, rfl, rfl, HA, HC, by first | exact HB3 | (rw [HPP.out]; exact HB3)⟩
              · go_simp
                have hbn : Below u2.heap.size u2 (u2.alloc (.cells (rCells res0) 31)) := (Below.refl _ _).alloc (Nat.le_refl _) _
                have HB3 := Lib.hid (HB2.out.trans (hbn.mono HB2.out.size))
                have hC3 : AtB (u2.alloc (.cells (rCells res0) 31)) w6 u2.heap.size := AtB.new HB2.out.size
                refine hK_.out _ (u2.alloc (.cells (rCells res0) 31)) (pgS_of (HX.out.below HB3.out HX.out.lt)) fun _ => ?_
                clear hK_ K_ hbn
                generalize u2.alloc (.cells (rCells res0) 31) = u3 at *
                generalize u2.heap.size = C at *
                clear HB2
                refine wpAnyH_ready (rs := [8]) (by kernel_rfl) (by simp) ?_
                refine AllReadyH.cons rfl (fun K_ hK_ => ?_) AllReadyH.nil
                go_simp
                have hbn : Below u3.heap.size u3 (u3.alloc (.cells (rCells res0) 31)) := (Below.refl _ _).alloc (Nat.le_refl _) _
                have HB4 := Lib.hid (HB3.out.trans (hbn.mono HB3.out.size))
                have hA4 : AtB (u3.alloc (.cells (rCells res0) 31)) w6 u3.heap.size := AtB.new HB3.out.size
                have hC4 : AtB (u3.alloc (.cells (rCells res0) 31)) w6 C := hC3.keep hbn
                have HNE : Hid (u3.heap.size ≠ C) := (Nat.ne_of_gt hC3.lt)
                refine hK_.out _ (u3.alloc (.cells (rCells res0) 31)) (pgS_of (HX.out.below HB4.out HX.out.lt)) fun _ => ?_
                clear hK_ K_ hbn
                generalize u3.alloc (.cells (rCells res0) 31) = u4 at *
                generalize u3.heap.size = A at *
                clear HB3 hC3
                obtain ⟨hA, hA2, -⟩ := hA4
                obtain ⟨hC, hC2, -⟩ := hC4
                have HAC : Hid (C ≠ A) := by first | exact HNE | exact Ne.symm HNE
                have hb9 := HB4.out
                have hx9 := HX.out.below hb9 HX.out.lt
                clear HB4 HNE
                generalize u4 = u9 at *
                have a0 := hA.cell 0
                have a1 := hA.cell 1
                have a2 := hA.cell 2
                have a3 := hA.cell 3
                simp [rCells, res0] at a0 a1 a2 a3
                have fa0 := hA.frozen 0
                have fa1 := hA.frozen 1
                have fa2 := hA.frozen 2
                have fa3 := hA.frozen 3
                have HPA : Hid (P ≠ A) := by have := HX.out.lt; show P ≠ A; omega
                have HPC : Hid (P ≠ C) := by have := HX.out.lt; show P ≠ C; omega
                refine wpAnyH_ready (rs := [10]) (by kernel_rfl) (by simp) ?_
                refine AllReadyH.cons rfl (fun K_ hK_ => ?_) AllReadyH.nil
                go_simp
                change K_ _ (fill4 u9 A ⟨Zt, st, er, []⟩)
                have hA' := fill4_blk hA ⟨Zt, st, er, []⟩
                have hC' := fill4_far hC HAC.out ⟨Zt, st, er, []⟩
                have hx' := fill4_far hx9 HPA.out ⟨Zt, st, er, []⟩
                have hb' := fill4_below hb9 hA2 ⟨Zt, st, er, []⟩
                generalize fill4 u9 A ⟨Zt, st, er, []⟩ = u10 at *
                refine hK_.out _ _ (pgS_of hx') fun _ => ?_
                clear hK_ K_ a0 a1 a2 a3 fa0 fa1 fa2 fa3
                have a0 := hC'.cell 0
                have a1 := hC'.cell 1
                have a2 := hC'.cell 2
                have a3 := hC'.cell 3
                simp [rCells, res0] at a0 a1 a2 a3
                have fa0 := hC'.frozen 0
                have fa1 := hC'.frozen 1
                have fa2 := hC'.frozen 2
                have fa3 := hC'.frozen 3
                refine wpAnyH_ready (rs := [11]) (by kernel_rfl) (by simp) ?_
                refine AllReadyH.cons rfl (fun K_ hK_ => ?_) AllReadyH.nil
                go_simp
                change K_ _ (fill4 u10 C ⟨Zt, 0, 0, []⟩)
                have hA'' := fill4_far hA' (Ne.symm HAC.out) ⟨Zt, 0, 0, []⟩
                have hC'' := fill4_blk hC' ⟨Zt, 0, 0, []⟩
                have hx'' := fill4_far hx' HPC.out ⟨Zt, 0, 0, []⟩
                have hb'' := fill4_below hb' hC2 ⟨Zt, 0, 0, []⟩
                generalize fill4 u10 C ⟨Zt, 0, 0, []⟩ = u11 at *
                refine hK_.out _ _ (pgS_of hx'') fun _ => ?_
                clear hK_ K_ a0 a1 a2 a3 fa0 fa1 fa2 fa3
                have HA := Lib.hid hA''
                have HC := Lib.hid hC''
                have HB3 := Lib.hid (HB.out.trans (hb''.mono (by have := HB.out.size; rw [HPP.out] at this; exact this)))
                clear hA hC hx9 hb9 hA' hC' hx' hb' hA'' hC'' hx'' hb''
                refine wpAnyH_done (by kernel_rfl) ?_ _
                go_wp2_with fail
                go_meet
                case rel => exact ⟨A, C, rfl, rfl, HA, HC, by first | exact HB3 | (rw [HPP.out]; exact HB3)⟩
            · go_simp
              have hbn : Below u1.heap.size u1 (u1.alloc (.cells (rCells res0) 31)) := (Below.refl _ _).alloc (Nat.le_refl _) _
              have HB2 := Lib.hid (HB1.out.trans (hbn.mono HB1.out.size))
              have hA2 : AtB (u1.alloc (.cells (rCells res0) 31)) w6 u1.heap.size := AtB.new HB1.out.size
              refine hK_.out _ (u1.alloc (.cells (rCells res0) 31)) (pgS_of (HX.out.below HB2.out HX.out.lt)) fun _ => ?_
              clear hK_ K_ hbn
              generalize u1.alloc (.cells (rCells res0) 31) = u2 at *
              generalize u1.heap.size = A at *
              clear HB1
              refine wpAnyH_ready (rs := [7, 9]) (by kernel_rfl) (by simp) ?_
              refine AllReadyH.cons rfl (fun K_ hK_ => ?_) (AllReadyH.cons rfl (fun K_ hK_ => ?_) AllReadyH.nil)
              · go_simp
                refine (HR2.out u2 (HGZ.out.below HB2.out) (HRV.out.below HB2.out)).mono ?_
                rintro e u3 ⟨rfl, hbn⟩
                have HB3 := Lib.hid (HB2.out.trans (hbn.mono HB2.out.size))
                have hA3 : AtB u3 w6 A := hA2.keep hbn
                refine hK_.out _ _ (pgS_of (HX.out.below HB3.out HX.out.lt)) fun _ => ?_
                clear hK_ K_ hbn HB2 hA2
                refine wpAnyH_ready (rs := [9]) (by kernel_rfl) (by simp) ?_
                refine AllReadyH.cons rfl (fun K_ hK_ => ?_) AllReadyH.nil
                go_simp
                have hbn : Below u3.heap.size u3 (u3.alloc (.cells (rCells res0) 31)) := (Below.refl _ _).alloc (Nat.le_refl _) _
                have HB4 := Lib.hid (HB3.out.trans (hbn.mono HB3.out.size))
                have hC4 : AtB (u3.alloc (.cells (rCells res0) 31)) w6 u3.heap.size := AtB.new HB3.out.size
                have hA4 : AtB (u3.alloc (.cells (rCells res0) 31)) w6 A := hA3.keep hbn
                have HNE : Hid (u3.heap.size ≠ A) := (Nat.ne_of_gt hA3.lt)
                refine hK_.out _ (u3.alloc (.cells (rCells res0) 31)) (pgS_of (HX.out.below HB4.out HX.out.lt)) fun _ => ?_
                clear hK_ K_ hbn
                generalize u3.alloc (.cells (rCells res0) 31) = u4 at *
                generalize u3.heap.size = C at *
                clear HB3 hA3
                obtain ⟨hA, hA2, -⟩ := hA4
                obtain ⟨hC, hC2, -⟩ := hC4
                have HAC : Hid (C ≠ A) := by first | exact HNE | exact Ne.symm HNE
                have hb9 := HB4.out
                have hx9 := HX.out.below hb9 HX.out.lt
                clear HB4 HNE
                generalize u4 = u9 at *
                have a0 := hA.cell 0
                have a1 := hA.cell 1
                have a2 := hA.cell 2
                have a3 := hA.cell 3
                simp [rCells, res0] at a0 a1 a2 a3
                have fa0 := hA.frozen 0
                have fa1 := hA.frozen 1
                have fa2 := hA.frozen 2
                have fa3 := hA.frozen 3
                have HPA : Hid (P ≠ A) := by have := HX.out.lt; show P ≠ A; omega
                have HPC : Hid (P ≠ C) := by have := HX.out.lt; show P ≠ C; omega
                refine wpAnyH_ready (rs := [10]) (by kernel_rfl) (by simp) ?_
                refine AllReadyH.cons rfl (fun K_ hK_ => ?_) AllReadyH.nil
                go_simp
                change K_ _ (fill4 u9 A ⟨Zt, st, er, []⟩)
                have hA' := fill4_blk hA ⟨Zt, st, er, []⟩
                have hC' := fill4_far hC HAC.out ⟨Zt, st, er, []⟩
                have hx' := fill4_far hx9 HPA.out ⟨Zt, st, er, []⟩
                have hb' := fill4_below hb9 hA2 ⟨Zt, st, er, []⟩
                generalize fill4 u9 A ⟨Zt, st, er, []⟩ = u10 at *
                refine hK_.out _ _ (pgS_of hx') fun _ => ?_
                clear hK_ K_ a0 a1 a2 a3 fa0 fa1 fa2 fa3
                have a0 := hC'.cell 0
                have a1 := hC'.cell 1
                have a2 := hC'.cell 2
                have a3 := hC'.cell 3
                simp [rCells, res0] at a0 a1 a2 a3
                have fa0 := hC'.frozen 0
                have fa1 := hC'.frozen 1
                have fa2 := hC'.frozen 2
                have fa3 := hC'.frozen 3
                refine wpAnyH_ready (rs := [11]) (by kernel_rfl) (by simp) ?_
                refine AllReadyH.cons rfl (fun K_ hK_ => ?_) AllReadyH.nil
                go_simp
                change K_ _ (fill4 u10 C ⟨Zt, 0, 0, []⟩)
                have hA'' := fill4_far hA' (Ne.symm HAC.out) ⟨Zt, 0, 0, []⟩
                have hC'' := fill4_blk hC' ⟨Zt, 0, 0, []⟩
                have hx'' := fill4_far hx' HPC.out ⟨Zt, 0, 0, []⟩
                have hb'' := fill4_below hb' hC2 ⟨Zt, 0, 0, []⟩
                generalize fill4 u10 C ⟨Zt, 0, 0, []⟩ = u11 at *
                refine hK_.out _ _ (pgS_of hx'') fun _ => ?_
                clear hK_ K_ a0 a1 a2 a3 fa0 fa1 fa2 fa3
                have HA := Lib.hid hA''
                have HC := Lib.hid hC''
                have HB3 := Lib.hid (HB.out.trans (hb''.mono (by have := HB.out.size; rw [HPP.out] at this; exact this)))
                clear hA hC hx9 hb9 hA' hC' hx' hb' hA'' hC'' hx'' hb''
                refine wpAnyH_done (by kernel_rfl) ?_ _
                go_wp2_with fail
                go_meet
                case rel => exact ⟨A, C, rfl, rfl, HA, HC, by first | exact HB3 | (rw [HPP.out]; exact HB3)⟩
              · go_simp
                have hbn : Below u2.heap.size u2 (u2.alloc (.cells (rCells res0) 31)) := (Below.refl _ _).alloc (Nat.le_refl _) _
                have HB3 := Lib.hid (HB2.out.trans (hbn.mono HB2.out.size))
                have hC3 : AtB (u2.alloc (.cells (rCells res0) 31)) w6 u2.heap.size := AtB.new HB2.out.size
                have hA3 : AtB (u2.alloc (.cells (rCells res0) 31)) w6 A := hA2.keep hbn
                have HNE : Hid (u2.heap.size ≠ A) := (Nat.ne_of_gt hA2.lt)
                refine hK_.out _ (u2.alloc (.cells (rCells res0) 31)) (pgS_of (HX.out.below HB3.out HX.out.lt)) fun _ => ?_
                clear hK_ K_ hbn
                generalize u2.alloc (.cells (rCells res0) 31) = u3 at *
                generalize u2.heap.size = C at *
                clear HB2 hA2
                refine wpAnyH_ready (rs := [7]) (by kernel_rfl) (by simp) ?_
                refine AllReadyH.cons rfl (fun K_ hK_ => ?_) AllReadyH.nil
                go_simp
                refine (HR2.out u3 (HGZ.out.below HB3.out) (HRV.out.below HB3.out)).mono ?_
                rintro e u4 ⟨rfl, hbn⟩
                have HB4 := Lib.hid (HB3.out.trans (hbn.mono HB3.out.size))
                have hA4 : AtB u4 w6 A := hA3.keep hbn
                have hC4 : AtB u4 w6 C := hC3.keep hbn
                refine hK_.out _ _ (pgS_of (HX.out.below HB4.out HX.out.lt)) fun _ => ?_
                clear hK_ K_ hbn HB3 hA3 hC3
                obtain ⟨hA, hA2, -⟩ := hA4
                obtain ⟨hC, hC2, -⟩ := hC4
                have HAC : Hid (C ≠ A) := by first | exact HNE | exact Ne.symm HNE
                have hb9 := HB4.out
                have hx9 := HX.out.below hb9 HX.out.lt
                clear HB4 HNE
                generalize u4 = u9 at *
                have a0 := hA.cell 0
                have a1 := hA.cell 1
                have a2 := hA.cell 2
                have a3 := hA.cell 3
                simp [rCells, res0] at a0 a1 a2 a3
                have fa0 := hA.frozen 0
                have fa1 := hA.frozen 1
                have fa2 := hA.frozen 2
                have fa3 := hA.frozen 3
                have HPA : Hid (P ≠ A) := by have := HX.out.lt; show P ≠ A; omega
                have HPC : Hid (P ≠ C) := by have := HX.out.lt; show P ≠ C; omega
                refine wpAnyH_ready (rs := [10]) (by kernel_rfl) (by simp) ?_
                refine AllReadyH.cons rfl (fun K_ hK_ => ?_) AllReadyH.nil
                go_simp
                change K_ _ (fill4 u9 A ⟨Zt, st, er, []⟩)
                have hA' := fill4_blk hA ⟨Zt, st, er, []⟩
                have hC' := fill4_far hC HAC.out ⟨Zt, st, er, []⟩
                have hx' := fill4_far hx9 HPA.out ⟨Zt, st, er, []⟩
                have hb' := fill4_below hb9 hA2 ⟨Zt, st, er, []⟩
                generalize fill4 u9 A ⟨Zt, st, er, []⟩ = u10 at *
                refine hK_.out _ _ (pgS_of hx') fun _ => ?_
                clear hK_ K_ a0 a1 a2 a3 fa0 fa1 fa2 fa3
                have a0 := hC'.cell 0
                have a1 := hC'.cell 1
                have a2 := hC'.cell 2
                have a3 := hC'.cell 3
                simp [rCells, res0] at a0 a1 a2 a3
                have fa0 := hC'.frozen 0
                have fa1 := hC'.frozen 1
                have fa2 := hC'.frozen 2
                have fa3 := hC'.frozen 3
                refine wpAnyH_ready (rs := [11]) (by kernel_rfl) (by simp) ?_
                refine AllReadyH.cons rfl (fun K_ hK_ => ?_) AllReadyH.nil
                go_simp
                change K_ _ (fill4 u10 C ⟨Zt, 0, 0, []⟩)
                have hA'' := fill4_far hA' (Ne.symm HAC.out) ⟨Zt, 0, 0, []⟩
                have hC'' := fill4_blk hC' ⟨Zt, 0, 0, []⟩
                have hx'' := fill4_far hx' HPC.out ⟨Zt, 0, 0, []⟩
                have hb'' := fill4_below hb' hC2 ⟨Zt, 0, 0, []⟩
                generalize fill4 u10 C ⟨Zt, 0, 0, []⟩ = u11 at *
                refine hK_.out _ _ (pgS_of hx'') fun _ => ?_
                clear hK_ K_ a0 a1 a2 a3 fa0 fa1 fa2 fa3
                have HA := Lib.hid hA''
                have HC := Lib.hid hC''
                have HB3 := Lib.hid (HB.out.trans (hb''.mono (by have := HB.out.size; rw [HPP.out] at this; exact this)))
                clear hA hC hx9 hb9 hA' hC' hx' hb' hA'' hC'' hx'' hb''
                refine wpAnyH_done (by kernel_rfl) ?_ _
                go_wp2_with fail
                go_meet
                case rel => exact ⟨A, C, rfl, rfl, HA, HC, by first | exact HB3 | (rw [HPP.out]; exact HB3)⟩
            · go_simp
              have hbn : Below u1.heap.size u1 (u1.alloc (.cells (rCells res0) 31)) := (Below.refl _ _).alloc (Nat.le_refl _) _
              have HB2 := Lib.hid (HB1.out.trans (hbn.mono HB1.out.size))
              have hC2 : AtB (u1.alloc (.cells (rCells res0) 31)) w6 u1.heap.size := AtB.new HB1.out.size
              refine hK_.out _ (u1.alloc (.cells (rCells res0) 31)) (pgS_of (HX.out.below HB2.out HX.out.lt)) fun _ => ?_
              clear hK_ K_ hbn
              generalize u1.alloc (.cells (rCells res0) 31) = u2 at *
              generalize u1.heap.size = C at *
              clear HB1
              refine wpAnyH_ready (rs := [7, 8]) (by kernel_rfl) (by simp) ?_
              refine AllReadyH.cons rfl (fun K_ hK_ => ?_) (AllReadyH.cons rfl (fun K_ hK_ => ?_) AllReadyH.nil)
              · go_simp
                refine (HR2.out u2 (HGZ.out.below HB2.out) (HRV.out.below HB2.out)).mono ?_
                rintro e u3 ⟨rfl, hbn⟩
                have HB3 := Lib.hid (HB2.out.trans (hbn.mono HB2.out.size))
                have hC3 : AtB u3 w6 C := hC2.keep hbn
                refine hK_.out _ _ (pgS_of (HX.out.below HB3.out HX.out.lt)) fun _ => ?_
                clear hK_ K_ hbn HB2 hC2
                refine wpAnyH_ready (rs := [8]) (by kernel_rfl) (by simp) ?_
                refine AllReadyH.cons rfl (fun K_ hK_ => ?_) AllReadyH.nil
                go_simp
                have hbn : Below u3.heap.size u3 (u3.alloc (.cells (rCells res0) 31)) := (Below.refl _ _).alloc (Nat.le_refl _) _
                have HB4 := Lib.hid (HB3.out.trans (hbn.mono HB3.out.size))
                have hA4 : AtB (u3.alloc (.cells (rCells res0) 31)) w6 u3.heap.size := AtB.new HB3.out.size
                have hC4 : AtB (u3.alloc (.cells (rCells res0) 31)) w6 C := hC3.keep hbn
                have HNE : Hid (u3.heap.size ≠ C) := (Nat.ne_of_gt hC3.lt)
                refine hK_.out _ (u3.alloc (.cells (rCells res0) 31)) (pgS_of (HX.out.below HB4.out HX.out.lt)) fun _ => ?_
                clear hK_ K_ hbn
                generalize u3.alloc (.cells (rCells res0) 31) = u4 at *
                generalize u3.heap.size = A at *
                clear HB3 hC3
                obtain ⟨hA, hA2, -⟩ := hA4
                obtain ⟨hC, hC2, -⟩ := hC4
                have HAC : Hid (C ≠ A) := by first | exact HNE | exact Ne.symm HNE
                have hb9 := HB4.out
                have hx9 := HX.out.below hb9 HX.out.lt
                clear HB4 HNE
                generalize u4 = u9 at *
                have a0 := hA.cell 0
                have a1 := hA.cell 1
                have a2 := hA.cell 2
                have a3 := hA.cell 3
                simp [rCells, res0] at a0 a1 a2 a3
                have fa0 := hA.frozen 0
                have fa1 := hA.frozen 1
                have fa2 := hA.frozen 2
                have fa3 := hA.frozen 3
                have HPA : Hid (P ≠ A) := by have := HX.out.lt; show P ≠ A; omega
                have HPC : Hid (P ≠ C) := by have := HX.out.lt; show P ≠ C; omega
                refine wpAnyH_ready (rs := [10]) (by kernel_rfl) (by simp) ?_
                refine AllReadyH.cons rfl (fun K_ hK_ => ?_) AllReadyH.nil
                go_simp
                change K_ _ (fill4 u9 A ⟨Zt, st, er, []⟩)
                have hA' := fill4_blk hA ⟨Zt, st, er, []⟩
                have hC' := fill4_far hC HAC.out ⟨Zt, st, er, []⟩
                have hx' := fill4_far hx9 HPA.out ⟨Zt, st, er, []⟩
                have hb' := fill4_below hb9 hA2 ⟨Zt, st, er, []⟩
                generalize fill4 u9 A ⟨Zt, st, er, []⟩ = u10 at *
                refine hK_.out _ _ (pgS_of hx') fun _ => ?_
                clear hK_ K_ a0 a1 a2 a3 fa0 fa1 fa2 fa3
                have a0 := hC'.cell 0
                have a1 := hC'.cell 1
                have a2 := hC'.cell 2
                have a3 := hC'.cell 3
                simp [rCells, res0] at a0 a1 a2 a3
                have fa0 := hC'.frozen 0
                have fa1 := hC'.frozen 1
                have fa2 := hC'.frozen 2
                have fa3 := hC'.frozen 3
                refine wpAnyH_ready (rs := [11]) (by kernel_rfl) (by simp) ?_
                refine AllReadyH.cons rfl (fun K_ hK_ => ?_) AllReadyH.nil
                go_simp
                change K_ _ (fill4 u10 C ⟨Zt, 0, 0, []⟩)
                have hA'' := fill4_far hA' (Ne.symm HAC.out) ⟨Zt, 0, 0, []⟩
                have hC'' := fill4_blk hC' ⟨Zt, 0, 0, []⟩
                have hx'' := fill4_far hx' HPC.out ⟨Zt, 0, 0, []⟩
                have hb'' := fill4_below hb' hC2 ⟨Zt, 0, 0, []⟩
                generalize fill4 u10 C ⟨Zt, 0, 0, []⟩ = u11 at *
                refine hK_.out _ _ (pgS_of hx'') fun _ => ?_
                clear hK_ K_ a0 a1 a2 a3 fa0 fa1 fa2 fa3
                have HA := Lib.hid hA''
                have HC := Lib.hid hC''
                have HB3 := Lib.hid (HB.out.trans (hb''.mono (by have := HB.out.size; rw [HPP.out] at this; exact this)))
                clear hA hC hx9 hb9 hA' hC' hx' hb' hA'' hC'' hx'' hb''
                refine wpAnyH_done (by kernel_rfl) ?_ _
                go_wp2_with fail
                go_meet
                case rel => exact ⟨A, C, rfl, rfl, HA, HC, by first | exact HB3 | (rw [HPP.out]; exact HB3)⟩
              · go_simp
                have hbn : Below u2.heap.size u2 (u2.alloc (.cells (rCells res0) 31)) := (Below.refl _ _).alloc (Nat.le_refl _) _
                have HB3 := Lib.hid (HB2.out.trans (hbn.mono HB2.out.size))
                have hA3 : AtB (u2.alloc (.cells (rCells res0) 31)) w6 u2.heap.size := AtB.new HB2.out.size
                have hC3 : AtB (u2.alloc (.cells (rCells res0) 31)) w6 C := hC2.keep hbn
                have HNE : Hid (u2.heap.size ≠ C) := (Nat.ne_of_gt hC2.lt)
                refine hK_.out _ (u2.alloc (.cells (rCells res0) 31)) (pgS_of (HX.out.below HB3.out HX.out.lt)) fun _ => ?_
                clear hK_ K_ hbn
                generalize u2.alloc (.cells (rCells res0) 31) = u3 at *
                generalize u2.heap.size = A at *
                clear HB2 hC2
                refine wpAnyH_ready (rs := [7]) (by kernel_rfl) (by simp) ?_
                refine AllReadyH.cons rfl (fun K_ hK_ => ?_) AllReadyH.nil
                go_simp
                refine (HR2.out u3 (HGZ.out.below HB3.out) (HRV.out.below HB3.out)).mono ?_
                rintro e u4 ⟨rfl, hbn⟩
                have HB4 := Lib.hid (HB3.out.trans (hbn.mono HB3.out.size))
                have hA4 : AtB u4 w6 A := hA3.keep hbn
                have hC4 : AtB u4 w6 C := hC3.keep hbn
                refine hK_.out _ _ (pgS_of (HX.out.below HB4.out HX.out.lt)) fun _ => ?_
                clear hK_ K_ hbn HB3 hA3 hC3
                obtain ⟨hA, hA2, -⟩ := hA4
                obtain ⟨hC, hC2, -⟩ := hC4
                have HAC : Hid (C ≠ A) := by first | exact HNE | exact Ne.symm HNE
                have hb9 := HB4.out
                have hx9 := HX.out.below hb9 HX.out.lt
                clear HB4 HNE
                generalize u4 = u9 at *
                have a0 := hA.cell 0
                have a1 := hA.cell 1
                have a2 := hA.cell 2
                have a3 := hA.cell 3
                simp [rCells, res0] at a0 a1 a2 a3
                have fa0 := hA.frozen 0
                have fa1 := hA.frozen 1
                have fa2 := hA.frozen 2
                have fa3 := hA.frozen 3
                have HPA : Hid (P ≠ A) := by have := HX.out.lt; show P ≠ A; omega
                have HPC : Hid (P ≠ C) := by have := HX.out.lt; show P ≠ C; omega
                refine wpAnyH_ready (rs := [10]) (by kernel_rfl) (by simp) ?_
                refine AllReadyH.cons rfl (fun K_ hK_ => ?_) AllReadyH.nil
                go_simp
                change K_ _ (fill4 u9 A ⟨Zt, st, er, []⟩)
                have hA' := fill4_blk hA ⟨Zt, st, er, []⟩
                have hC' := fill4_far hC HAC.out ⟨Zt, st, er, []⟩
                have hx' := fill4_far hx9 HPA.out ⟨Zt, st, er, []⟩
                have hb' := fill4_below hb9 hA2 ⟨Zt, st, er, []⟩
                generalize fill4 u9 A ⟨Zt, st, er, []⟩ = u10 at *
                refine hK_.out _ _ (pgS_of hx') fun _ => ?_
                clear hK_ K_ a0 a1 a2 a3 fa0 fa1 fa2 fa3
                have a0 := hC'.cell 0
                have a1 := hC'.cell 1
                have a2 := hC'.cell 2
                have a3 := hC'.cell 3
                simp [rCells, res0] at a0 a1 a2 a3
                have fa0 := hC'.frozen 0
                have fa1 := hC'.frozen 1
                have fa2 := hC'.frozen 2
                have fa3 := hC'.frozen 3
                refine wpAnyH_ready (rs := [11]) (by kernel_rfl) (by simp) ?_
                refine AllReadyH.cons rfl (fun K_ hK_ => ?_) AllReadyH.nil
                go_simp
                change K_ _ (fill4 u10 C ⟨Zt, 0, 0, []⟩)
                have hA'' := fill4_far hA' (Ne.symm HAC.out) ⟨Zt, 0, 0, []⟩
                have hC'' := fill4_blk hC' ⟨Zt, 0, 0, []⟩
                have hx'' := fill4_far hx' HPC.out ⟨Zt, 0, 0, []⟩
                have hb'' := fill4_below hb' hC2 ⟨Zt, 0, 0, []⟩
                generalize fill4 u10 C ⟨Zt, 0, 0, []⟩ = u11 at *
                refine hK_.out _ _ (pgS_of hx'') fun _ => ?_
                clear hK_ K_ a0 a1 a2 a3 fa0 fa1 fa2 fa3
                have HA := Lib.hid hA''
                have HC := Lib.hid hC''
                have HB3 := Lib.hid (HB.out.trans (hb''.mono (by have := HB.out.size; rw [HPP.out] at this; exact this)))
                clear hA hC hx9 hb9 hA' hC' hx' hb' hA'' hC'' hx'' hb''
                refine wpAnyH_done (by kernel_rfl) ?_ _
                go_wp2_with fail
                go_meet
                case rel => exact ⟨A, C, rfl, rfl, HA, HC, by first | exact HB3 | (rw [HPP.out]; exact HB3)⟩
          · go_simp
            have hbn : Below u0.heap.size u0 (u0.alloc (.cells (rCells res0) 31)) := (Below.refl _ _).alloc (Nat.le_refl _) _
            have HB1 := Lib.hid (HB0.out.trans (hbn.mono HB0.out.size))
            have hA1 : AtB (u0.alloc (.cells (rCells res0) 31)) w6 u0.heap.size := AtB.new HB0.out.size
            refine hK_.out _ (u0.alloc (.cells (rCells res0) 31)) (pgS_of (HX.out.below HB1.out HX.out.lt)) fun _ => ?_
            clear hK_ K_ hbn
            generalize u0.alloc (.cells (rCells res0) 31) = u1 at *
            generalize u0.heap.size = A at *
            clear HB0
            refine wpAnyH_ready (rs := [3, 9]) (by kernel_rfl) (by simp) ?_
            refine AllReadyH.cons rfl (fun K_ hK_ => ?_) (AllReadyH.cons rfl (fun K_ hK_ => ?_) AllReadyH.nil)
            · go_simp
              refine (HR1.out u1 (HGZ.out.below HB1.out) (HRV.out.below HB1.out)).mono ?_
              rintro e u2 ⟨rfl, hbn⟩
              have HB2 := Lib.hid (HB1.out.trans (hbn.mono HB1.out.size))
              have hA2 : AtB u2 w6 A := hA1.keep hbn
              refine hK_.out _ _ (pgS_of (HX.out.below HB2.out HX.out.lt)) fun _ => ?_
              clear hK_ K_ hbn HB1 hA1
              refine wpAnyH_ready (rs := [7, 9]) (by kernel_rfl) (by simp) ?_
              refine AllReadyH.cons rfl (fun K_ hK_ => ?_) (AllReadyH.cons rfl (fun K_ hK_ => ?_) AllReadyH.nil)
              · go_simp
                refine (HR2.out u2 (HGZ.out.below HB2.out) (HRV.out.below HB2.out)).mono ?_
                rintro e u3 ⟨rfl, hbn⟩
                have HB3 := Lib.hid (HB2.out.trans (hbn.mono HB2.out.size))
                have hA3 : AtB u3 w6 A := hA2.keep hbn
                refine hK_.out _ _ (pgS_of (HX.out.below HB3.out HX.out.lt)) fun _ => ?_
                clear hK_ K_ hbn HB2 hA2
                refine wpAnyH_ready (rs := [9]) (by kernel_rfl) (by simp) ?_
                refine AllReadyH.cons rfl (fun K_ hK_ => ?_) AllReadyH.nil
                go_simp
                have hbn : Below u3.heap.size u3 (u3.alloc (.cells (rCells res0) 31)) := (Below.refl _ _).alloc (Nat.le_refl _) _
                have HB4 := Lib.hid (HB3.out.trans (hbn.mono HB3.out.size))
                have hC4 : AtB (u3.alloc (.cells (rCells res0) 31)) w6 u3.heap.size := AtB.new HB3.out.size
                have hA4 : AtB (u3.alloc (.cells (rCells res0) 31)) w6 A := hA3.keep hbn
                have HNE : Hid (u3.heap.size ≠ A) := (Nat.ne_of_gt hA3.lt)
                refine hK_.out _ (u3.alloc (.cells (rCells res0) 31)) (pgS_of (HX.out.below HB4.out HX.out.lt)) fun _ => ?_
                clear hK_ K_ hbn
                generalize u3.alloc (.cells (rCells res0) 31) = u4 at *
                generalize u3.heap.size = C at *
                clear HB3 hA3
                obtain ⟨hA, hA2, -⟩ := hA4
                obtain ⟨hC, hC2, -⟩ := hC4
                have HAC : Hid (C ≠ A) := by first | exact HNE | exact Ne.symm HNE
                have hb9 := HB4.out
                have hx9 := HX.out.below hb9 HX.out.lt
                clear HB4 HNE
                generalize u4 = u9 at *
                have a0 := hA.cell 0
                have a1 := hA.cell 1
                have a2 := hA.cell 2
                have a3 := hA.cell 3
                simp [rCells, res0] at a0 a1 a2 a3
                have fa0 := hA.frozen 0
                have fa1 := hA.frozen 1
                have fa2 := hA.frozen 2
                have fa3 := hA.frozen 3
                have HPA : Hid (P ≠ A) := by have := HX.out.lt; show P ≠ A; omega
                have HPC : Hid (P ≠ C) := by have := HX.out.lt; show P ≠ C; omega
                refine wpAnyH_ready (rs := [10]) (by kernel_rfl) (by simp) ?_
                refine AllReadyH.cons rfl (fun K_ hK_ => ?_) AllReadyH.nil
                go_simp
                change K_ _ (fill4 u9 A ⟨Zt, st, er, []⟩)
                have hA' := fill4_blk hA ⟨Zt, st, er, []⟩
                have hC' := fill4_far hC HAC.out ⟨Zt, st, er, []⟩
                have hx' := fill4_far hx9 HPA.out ⟨Zt, st, er, []⟩
                have hb' := fill4_below hb9 hA2 ⟨Zt, st, er, []⟩
                generalize fill4 u9 A ⟨Zt, st, er, []⟩ = u10 at *
                refine hK_.out _ _ (pgS_of hx') fun _ => ?_
                clear hK_ K_ a0 a1 a2 a3 fa0 fa1 fa2 fa3
                have a0 := hC'.cell 0
                have a1 := hC'.cell 1
                have a2 := hC'.cell 2
                have a3 := hC'.cell 3
                simp [rCells, res0] at a0 a1 a2 a3
                have fa0 := hC'.frozen 0
                have fa1 := hC'.frozen 1
                have fa2 := hC'.frozen 2
                have fa3 := hC'.frozen 3
                refine wpAnyH_ready (rs := [11]) (by kernel_rfl) (by simp) ?_
                refine AllReadyH.cons rfl (fun K_ hK_ => ?_) AllReadyH.nil
                go_simp
                change K_ _ (fill4 u10 C ⟨Zt, 0, 0, []⟩)
                have hA'' := fill4_far hA' (Ne.symm HAC.out) ⟨Zt, 0, 0, []⟩
                have hC'' := fill4_blk hC' ⟨Zt, 0, 0, []⟩
                have hx'' := fill4_far hx' HPC.out ⟨Zt, 0, 0, []⟩
                have hb'' := fill4_below hb' hC2 ⟨Zt, 0, 0, []⟩
                generalize fill4 u10 C ⟨Zt, 0, 0, []⟩ = u11 at *
                refine hK_.out _ _ (pgS_of hx'') fun _ => ?_
                clear hK_ K_ a0 a1 a2 a3 fa0 fa1 fa2 fa3
                have HA := Lib.hid hA''
                have HC := Lib.hid hC''
                have HB3 := Lib.hid (HB.out.trans (hb''.mono (by have := HB.out.size; rw [HPP.out] at this; exact this)))
                clear hA hC hx9 hb9 hA' hC' hx' hb' hA'' hC'' hx'' hb''
                refine wpAnyH_done (by kernel_rfl) ?_ _
                go_wp2_with fail
                go_meet
                case rel => exact ⟨A, C, rfl, rfl, HA, HC, by first | exact HB3 | (rw [HPP.out]; exact HB3)⟩
              · go_simp
                have hbn : Below u2.heap.size u2 (u2.alloc (.cells (rCells res0) 31)) := (Below.refl _ _).alloc (Nat.le_refl _) _
                have HB3 := Lib.hid (HB2.out.trans (hbn.mono HB2.out.size))
                have hC3 : AtB (u2.alloc (.cells (rCells res0) 31)) w6 u2.heap.size := AtB.new HB2.out.size
                have hA3 : AtB (u2.alloc (.cells (rCells res0) 31)) w6 A := hA2.keep hbn
                have HNE : Hid (u2.heap.size ≠ A) := (Nat.ne_of_gt hA2.lt)
                refine hK_.out _ (u2.alloc (.cells (rCells res0) 31)) (pgS_of (HX.out.below HB3.out HX.out.lt)) fun _ => ?_
                clear hK_ K_ hbn
                generalize u2.alloc (.cells (rCells res0) 31) = u3 at *
                generalize u2.heap.size = C at *
                clear HB2 hA2
                refine wpAnyH_ready (rs := [7]) (by kernel_rfl) (by simp) ?_
                refine AllReadyH.cons rfl (fun K_ hK_ => ?_) AllReadyH.nil
                go_simp
                refine (HR2.out u3 (HGZ.out.below HB3.out) (HRV.out.below HB3.out)).mono ?_
                rintro e u4 ⟨rfl, hbn⟩
                have HB4 := Lib.hid (HB3.out.trans (hbn.mono HB3.out.size))
                have hA4 : AtB u4 w6 A := hA3.keep hbn
                have hC4 : AtB u4 w6 C := hC3.keep hbn
                refine hK_.out _ _ (pgS_of (HX.out.below HB4.out HX.out.lt)) fun _ => ?_
                clear hK_ K_ hbn HB3 hA3 hC3
                obtain ⟨hA, hA2, -⟩ := hA4
                obtain ⟨hC, hC2, -⟩ := hC4
                have HAC : Hid (C ≠ A) := by first | exact HNE | exact Ne.symm HNE
                have hb9 := HB4.out
                have hx9 := HX.out.below hb9 HX.out.lt
                clear HB4 HNE
                generalize u4 = u9 at *
                have a0 := hA.cell 0
                have a1 := hA.cell 1
                have a2 := hA.cell 2
                have a3 := hA.cell 3
                simp [rCells, res0] at a0 a1 a2 a3
                have fa0 := hA.frozen 0
                have fa1 := hA.frozen 1
                have fa2 := hA.frozen 2
                have fa3 := hA.frozen 3
                have HPA : Hid (P ≠ A) := by have := HX.out.lt; show P ≠ A; omega
                have HPC : Hid (P ≠ C) := by have := HX.out.lt; show P ≠ C; omega
                refine wpAnyH_ready (rs := [10]) (by kernel_rfl) (by simp) ?_
                refine AllReadyH.cons rfl (fun K_ hK_ => ?_) AllReadyH.nil
                go_simp
                change K_ _ (fill4 u9 A ⟨Zt, st, er, []⟩)
                have hA' := fill4_blk hA ⟨Zt, st, er, []⟩
                have hC' := fill4_far hC HAC.out ⟨Zt, st, er, []⟩
                have hx' := fill4_far hx9 HPA.out ⟨Zt, st, er, []⟩
                have hb' := fill4_below hb9 hA2 ⟨Zt, st, er, []⟩
                generalize fill4 u9 A ⟨Zt, st, er, []⟩ = u10 at *
                refine hK_.out _ _ (pgS_of hx') fun _ => ?_
                clear hK_ K_ a0 a1 a2 a3 fa0 fa1 fa2 fa3
                have a0 := hC'.cell 0
                have a1 := hC'.cell 1
                have a2 := hC'.cell 2
                have a3 := hC'.cell 3
                simp [rCells, res0] at a0 a1 a2 a3
                have fa0 := hC'.frozen 0
                have fa1 := hC'.frozen 1
                have fa2 := hC'.frozen 2
                have fa3 := hC'.frozen 3
                refine wpAnyH_ready (rs := [11]) (by kernel_rfl) (by simp) ?_
                refine AllReadyH.cons rfl (fun K_ hK_ => ?_) AllReadyH.nil
                go_simp
                change K_ _ (fill4 u10 C ⟨Zt, 0, 0, []⟩)
                have hA'' := fill4_far hA' (Ne.symm HAC.out) ⟨Zt, 0, 0, []⟩
                have hC'' := fill4_blk hC' ⟨Zt, 0, 0, []⟩
                have hx'' := fill4_far hx' HPC.out ⟨Zt, 0, 0, []⟩
                have hb'' := fill4_below hb' hC2 ⟨Zt, 0, 0, []⟩
                generalize fill4 u10 C ⟨Zt, 0, 0, []⟩ = u11 at *
                refine hK_.out _ _ (pgS_of hx'') fun _ => ?_
                clear hK_ K_ a0 a1 a2 a3 fa0 fa1 fa2 fa3
                have HA := Lib.hid hA''
                have HC := Lib.hid hC''
                have HB3 := Lib.hid (HB.out.trans (hb''.mono (by have := HB.out.size; rw [HPP.out] at this; exact this)))
                clear hA hC hx9 hb9 hA' hC' hx' hb' hA'' hC'' hx'' hb''
                refine wpAnyH_done (by kernel_rfl) ?_ _
                go_wp2_with fail
                go_meet
                case rel => exact ⟨A, C, rfl, rfl, HA, HC, by first | exact HB3 | (rw [HPP.out]; exact HB3)⟩
            · go_simp
              have hbn : Below u1.heap.size u1 (u1.alloc (.cells (rCells res0) 31)) := (Below.refl _ _).alloc (Nat.le_refl _) _
              have HB2 := Lib.hid (HB1.out.trans (hbn.mono HB1.out.size))
              have hC2 : AtB (u1.alloc (.cells (rCells res0) 31)) w6 u1.heap.size := AtB.new HB1.out.size
              have hA2 : AtB (u1.alloc (.cells (rCells res0) 31)) w6 A := hA1.keep hbn
              have HNE : Hid (u1.heap.size ≠ A) := (Nat.ne_of_gt hA1.lt)
              refine hK_.out _ (u1.alloc (.cells (rCells res0) 31)) (pgS_of (HX.out.below HB2.out HX.out.lt)) fun _ => ?_
              clear hK_ K_ hbn
              generalize u1.alloc (.cells (rCells res0) 31) = u2 at *
              generalize u1.heap.size = C at *
              clear HB1 hA1
              refine wpAnyH_ready (rs := [3]) (by kernel_rfl) (by simp) ?_
              refine AllReadyH.cons rfl (fun K_ hK_ => ?_) AllReadyH.nil
              go_simp
              refine (HR1.out u2 (HGZ.out.below HB2.out) (HRV.out.below HB2.out)).mono ?_
              rintro e u3 ⟨rfl, hbn⟩
              have HB3 := Lib.hid (HB2.out.trans (hbn.mono HB2.out.size))
              have hA3 : AtB u3 w6 A := hA2.keep hbn
              have hC3 : AtB u3 w6 C := hC2.keep hbn
              refine hK_.out _ _ (pgS_of (HX.out.below HB3.out HX.out.lt)) fun _ => ?_
              clear hK_ K_ hbn HB2 hA2 hC2
              refine wpAnyH_ready (rs := [7]) (by kernel_rfl) (by simp) ?_
              refine AllReadyH.cons rfl (fun K_ hK_ => ?_) AllReadyH.nil
              go_simp
              refine (HR2.out u3 (HGZ.out.below HB3.out) (HRV.out.below HB3.out)).mono ?_
              rintro e u4 ⟨rfl, hbn⟩
              have HB4 := Lib.hid (HB3.out.trans (hbn.mono HB3.out.size))
              have hA4 : AtB u4 w6 A := hA3.keep hbn
              have hC4 : AtB u4 w6 C := hC3.keep hbn
              refine hK_.out _ _ (pgS_of (HX.out.below HB4.out HX.out.lt)) fun _ => ?_
              clear hK_ K_ hbn HB3 hA3 hC3
              obtain ⟨hA, hA2, -⟩ := hA4
              obtain ⟨hC, hC2, -⟩ := hC4
              have HAC : Hid (C ≠ A) := by first | exact HNE | exact Ne.symm HNE
              have hb9 := HB4.out
              have hx9 := HX.out.below hb9 HX.out.lt
              clear HB4 HNE
              generalize u4 = u9 at *
              have a0 := hA.cell 0
              have a1 := hA.cell 1
              have a2 := hA.cell 2
              have a3 := hA.cell 3
              simp [rCells, res0] at a0 a1 a2 a3
              have fa0 := hA.frozen 0
              have fa1 := hA.frozen 1
              have fa2 := hA.frozen 2
              have fa3 := hA.frozen 3
              have HPA : Hid (P ≠ A) := by have := HX.out.lt; show P ≠ A; omega
              have HPC : Hid (P ≠ C) := by have := HX.out.lt; show P ≠ C; omega
              refine wpAnyH_ready (rs := [10]) (by kernel_rfl) (by simp) ?_
              refine AllReadyH.cons rfl (fun K_ hK_ => ?_) AllReadyH.nil
              go_simp
              change K_ _ (fill4 u9 A ⟨Zt, st, er, []⟩)
              have hA' := fill4_blk hA ⟨Zt, st, er, []⟩
              have hC' := fill4_far hC HAC.out ⟨Zt, st, er, []⟩
              have hx' := fill4_far hx9 HPA.out ⟨Zt, st, er, []⟩
              have hb' := fill4_below hb9 hA2 ⟨Zt, st, er, []⟩
              generalize fill4 u9 A ⟨Zt, st, er, []⟩ = u10 at *
              refine hK_.out _ _ (pgS_of hx') fun _ => ?_
              clear hK_ K_ a0 a1 a2 a3 fa0 fa1 fa2 fa3
              have a0 := hC'.cell 0
              have a1 := hC'.cell 1
              have a2 := hC'.cell 2
              have a3 := hC'.cell 3
              simp [rCells, res0] at a0 a1 a2 a3
              have fa0 := hC'.frozen 0
              have fa1 := hC'.frozen 1
              have fa2 := hC'.frozen 2
              have fa3 := hC'.frozen 3
              refine wpAnyH_ready (rs := [11]) (by kernel_rfl) (by simp) ?_
              refine AllReadyH.cons rfl (fun K_ hK_ => ?_) AllReadyH.nil
              go_simp
              change K_ _ (fill4 u10 C ⟨Zt, 0, 0, []⟩)
              have hA'' := fill4_far hA' (Ne.symm HAC.out) ⟨Zt, 0, 0, []⟩
              have hC'' := fill4_blk hC' ⟨Zt, 0, 0, []⟩
              have hx'' := fill4_far hx' HPC.out ⟨Zt, 0, 0, []⟩
              have hb'' := fill4_below hb' hC2 ⟨Zt, 0, 0, []⟩
              generalize fill4 u10 C ⟨Zt, 0, 0, []⟩ = u11 at *
              refine hK_.out _ _ (pgS_of hx'') fun _ => ?_
              clear hK_ K_ a0 a1 a2 a3 fa0 fa1 fa2 fa3
              have HA := Lib.hid hA''
              have HC := Lib.hid hC''
              have HB3 := Lib.hid (HB.out.trans (hb''.mono (by have := HB.out.size; rw [HPP.out] at this; exact this)))
              clear hA hC hx9 hb9 hA' hC' hx' hb' hA'' hC'' hx'' hb''
              refine wpAnyH_done (by kernel_rfl) ?_ _
              go_wp2_with fail
              go_meet
              case rel => exact ⟨A, C, rfl, rfl, HA, HC, by first | exact HB3 | (rw [HPP.out]; exact HB3)⟩
          · go_simp
            have hbn : Below u0.heap.size u0 (u0.alloc (.cells (rCells res0) 31)) := (Below.refl _ _).alloc (Nat.le_refl _) _
            have HB1 := Lib.hid (HB0.out.trans (hbn.mono HB0.out.size))
            have hC1 : AtB (u0.alloc (.cells (rCells res0) 31)) w6 u0.heap.size := AtB.new HB0.out.size
            refine hK_.out _ (u0.alloc (.cells (rCells res0) 31)) (pgS_of (HX.out.below HB1.out HX.out.lt)) fun _ => ?_
            clear hK_ K_ hbn
            generalize u0.alloc (.cells (rCells res0) 31) = u1 at *
            generalize u0.heap.size = C at *
            clear HB0
            refine wpAnyH_ready (rs := [3, 8]) (by kernel_rfl) (by simp) ?_
            refine AllReadyH.cons rfl (fun K_ hK_ => ?_) (AllReadyH.cons rfl (fun K_ hK_ => ?_) AllReadyH.nil)
            · go_simp
              refine (HR1.out u1 (HGZ.out.below HB1.out) (HRV.out.below HB1.out)).mono ?_
              rintro e u2 ⟨rfl, hbn⟩
              have HB2 := Lib.hid (HB1.out.trans (hbn.mono HB1.out.size))
              have hC2 : AtB u2 w6 C := hC1.keep hbn
              refine hK_.out _ _ (pgS_of (HX.out.below HB2.out HX.out.lt)) fun _ => ?_
              clear hK_ K_ hbn HB1 hC1
              refine wpAnyH_ready (rs := [7, 8]) (by kernel_rfl) (by simp) ?_
              refine AllReadyH.cons rfl (fun K_ hK_ => ?_) (AllReadyH.cons rfl (fun K_ hK_ => ?_) AllReadyH.nil)
              · go_simp
                refine (HR2.out u2 (HGZ.out.below HB2.out) (HRV.out.below HB2.out)).mono ?_
                rintro e u3 ⟨rfl, hbn⟩
                have HB3 := Lib.hid (HB2.out.trans (hbn.mono HB2.out.size))
                have hC3 : AtB u3 w6 C := hC2.keep hbn
                refine hK_.out _ _ (pgS_of (HX.out.below HB3.out HX.out.lt)) fun _ => ?_
                clear hK_ K_ hbn HB2 hC2
                refine wpAnyH_ready (rs := [8]) (by kernel_rfl) (by simp) ?_
                refine AllReadyH.cons rfl (fun K_ hK_ => ?_) AllReadyH.nil
                go_simp
                have hbn : Below u3.heap.size u3 (u3.alloc (.cells (rCells res0) 31)) := (Below.refl _ _).alloc (Nat.le_refl _) _
                have HB4 := Lib.hid (HB3.out.trans (hbn.mono HB3.out.size))
                have hA4 : AtB (u3.alloc (.cells (rCells res0) 31)) w6 u3.heap.size := AtB.new HB3.out.size
                have hC4 : AtB (u3.alloc (.cells (rCells res0) 31)) w6 C := hC3.keep hbn
                have HNE : Hid (u3.heap.size ≠ C) := (Nat.ne_of_gt hC3.lt)
                refine hK_.out _ (u3.alloc (.cells (rCells res0) 31)) (pgS_of (HX.out.below HB4.out HX.out.lt)) fun _ => ?_
                clear hK_ K_ hbn
                generalize u3.alloc (.cells (rCells res0) 31) = u4 at *
                generalize u3.heap.size = A at *
                clear HB3 hC3
                obtain ⟨hA, hA2, -⟩ := hA4
                obtain ⟨hC, hC2, -⟩ := hC4
                have HAC : Hid (C ≠ A) := by first | exact HNE | exact Ne.symm HNE
                have hb9 := HB4.out
                have hx9 := HX.out.below hb9 HX.out.lt
                clear HB4 HNE
                generalize u4 = u9 at *
                have a0 := hA.cell 0
                have a1 := hA.cell 1
                have a2 := hA.cell 2
                have a3 := hA.cell 3
                simp [rCells, res0] at a0 a1 a2 a3
                have fa0 := hA.frozen 0
                have fa1 := hA.frozen 1
                have fa2 := hA.frozen 2
                have fa3 := hA.frozen 3
                have HPA : Hid (P ≠ A) := by have := HX.out.lt; show P ≠ A; omega
                have HPC : Hid (P ≠ C) := by have := HX.out.lt; show P ≠ C; omega
                refine wpAnyH_ready (rs := [10]) (by kernel_rfl) (by simp) ?_
                refine AllReadyH.cons rfl (fun K_ hK_ => ?_) AllReadyH.nil
                go_simp
                change K_ _ (fill4 u9 A ⟨Zt, st, er, []⟩)
                have hA' := fill4_blk hA ⟨Zt, st, er, []⟩
                have hC' := fill4_far hC HAC.out ⟨Zt, st, er, []⟩
                have hx' := fill4_far hx9 HPA.out ⟨Zt, st, er, []⟩
                have hb' := fill4_below hb9 hA2 ⟨Zt, st, er, []⟩
                generalize fill4 u9 A ⟨Zt, st, er, []⟩ = u10 at *
                refine hK_.out _ _ (pgS_of hx') fun _ => ?_
                clear hK_ K_ a0 a1 a2 a3 fa0 fa1 fa2 fa3
                have a0 := hC'.cell 0
                have a1 := hC'.cell 1
                have a2 := hC'.cell 2
                have a3 := hC'.cell 3
                simp [rCells, res0] at a0 a1 a2 a3
                have fa0 := hC'.frozen 0
                have fa1 := hC'.frozen 1
                have fa2 := hC'.frozen 2
                have fa3 := hC'.frozen 3
                refine wpAnyH_ready (rs := [11]) (by kernel_rfl) (by simp) ?_
                refine AllReadyH.cons rfl (fun K_ hK_ => ?_) AllReadyH.nil
                go_simp
                change K_ _ (fill4 u10 C ⟨Zt, 0, 0, []⟩)
                have hA'' := fill4_far hA' (Ne.symm HAC.out) ⟨Zt, 0, 0, []⟩
                have hC'' := fill4_blk hC' ⟨Zt, 0, 0, []⟩
                have hx'' := fill4_far hx' HPC.out ⟨Zt, 0, 0, []⟩
                have hb'' := fill4_below hb' hC2 ⟨Zt, 0, 0, []⟩
                generalize fill4 u10 C ⟨Zt, 0, 0, []⟩ = u11 at *
                refine hK_.out _ _ (pgS_of hx'') fun _ => ?_
                clear hK_ K_ a0 a1 a2 a3 fa0 fa1 fa2 fa3
                have HA := Lib.hid hA''
                have HC := Lib.hid hC''
                have HB3 := Lib.hid (HB.out.trans (hb''.mono (by have := HB.out.size; rw [HPP.out] at this; exact this)))
                clear hA hC hx9 hb9 hA' hC' hx' hb' hA'' hC'' hx'' hb''
                refine wpAnyH_done (by kernel_rfl) ?_ _
                go_wp2_with fail
                go_meet
                case rel => exact ⟨A, C, rfl, rfl, HA, HC, by first | exact HB3 | (rw [HPP.out]; exact HB3)⟩
              · go_simp
                have hbn : Below u2.heap.size u2 (u2.alloc (.cells (rCells res0) 31)) := (Below.refl _ _).alloc (Nat.le_refl _) _
                have HB3 := Lib.hid (HB2.out.trans (hbn.mono HB2.out.size))
                have hA3 : AtB (u2.alloc (.cells (rCells res0) 31)) w6 u2.heap.size := AtB.new HB2.out.size
                have hC3 : AtB (u2.alloc (.cells (rCells res0) 31)) w6 C := hC2.keep hbn
                have HNE : Hid (u2.heap.size ≠ C) := (Nat.ne_of_gt hC2.lt)
                refine hK_.out _ (u2.alloc (.cells (rCells res0) 31)) (pgS_of (HX.out.below HB3.out HX.out.lt)) fun _ => ?_
                clear hK_ K_ hbn
                generalize u2.alloc (.cells (rCells res0) 31) = u3 at *
                generalize u2.heap.size = A at *
                clear HB2 hC2
                refine wpAnyH_ready (rs := [7]) (by kernel_rfl) (by simp) ?_
                refine AllReadyH.cons rfl (fun K_ hK_ => ?_) AllReadyH.nil
                go_simp
                refine (HR2.out u3 (HGZ.out.below HB3.out) (HRV.out.below HB3.out)).mono ?_
                rintro e u4 ⟨rfl, hbn⟩
                have HB4 := Lib.hid (HB3.out.trans (hbn.mono HB3.out.size))
                have hA4 : AtB u4 w6 A := hA3.keep hbn
                have hC4 : AtB u4 w6 C := hC3.keep hbn
                refine hK_.out _ _ (pgS_of (HX.out.below HB4.out HX.out.lt)) fun _ => ?_
                clear hK_ K_ hbn HB3 hA3 hC3
                obtain ⟨hA, hA2, -⟩ := hA4
                obtain ⟨hC, hC2, -⟩ := hC4
                have HAC : Hid (C ≠ A) := by first | exact HNE | exact Ne.symm HNE
                have hb9 := HB4.out
                have hx9 := HX.out.below hb9 HX.out.lt
                clear HB4 HNE
                generalize u4 = u9 at *
                have a0 := hA.cell 0
                have a1 := hA.cell 1
                have a2 := hA.cell 2
                have a3 := hA.cell 3
                simp [rCells, res0] at a0 a1 a2 a3
                have fa0 := hA.frozen 0
                have fa1 := hA.frozen 1
                have fa2 := hA.frozen 2
                have fa3 := hA.frozen 3
                have HPA : Hid (P ≠ A) := by have := HX.out.lt; show P ≠ A; omega
                have HPC : Hid (P ≠ C) := by have := HX.out.lt; show P ≠ C; omega
                refine wpAnyH_ready (rs := [10]) (by kernel_rfl) (by simp) ?_
                refine AllReadyH.cons rfl (fun K_ hK_ => ?_) AllReadyH.nil
                go_simp
                change K_ _ (fill4 u9 A ⟨Zt, st, er, []⟩)
                have hA' := fill4_blk hA ⟨Zt, st, er, []⟩
                have hC' := fill4_far hC HAC.out ⟨Zt, st, er, []⟩
                have hx' := fill4_far hx9 HPA.out ⟨Zt, st, er, []⟩
                have hb' := fill4_below hb9 hA2 ⟨Zt, st, er, []⟩
                generalize fill4 u9 A ⟨Zt, st, er, []⟩ = u10 at *
                refine hK_.out _ _ (pgS_of hx') fun _ => ?_
                clear hK_ K_ a0 a1 a2 a3 fa0 fa1 fa2 fa3
                have a0 := hC'.cell 0
                have a1 := hC'.cell 1
                have a2 := hC'.cell 2
                have a3 := hC'.cell 3
                simp [rCells, res0] at a0 a1 a2 a3
                have fa0 := hC'.frozen 0
                have fa1 := hC'.frozen 1
                have fa2 := hC'.frozen 2
                have fa3 := hC'.frozen 3
                refine wpAnyH_ready (rs := [11]) (by kernel_rfl) (by simp) ?_
                refine AllReadyH.cons rfl (fun K_ hK_ => ?_) AllReadyH.nil
                go_simp
                change K_ _ (fill4 u10 C ⟨Zt, 0, 0, []⟩)
                have hA'' := fill4_far hA' (Ne.symm HAC.out) ⟨Zt, 0, 0, []⟩
                have hC'' := fill4_blk hC' ⟨Zt, 0, 0, []⟩
                have hx'' := fill4_far hx' HPC.out ⟨Zt, 0, 0, []⟩
                have hb'' := fill4_below hb' hC2 ⟨Zt, 0, 0, []⟩
                generalize fill4 u10 C ⟨Zt, 0, 0, []⟩ = u11 at *
                refine hK_.out _ _ (pgS_of hx'') fun _ => ?_
                clear hK_ K_ a0 a1 a2 a3 fa0 fa1 fa2 fa3
                have HA := Lib.hid hA''
                have HC := Lib.hid hC''
                have HB3 := Lib.hid (HB.out.trans (hb''.mono (by have := HB.out.size; rw [HPP.out] at this; exact this)))
                clear hA hC hx9 hb9 hA' hC' hx' hb' hA'' hC'' hx'' hb''
                refine wpAnyH_done (by kernel_rfl) ?_ _
                go_wp2_with fail
                go_meet
                case rel => exact ⟨A, C, rfl, rfl, HA, HC, by first | exact HB3 | (rw [HPP.out]; exact HB3)⟩
            · go_simp
              have hbn : Below u1.heap.size u1 (u1.alloc (.cells (rCells res0) 31)) := (Below.refl _ _).alloc (Nat.le_refl _) _
              have HB2 := Lib.hid (HB1.out.trans (hbn.mono HB1.out.size))
              have hA2 : AtB (u1.alloc (.cells (rCells res0) 31)) w6 u1.heap.size := AtB.new HB1.out.size
              have hC2 : AtB (u1.alloc (.cells (rCells res0) 31)) w6 C := hC1.keep hbn
              have HNE : Hid (u1.heap.size ≠ C) := (Nat.ne_of_gt hC1.lt)
              refine hK_.out _ (u1.alloc (.cells (rCells res0) 31)) (pgS_of (HX.out.below HB2.out HX.out.lt)) fun _ => ?_
              clear hK_ K_ hbn
              generalize u1.alloc (.cells (rCells res0) 31) = u2 at *
              generalize u1.heap.size = A at *
              clear HB1 hC1
              refine wpAnyH_ready (rs := [3]) (by kernel_rfl) (by simp) ?_
              refine AllReadyH.cons rfl (fun K_ hK_ => ?_) AllReadyH.nil
              go_simp
              refine (HR1.out u2 (HGZ.out.below HB2.out) (HRV.out.below HB2.out)).mono ?_
              rintro e u3 ⟨rfl, hbn⟩
              have HB3 := Lib.hid (HB2.out.trans (hbn.mono HB2.out.size))
              have hA3 : AtB u3 w6 A := hA2.keep hbn
              have hC3 : AtB u3 w6 C := hC2.keep hbn
              refine hK_.out _ _ (pgS_of (HX.out.below HB3.out HX.out.lt)) fun _ => ?_
              clear hK_ K_ hbn HB2 hA2 hC2
              refine wpAnyH_ready (rs := [7]) (by kernel_rfl) (by simp) ?_
              refine AllReadyH.cons rfl (fun K_ hK_ => ?_) AllReadyH.nil
              go_simp
              refine (HR2.out u3 (HGZ.out.below HB3.out) (HRV.out.below HB3.out)).mono ?_
              rintro e u4 ⟨rfl, hbn⟩
              have HB4 := Lib.hid (HB3.out.trans (hbn.mono HB3.out.size))
              have hA4 : AtB u4 w6 A := hA3.keep hbn
              have hC4 : AtB u4 w6 C := hC3.keep hbn
              refine hK_.out _ _ (pgS_of (HX.out.below HB4.out HX.out.lt)) fun _ => ?_
              clear hK_ K_ hbn HB3 hA3 hC3
              obtain ⟨hA, hA2, -⟩ := hA4
              obtain ⟨hC, hC2, -⟩ := hC4
              have HAC : Hid (C ≠ A) := by first | exact HNE | exact Ne.symm HNE
              have hb9 := HB4.out
              have hx9 := HX.out.below hb9 HX.out.lt
              clear HB4 HNE
              generalize u4 = u9 at *
              have a0 := hA.cell 0
              have a1 := hA.cell 1
              have a2 := hA.cell 2
              have a3 := hA.cell 3
              simp [rCells, res0] at a0 a1 a2 a3
              have fa0 := hA.frozen 0
              have fa1 := hA.frozen 1
              have fa2 := hA.frozen 2
              have fa3 := hA.frozen 3
              have HPA : Hid (P ≠ A) := by have := HX.out.lt; show P ≠ A; omega
              have HPC : Hid (P ≠ C) := by have := HX.out.lt; show P ≠ C; omega
              refine wpAnyH_ready (rs := [10]) (by kernel_rfl) (by simp) ?_
              refine AllReadyH.cons rfl (fun K_ hK_ => ?_) AllReadyH.nil
              go_simp
              change K_ _ (fill4 u9 A ⟨Zt, st, er, []⟩)
              have hA' := fill4_blk hA ⟨Zt, st, er, []⟩
              have hC' := fill4_far hC HAC.out ⟨Zt, st, er, []⟩
              have hx' := fill4_far hx9 HPA.out ⟨Zt, st, er, []⟩
              have hb' := fill4_below hb9 hA2 ⟨Zt, st, er, []⟩
              generalize fill4 u9 A ⟨Zt, st, er, []⟩ = u10 at *
              refine hK_.out _ _ (pgS_of hx') fun _ => ?_
              clear hK_ K_ a0 a1 a2 a3 fa0 fa1 fa2 fa3
              have a0 := hC'.cell 0
              have a1 := hC'.cell 1
              have a2 := hC'.cell 2
              have a3 := hC'.cell 3
              simp [rCells, res0] at a0 a1 a2 a3
              have fa0 := hC'.frozen 0
              have fa1 := hC'.frozen 1
              have fa2 := hC'.frozen 2
              have fa3 := hC'.frozen 3
              refine wpAnyH_ready (rs := [11]) (by kernel_rfl) (by simp) ?_
              refine AllReadyH.cons rfl (fun K_ hK_ => ?_) AllReadyH.nil
              go_simp
              change K_ _ (fill4 u10 C ⟨Zt, 0, 0, []⟩)
              have hA'' := fill4_far hA' (Ne.symm HAC.out) ⟨Zt, 0, 0, []⟩
              have hC'' := fill4_blk hC' ⟨Zt, 0, 0, []⟩
              have hx'' := fill4_far hx' HPC.out ⟨Zt, 0, 0, []⟩
              have hb'' := fill4_below hb' hC2 ⟨Zt, 0, 0, []⟩
              generalize fill4 u10 C ⟨Zt, 0, 0, []⟩ = u11 at *
              refine hK_.out _ _ (pgS_of hx'') fun _ => ?_
              clear hK_ K_ a0 a1 a2 a3 fa0 fa1 fa2 fa3
              have HA := Lib.hid hA''
              have HC := Lib.hid hC''
              have HB3 := Lib.hid (HB.out.trans (hb''.mono (by have := HB.out.size; rw [HPP.out] at this; exact this)))
              clear hA hC hx9 hb9 hA' hC' hx' hb' hA'' hC'' hx'' hb''
              refine wpAnyH_done (by kernel_rfl) ?_ _
              go_wp2_with fail
              go_meet
              case rel => exact ⟨A, C, rfl, rfl, HA, HC, by first | exact HB3 | (rw [HPP.out]; exact HB3)⟩
        case rest =>
          obtain ⟨A, C, rfl, rfl, HA, HC, HB2⟩ := hcut
          have a0 := HA.out.cell 0
          have a1 := HA.out.cell 1
          have a2 := HA.out.cell 2
          have a3 := HA.out.cell 3
          have c0 := HC.out.cell 0
          have c1 := HC.out.cell 1
          have c2 := HC.out.cell 2
          have c3 := HC.out.cell 3
          simp [rCells] at a0 a1 a2 a3 c0 c1 c2 c3
          have hq0 : ∀ W : World, (binOp .eql 31 (.agg #[.string (bs Zt), .int .i64 0, .int .i64 0, .string (bs [])]) (.agg #[.string (bs Zt), .int .i64 0, .int .i64 0, .string ⟨#[]⟩])).run Tryz.prog W = .ok (.bool true) W := fun W => res_same (bs Zt) ⟨#[]⟩ 0 0 W
          rcases HST.out with ⟨h, rfl, rfl⟩ | ⟨h, rfl, rfl⟩
          · have hki2 : (k : Int) ≤ 20 := by omega
            have hq1 : ∀ W : World, (binOp .eql 31 (.agg #[.string (bs Zt), .int .i64 0, .int .i64 0, .string (bs [])]) (.agg #[.string (bs Zt), .int .i64 0, .int .i64 0, .string (bs [])])).run Tryz.prog W = .ok (.bool true) W := fun W => res_same (bs Zt) ⟨#[]⟩ 0 0 W
            go_wp2_with fail
            go_ret
            exact ⟨rfl, by first | exact HB2.out | (rw [HPP.out]; exact HB2.out)⟩
          · have hki2 : ¬ (k : Int) ≤ 20 := by omega
            have hq1 : ∀ W : World, (binOp .eql 31 (.agg #[.string (bs Zt), .int .i64 2, .int .i64 4, .string (bs [])]) (.agg #[.string (bs Zt), .int .i64 2, .int .i64 4, .string ⟨#[]⟩])).run Tryz.prog W = .ok (.bool true) W := fun W => res_same (bs Zt) ⟨#[]⟩ 2 4 W
            go_wp2_with fail
            go_ret
            exact ⟨rfl, by first | exact HB2.out | (rw [HPP.out]; exact HB2.out)⟩
theorem topMany_calls (v : EnvD) (b y : List UInt8) (q : Bool) (many : Int) (s : ByteArray) (w : World) (hg : Glob w) :
    Calls Tryz.prog 7 #[pageV v b y q, .int .i64 many, .string s] w fun e w' => e = .returned (.bool true) ∧ Below w.heap.size w w' := by
  have h := many_calls v b y q many (L s) w hg
  rwa [bs_L] at h
end Go.Proofs.YtijpfcjlochahaaGreatDoor
