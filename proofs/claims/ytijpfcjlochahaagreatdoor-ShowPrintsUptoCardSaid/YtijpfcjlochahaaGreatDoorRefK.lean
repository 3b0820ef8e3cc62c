/- The walk of the reference's Feed. The walks of the reference's Join and All. -/
import Derived.Test.YtijpfcjlochahaaGreatDoorRefI
import Derived.Test.YtijpfcjlochahaaGreatDoorLexI
import Derived.Deep.CutRange
namespace Go.Proofs.YtijpfcjlochahaaGreatDoor
open Go Go.RowKit
set_option linter.unusedVariables false
set_option linter.unusedSimpArgs false

theorem rfeed_results {w : World} {X : Nat} {tmps : Array Value} {x0 x1 v n : Value} (h4 : tmps[4]?.getD undef = .pointer (some ⟨X + 1, 0, none⟩)) (h5 : tmps[5]?.getD undef = v) (h6 : tmps[6]?.getD undef = n)
    (B0 : Blk w (X + 1) 48 #[x0, x1]) :
    (results Tryz.f33 tmps).run Tryz.prog w = .ok (.tuple #[.agg #[x0, x1], v, n]) w := by
  have a0 := B0.cell 0
  have a1 := B0.cell 1
  simp [results, Tryz.results33, go_sem, h4, h5, h6, a0, a1]
/-- A token behind those that are there: what its append asks. -/
theorem feed_app {w W : World} {X : Nat} {rest : ByteArray} {b : Bool} {v : Value} {o : List Token} (st : FeedSt w W X rest b v o) {N : Nat} (hN : N = o.length) (hl : N ≤ 9000000) (t : Token) (tx : ByteArray) (ht : t.text = L tx) (va : Value)
    (hva : GR W (fun g => X + 2 ≤ g ∧ some g ≠ v.ownBlock) (.row 2 (t.attrs.map Pair.gv)) [va]) :
    App (W.alloc (.cells #[.int .i64 t.kind, .string tx, va] 80)) (X + 2) 80 3 48 (fun g => X + 2 ≤ g) v (o.map Token.gv) (some ⟨W.heap.size, 0, none⟩) 1 [t.gv] [.int .i64 t.kind, .string tx, va] (N + 1) := by
  subst hN
  have h4 := st.hR.lt
  have hb1 := (Below.refl W.heap.size W).alloc (Nat.le_refl _) (.cells #[.int .i64 t.kind, .string tx, va] 80)
  have hown := st.own.below hb1
  have hx : GR (W.alloc (.cells #[.int .i64 t.kind, .string tx, va] 80)) (fun k => (fun g => X + 2 ≤ g) k ∧ some k ≠ v.ownBlock) t.gv [.int .i64 t.kind, .string tx, va] := by
    have h := cells_tok (k := t.kind) (t := t.text) (hva.below hb1)
    rw [ht, bs_L] at h
    rw [Token.gv, ht]
    exact h
  have key := App.of_new (bytes := 48) (size := 3) hown (Blk.new W 80 #[.int .i64 t.kind, .string tx, va]) hx rfl (by rw [List.length_map]; omega) (by omega) (by rw [size_alloc]; omega)
  rw [List.length_map] at key
  exact key
theorem feed_app_text {w W : World} {X : Nat} {rest : ByteArray} {b : Bool} {v : Value} {o : List Token} (st : FeedSt w W X rest b v o) {N : Nat} (hN : N = o.length) (hl : N ≤ 9000000) (tx : ByteArray) :
    App (W.alloc (.cells #[.int .i64 0, .string tx, .slice none 0 0] 80)) (X + 2) 80 3 48 (fun g => X + 2 ≤ g) v (o.map Token.gv) (some ⟨W.heap.size, 0, none⟩) 1 [(textTok (L tx)).gv] [.int .i64 0, .string tx, .slice none 0 0] (N + 1) :=
  feed_app st hN hl (textTok (L tx)) tx rfl (.slice none 0 0) gr_nil
theorem withText_pos {o : List Token} {s : ByteArray} {i : Nat} (h : 0 < i) : withText o (L s) i = o ++ [textTok (L (s.extract 0 i))] := by
  unfold withText
  rw [if_pos h, L_extract, List.drop_zero]
theorem feedStep_short {go : Bool → List UInt8 → List Token → LexSt × List Token × Int} {b : Bool} {s m : List UInt8} {out : List Token} (h : s.length < m.length ∨ m = []) : feedStep go b s m out = (⟨s, b⟩, out, 0) := by
  unfold feedStep
  rw [if_pos h]
theorem FeedSt.len {w wr : World} {X : Nat} {rest : ByteArray} {b : Bool} {A : Option Addr} {N c : Nat} {o : List Token} (h : FeedSt w wr X rest b (.slice A N c) o) : N = o.length := by
  obtain ⟨A', c', e⟩ := h.own.form
  rw [List.length_map] at e
  injection e
theorem withText_len (o : List Token) (s : List UInt8) (i : Nat) : (withText o s i).length ≤ o.length + (if 0 < i then 1 else 0) := by
  unfold withText
  split <;> simp
set_option maxRecDepth 20000 in
set_option maxHeartbeats 4000000 in
theorem rfeed_calls (rest s : ByteArray) (b : Bool) (w : World) (hsz : rest.size + s.size ≤ 4000000) :
    Calls Tryz.prog 33 #[.agg #[.string rest, .bool b], .string s] w (FeedPost w (feedF ⟨L rest, b⟩ (L s))) := by
  obtain ⟨X, hX⟩ : ∃ X, X = w.heap.size := ⟨_, rfl⟩
  have hx0 := Blk.new w 48 #[.string rest, .bool b]
  rw [← hX] at hx0
  have hsz1 := size_alloc w (.cells #[.string rest, .bool b] 48)
  have hr0 := Blk.new (w.alloc (.cells #[.string rest, .bool b] 48)) 48 #[.string (bs []), .bool false]
  rw [hsz1, ← hX] at hr0
  have st : FeedSt w ((w.alloc (.cells #[.string rest, .bool b] 48)).alloc (.cells #[.string ⟨#[]⟩, .bool false] 48)) X rest b (.slice none 0 0) [] :=
    ⟨hx0.alloc _, hr0, OwnR.nil _ _ _ _ _, ((Below.refl _ _).alloc (Nat.le_refl _) _).alloc (by rw [hsz1]; omega) _, hX⟩
  clear hsz1 hx0 hr0
  have c0 := st.hX.cell 0
  have c1 := st.hX.cell 1
  have hXs : w.heap.size = X := hX.symm
  clear hX
  go_enter Tryz.func33, Tryz.ntmps33
  go_wp2_with fail
  generalize (w.alloc (.cells #[.string rest, .bool b] 48)).alloc (.cells #[.string ⟨#[]⟩, .bool false] 48) = w1 at *
  clear c0 c1
  refine (rright_calls rest b _ (by omega)).mono ?_
  rintro e w2 ⟨rfl, hb2⟩
  have st2 := st.step hb2
  clear st hb2
  cases hrt : rightF ⟨L rest, b⟩ with
  | false =>
    have HF : Hid (feedF ⟨L rest, b⟩ (L s) = (⟨[], false⟩, [], 1)) := by rw [Hid, feedF, if_neg (by rw [hrt]; simp)]
    clear hrt
    have q0 := st2.hR.cell 0
    have q1 := st2.hR.cell 1
    have z0 := st2.hR.frozen 0
    have z1 := st2.hR.frozen 1
    go_wp2_with fail
    obtain ⟨r0, r1, r2⟩ := st2.ret (.string (bs [])) (.bool false)
    refine bodyPost_ret (rfeed_results rfl rfl rfl r0) rfl ⟨.slice none 0 0, by rw [HF.out]; rfl, ?_, r2⟩
    rw [HF.out]
    exact r1
  | true =>
    have HF : Hid (feedF ⟨L rest, b⟩ (L s) = feedLoop ((L rest ++ L s).length + 1) b (L rest ++ L s) []) := by rw [Hid, feedF, if_pos hrt]
    clear hrt
    have q0 := st2.hX.cell 0
    have q1 := st2.hX.cell 1
    have hss : rest.size + s.size ≤ 4000000 := hsz
    go_wp2_with fail
    have HF1 : Hid (feedF ⟨L rest, b⟩ (L s) = feedLoop ((rest ++ s).size + 1) b (L (rest ++ s)) []) := HF.out.trans (by rw [L_append, size_L, L_append])
    have hsz2 : (rest ++ s).size ≤ 4000000 := by rw [ByteArray.size_append]; omega
    generalize rest ++ s = s0 at *
    generalize feedF ⟨L rest, b⟩ (L s) = F at *
    clear HF q0 q1
    go_loopw [7, 8, 9] (fun s1 i1 v1 wr => ∃ (n : Nat) (b' : Bool) (sb : ByteArray) (o : List Token), s1 = .string sb ∧ i1 = .bool b' ∧ Hid (FeedSt w wr X rest b v1 o) ∧ sb.size < n ∧ o.length + sb.size ≤ 4000000 ∧ Hid (F = feedLoop n b' (L sb) o))
       (fun s1 _ _ _ => strLen s1)
    case atStart =>
      have st3 := st2.step ((Below.refl _ _).alloc (Nat.le_refl _) (.cells #[] 80))
      have hl := st2.hR.lt
      exact ⟨s0.size + 1, b, s0, [], rfl, rfl, { st3 with own := ⟨[], World.ownsRow_lit w2 #[] 0 (by omega) (by simp [maxLen]) (by simp), GRl_nil.2 rfl⟩ }, by omega, by simpa using hsz2, HF1⟩
    case round =>
      obtain ⟨n, b', sb, o, rfl, rfl, ST, hn, hob, HG⟩ := hrel
      clear st2 HF1 hsz2
      obtain ⟨n, rfl⟩ : ∃ n', n = n' + 1 := ⟨n - 1, by omega⟩
      rw [feedLoop_succ] at HG
      obtain ⟨Av, cv, hve⟩ := ST.out.own.form
      subst hve
      rw [List.length_map] at ST ⊢
      obtain ⟨N, hN⟩ : ∃ N, N = o.length := ⟨_, rfl⟩
      rw [← hN] at ST hob ⊢
      have HN := Lib.hid hN
      clear hN
      have HOB := Lib.hid hob
      have HNN := Lib.hid hn
      cases hse : sb.toList.isEmpty with
      | true =>
        have hs0 : L sb = [] := by rw [toList_L] at hse; exact List.isEmpty_iff.1 hse
        have HF0 : Hid (F = (⟨[], b'⟩, o, 0)) := by
          rw [Hid, HG.out, hs0]
          unfold feedStep withText
          simp [markF]
        clear HG hs0
        have z0 := ST.out.hR.cell 0
        have z1 := ST.out.hR.cell 1
        have z2 := ST.out.hR.frozen 0
        have z3 := ST.out.hR.frozen 1
        go_wp2_with fail
        obtain ⟨r0, r1, r2⟩ := ST.out.ret (.string (bs [])) (.bool b')
        refine bodyPost_ret (rfeed_results rfl rfl rfl r0) rfl ⟨.slice Av N cv, by rw [HF0.out]; rfl, ?_, r2⟩
        rw [HF0.out]
        exact r1
      | false =>
        have hsb0 : 0 < sb.size := by
          rw [toList_L] at hse
          rw [size_L]
          exact List.length_pos_iff.2 (fun h => by rw [h] at hse; cases hse)
        have hIle := markF_le b' (L sb)
        rw [← size_L] at hIle
        have hnil := markF_nil b' (L sb)
        rw [← size_L] at hnil
        have HMA := Lib.hid (fun j => refMark_at (b := b') (s := L sb) (j := j))
        have HMM := Lib.hid (markF_marks b' (L sb))
        generalize markF b' (L sb) = mi at *
        obtain ⟨m, I⟩ := mi
        simp only at HG hIle hnil HMA HMM
        have HNIL := Lib.hid hnil
        have HIL := Lib.hid hIle
        have HSB := Lib.hid hsb0
        have htl : (bs m).toList = m := toList_bs m
        have htn : (bs []).toList = [] := toList_bs []
        have hsm : (bs m).size = m.length := size_bs m
        clear hnil
        go_wp2_with fail
        go_loopw [10] (fun iv wx => ∃ j : Nat, j ≤ I ∧ iv = .int .i64 j ∧ Hid (FeedSt w wx X rest b (.slice Av N cv) o))
           (fun iv _ => I - (intOf iv).toNat)
        case atStart => exact ⟨0, Nat.zero_le _, rfl, ST.out⟩
        case round =>
          clear ST
          obtain ⟨j, hj, rfl, ST⟩ := hrel
          have hj0 : (0 : Int) ≤ (j : Int) := by omega
          have hj1 : (j : Int) ≤ (sb.size : Int) := by omega
          by_cases hjs : j < sb.size
          · have HMK : Hid (refMark b' (L (sb.extract j sb.size)) = if j = I then m else []) := by
              rw [Hid, L_cut sb j sb.size (Nat.le_refl _)]
              exact HMA.out j hj
            go_wp2_with fail
            refine (rmark_calls (sb.extract j sb.size) b' _).mono ?_
            rw [HMK.out]
            rintro e w4 ⟨rfl, hb4⟩
            have ST4 := Lib.hid (ST.out.step hb4)
            clear hb4 ST HMK
            by_cases hjI : j = I
            · have hm0 : m ≠ [] := fun h => by have := HNIL.out.1 h; omega
              have hem : m.isEmpty = false := by simpa using hm0
              have HM0 := Lib.hid hm0
              rw [if_pos hjI]
              subst hjI
              clear hm0
              go_upto_if 42 with (fail)
              go_cut [7, 9] from 42 to 52 (fun s1 v1 wx => ∃ (sb2 : ByteArray) (A2 : Option Addr) (N2 c2 : Nat), s1 = .string sb2 ∧ v1 = .slice A2 N2 c2 ∧ Hid (FeedSt w wx X rest b (.slice A2 N2 c2) (withText o (L sb) j)) ∧ Hid (L sb2 = (L sb).drop j) ∧ Hid (N2 + sb2.size ≤ N + sb.size))
              case first =>
                by_cases hjz : j = 0
                · subst hjz
                  go_wp2_with fail
                  go_meet
                  case rel =>
                    have e : withText o (L sb) 0 = o := by simp [withText]
                    refine ⟨sb, Av, N, cv, rfl, rfl, ?_, ?_, Nat.le_refl _⟩
                    · rw [e]; exact ST4.out
                    · rw [Hid, List.drop_zero]
                · have HA := Lib.hid (feed_app_text ST4.out HN.out (by have := HOB.out; omega) (sb.extract 0 j))
                  have HST8 := Lib.hid (ST4.out.step ((Below.refl _ _).alloc (Nat.le_refl _) (.cells #[.int .i64 0, .string (sb.extract 0 j), .slice none 0 0] 80)))
                  have hjp : (0 : Int) < (j : Int) := by omega
                  have HJP : Hid (0 < j) := by rw [Hid]; omega
                  clear HG HMA HMM hjz
                  go_wp2_with (at_builtin; go_loud (refine HA.out.plain rfl _ _ _ rfl tokTy rfl rfl ?_); intro A9 c9 w9 hown hgr hor; have ST9 : Hid (FeedSt w w9 X rest b (.slice A9 (N + 1) c9) (o ++ [textTok (L (sb.extract 0 j))])) := HST8.out.push hgr (by rw [List.map_append]; exact hown); clear hown hgr hor)
                  go_meet
                  case rel =>
                    refine ⟨sb.extract j sb.size, A9, N + 1, c9, rfl, rfl, ?_, L_cut sb j sb.size (Nat.le_refl _), ?_⟩
                    · rw [withText_pos HJP.out]; exact ST9.out
                    · rw [Hid, ByteArray.size_extract]
                      have := HJP.out
                      have := HIL.out
                      omega
              case rest =>
                obtain ⟨sb2, A2, N2, c2, rfl, rfl, ST2, HL2, HS2⟩ := hcut
                have HN2 := Lib.hid ST2.out.len
                have HM2 : Hid (refMark b' (L sb2) = m) := by rw [Hid, HL2.out, HMA.out j (Nat.le_refl _), if_pos rfl]
                have HMH := Lib.hid (refMark_hits (b := b') (s := L sb2))
                rw [HM2.out] at HMH
                rw [← HL2.out] at HG
                have HS3 : Hid (sb2.size ≤ sb.size) := by
                  have h := congrArg List.length HL2.out
                  rw [List.length_drop, ← size_L, ← size_L] at h
                  rw [Hid]; omega
                have hrl : (L sb2).length = sb2.size := (size_L sb2).symm
                generalize withText o (L sb) j = o2 at *
                clear HMA HL2 ST4 hj0 hj1
                go_wp2_with fail
                refine (rmark_calls sb2 b' _).mono ?_
                rw [HM2.out]
                rintro e w5 ⟨rfl, hb5⟩
                have ST5 := Lib.hid (ST2.out.step hb5)
                clear hb5 ST2
                by_cases hlm : sb2.size < m.length
                · have HF0 : Hid (F = (⟨L sb2, b'⟩, o2, 0)) := by
                    rw [Hid, HG.out]
                    exact feedStep_short (.inl (by rw [hrl]; exact hlm))
                  clear HG
                  have z0 := ST5.out.hR.cell 0
                  have z1 := ST5.out.hR.cell 1
                  have z2 := ST5.out.hR.frozen 0
                  have z3 := ST5.out.hR.frozen 1
                  go_wp2_with fail
                  obtain ⟨r0, r1, r2⟩ := ST5.out.ret (.string sb2) (.bool b')
                  refine bodyPost_ret (rfeed_results rfl rfl rfl r0) rfl ⟨_, by rw [HF0.out, bs_L]; rfl, ?_, r2⟩
                  rw [HF0.out]
                  exact r1
                · have hcn : ¬ ((L sb2).length < m.length ∨ m = []) := by
                    rw [hrl]
                    exact fun h => h.elim hlm HM0.out
                  unfold feedStep at HG
                  rw [if_neg hcn] at HG
                  have hbeg : begF (L sb2) m = true := beg_of_hits (HMH.out HM0.out) (by rw [hrl]; omega)
                  have HBG := Lib.hid hbeg
                  have HLM : Hid (m.length ≤ sb2.size) := by rw [Hid]; omega
                  have hpos : 0 < m.length := List.length_pos_iff.2 HM0.out
                  have HPOS := Lib.hid hpos
                  have hml1 : (0 : Int) ≤ (m.length : Int) := by omega
                  have hml2 : (m.length : Int) ≤ (sb2.size : Int) := by omega
                  clear hcn hbeg HMH hpos
                  by_cases hB : m = behB
                  · rw [if_pos (.inr hB), decide_eq_false (by rw [hB]; decide)] at HG
                    have hb1 : (m == [45, 45, 62]) = true := by rw [hB]; rfl
                    clear hB
                    go_wp2_with fail
                    go_roundw
                    case rel =>
                      refine ⟨n, false, sb2.extract m.length sb2.size, o2, rfl, rfl, ST5.out, ?_, ?_, ?_⟩
                      · rw [ByteArray.size_extract]; have := HPOS.out; have := HS3.out; have := HNN.out; have := HLM.out; omega
                      · rw [ByteArray.size_extract]; have := HS2.out; have := HOB.out; have := HN2.out; omega
                      · rw [Hid, HG.out, L_cut sb2 m.length sb2.size (Nat.le_refl _)]
                    case measure =>
                      show (sb2.extract m.length sb2.size).size < sb.size
                      rw [ByteArray.size_extract]; have := HPOS.out; have := HS3.out; have := HLM.out; omega
                  · have hb1 : (m == [45, 45, 62]) = false := beq_eq_false_iff_ne.2 hB
                    by_cases hB2 : m = remB
                    · rw [if_pos (.inl hB2), decide_eq_true hB2] at HG
                      have hb2 : (m == [60, 33, 45, 45, 101, 115, 105]) = true := by rw [hB2]; rfl
                      clear hB hB2
                      go_wp2_with fail
                      go_roundw
                      case rel =>
                        refine ⟨n, true, sb2.extract m.length sb2.size, o2, rfl, rfl, ST5.out, ?_, ?_, ?_⟩
                        · rw [ByteArray.size_extract]; have := HPOS.out; have := HS3.out; have := HNN.out; have := HLM.out; omega
                        · rw [ByteArray.size_extract]; have := HS2.out; have := HOB.out; have := HN2.out; omega
                        · rw [Hid, HG.out, L_cut sb2 m.length sb2.size (Nat.le_refl _)]
                      case measure =>
                        show (sb2.extract m.length sb2.size).size < sb.size
                        rw [ByteArray.size_extract]; have := HPOS.out; have := HS3.out; have := HLM.out; omega
                    · have hb2 : (m == [60, 33, 45, 45, 101, 115, 105]) = false := beq_eq_false_iff_ne.2 hB2
                      rw [if_neg (fun h => h.elim hB2 hB)] at HG
                      have hmo : m = openB ∨ m = closB := by
                        rcases HMM.out with h | h | h | h | h
                        · exact absurd h HM0.out
                        · exact .inl h
                        · exact .inr h
                        · exact absurd h hB2
                        · exact absurd h hB
                      have h5 : 5 ≤ sb2.size := by
                        have := HLM.out
                        rcases hmo with h | h
                        · rw [h] at this; have e : openB.length = 5 := rfl; omega
                        · rw [h] at this; have e : closB.length = 6 := rfl; omega
                      have HTC := Lib.hid (rtagf_calls sb2 w5 (by have := HS3.out; omega) h5)
                      have htm : tagF m (L sb2) 0 = refTagF (begF (L sb2) closB) (L sb2) := tagF_ref hmo HBG.out
                      unfold cutF at HG
                      rw [htm] at HG
                      have HTT : Hid (∀ t r k, refTagF (begF (L sb2) closB) (L sb2) = .ok t r k → k ≤ sb2.size ∧ 0 < k) := fun t r k h => by
                        rw [← htm] at h
                        have h2 := tagF_total h
                        rw [hrl] at h2
                        omega
                      generalize refTagF (begF (L sb2) closB) (L sb2) = FT at *
                      clear hB hB2 hmo h5 HBG HMM htm
                      go_wp2_with fail
                      refine HTC.out.mono ?_
                      rintro e w6 hp
                      obtain ⟨hb6, kd, nm, A, nn, c, a, z, sh, rfl, hi, ht6⟩ := hp
                      have ST6 := Lib.hid (ST5.out.step hb6)
                      have hT := (Blk.new w6 80 #[.int .i64 kd, .string nm, .slice A nn c]).alloc (.cells #[.string sb2, .int .i64 a, .int .i64 z, .bool sh] 107)
                      have hR := Blk.new (w6.alloc (.cells #[.int .i64 kd, .string nm, .slice A nn c] 80)) 107 #[.string sb2, .int .i64 a, .int .i64 z, .bool sh]
                      rw [size_alloc] at hR
                      have hbe7 := ((Below.refl w6.heap.size w6).alloc (Nat.le_refl _) (.cells #[.int .i64 kd, .string nm, .slice A nn c] 80)).alloc (by rw [size_alloc]; omega) (.cells #[.string sb2, .int .i64 a, .int .i64 z, .bool sh] 107)
                      have ST7 := Lib.hid (ST6.out.step hbe7)
                      have HSZ : Hid (X + 2 ≤ w5.heap.size ∧ w5.heap.size ≤ w6.heap.size) := ⟨by have := ST5.out.hR.lt; omega, hb6.size⟩
                      have HOL : Hid (∀ k, (Value.slice A2 N2 c2).ownBlock = some k → X + 2 ≤ k ∧ k < w5.heap.size) := ST5.out.own.lt
                      have t0 := hT.cell 0
                      have t1 := hT.cell 1
                      have t2 := hT.cell 2
                      obtain ⟨⟨d0, d1, d2, d3⟩, -, -, -⟩ := rblk hR
                      have HR := Lib.hid hR
                      clear hb6 HTC ST5 hT hR hb1 hb2 hml1 hml2
                      cases FT with
                      | short =>
                        obtain ⟨rfl, rfl⟩ := hi
                        have HF0 : Hid (F = (⟨L sb2, b'⟩, o2, 0)) := HG.out.trans (by simp)
                        have z0 := ST7.out.hR.cell 0
                        have z1 := ST7.out.hR.cell 1
                        have z2 := ST7.out.hR.frozen 0
                        have z3 := ST7.out.hR.frozen 1
                        clear HG ht6 hbe7
                        go_wp2_with fail
                        obtain ⟨r0, r1, r2⟩ := ST7.out.ret (.string sb2) (.bool b')
                        refine bodyPost_ret (rfeed_results rfl rfl rfl r0) rfl ⟨_, by rw [HF0.out, bs_L]; rfl, ?_, r2⟩
                        rw [HF0.out]
                        exact r1
                      | bad y =>
                        obtain ⟨rfl, hy, rfl⟩ := hi
                        have HF0 : Hid (F = (⟨[], false⟩, [], z)) := HG.out.trans (by simp [hy])
                        have hyb : (z != 0) = true := by rw [bne_iff_ne]; exact hy
                        have z0 := ST7.out.hR.cell 0
                        have z1 := ST7.out.hR.cell 1
                        have z2 := ST7.out.hR.frozen 0
                        have z3 := ST7.out.hR.frozen 1
                        clear HG ht6 hbe7 hy
                        go_wp2_with fail
                        go_region
                        go_wp2_with fail
                        obtain ⟨r0, r1, r2⟩ := ST7.out.ret (.string (bs [])) (.bool false)
                        refine bodyPost_ret (rfeed_results rfl rfl rfl (r0.drewN 1)) rfl ⟨.slice none 0 0, by rw [HF0.out]; rfl, ?_, r2.drew⟩
                        rw [HF0.out]
                        exact OwnR.nil _ _ _ _ _
                      | ok t r k =>
                        obtain ⟨-, rfl, rfl, rfl⟩ := hi
                        obtain ⟨e1, e2, e3⟩ := ht6 t r k rfl
                        obtain ⟨hk1, hk2⟩ := HTT.out t r k rfl
                        subst e1
                        have HF0 : Hid (F = feedLoop n b' ((L sb2).drop k) (o2 ++ [t])) := HG.out.trans (by simp; omega)
                        have HE2 := Lib.hid e2
                        have HK := Lib.hid (And.intro hk1 hk2)
                        have hA := (feed_app ST7.out HN2.out (by have := HOB.out; have := HS2.out; omega) t nm e2.symm (.slice A nn c) (GR.mono (fun g hg => by
                          have hg : w5.heap.size ≤ g := hg
                          refine ⟨by have := HSZ.out; omega, fun e => ?_⟩
                          have := (HOL.out g e.symm).2
                          omega) (fun g _ hlt => hbe7.block g hlt) _ _ e3))
                        rw [size_alloc, size_alloc] at hA
                        have HA := Lib.hid hA
                        have HST8 := Lib.hid (ST7.out.step ((Below.refl _ _).alloc (Nat.le_refl _) (.cells #[.int .i64 t.kind, .string nm, .slice A nn c] 80)))
                        have HR8 := Lib.hid (HR.out.alloc (.cells #[.int .i64 t.kind, .string nm, .slice A nn c] 80))
                        have hk3 : (0 : Int) ≤ (k : Int) := by omega
                        have hk4 : (k : Int) ≤ (sb2.size : Int) := by omega
                        clear HG ht6 hbe7 e2 e3 hk1 hk2 hA
                        go_wp2_with (at_builtin; go_loud (refine HA.out.plain rfl _ _ _ rfl tokTy rfl rfl ?_); intro A9 c9 w9 hown hgr hor; have ST9 : Hid (FeedSt w w9 X rest b (.slice A9 (N2 + 1) c9) (o2 ++ [t])) := HST8.out.push hgr (by rw [List.map_append]; exact hown); have g1 := (HR8.out.grown hgr (fun e => by have := (HOL.out _ e.symm).2; have := HSZ.out; omega)).cell 1; clear hown hgr hor)
                        go_roundw
                        case rel =>
                          refine ⟨n, b', sb2.extract k sb2.size, o2 ++ [t], rfl, rfl, ST9.out, ?_, ?_, ?_⟩
                          · rw [ByteArray.size_extract]; have := HS3.out; have := HNN.out; have := HK.out; omega
                          · rw [ByteArray.size_extract, List.length_append, ← HN2.out]; have := HS2.out; have := HOB.out; have := HK.out; simp; omega
                          · rw [Hid, HF0.out, L_cut sb2 k sb2.size (Nat.le_refl _)]
                        case measure =>
                          show (sb2.extract k sb2.size).size < sb.size
                          rw [ByteArray.size_extract]; have := HS3.out; have := HK.out; omega
            · rw [if_neg hjI]
              go_wp2_with fail
              go_roundw
              case rel => exact ⟨j + 1, by omega, by go_num, ST4.out⟩
              case measure => simp [intOf]; omega
          · have hjI : j = I := by omega
            have hm0 : m = [] := HNIL.out.2 (by omega)
            subst hjI
            subst hm0
            have HMK : Hid (refMark b' (L (sb.extract j sb.size)) = []) := by
              rw [Hid, L_cut sb j sb.size (Nat.le_refl _), HMA.out j (Nat.le_refl _), if_pos rfl]
            have HF0 : Hid (F = (⟨(L sb).drop j, b'⟩, o ++ [textTok (L (sb.extract 0 j))], 0)) := by
              rw [Hid, HG.out, withText_pos (by have := HSB.out; omega)]
              exact feedStep_short (.inr rfl)
            have HA := Lib.hid (feed_app_text ST.out HN.out (by have := HOB.out; omega) (sb.extract 0 j))
            have HST8 := Lib.hid (ST.out.step ((Below.refl _ _).alloc (Nat.le_refl _) (.cells #[.int .i64 0, .string (sb.extract 0 j), .slice none 0 0] 80)))
            have hjp : (0 : Int) < (j : Int) := by have := HSB.out; omega
            clear HG HMA HMM
            go_wp2_with (at_builtin; go_loud (refine HA.out.plain rfl _ _ _ rfl tokTy rfl rfl ?_); intro A9 c9 w9 hown hgr hor; have ST9 : Hid (FeedSt w w9 X rest b (.slice A9 (N + 1) c9) (o ++ [textTok (L (sb.extract 0 j))])) := HST8.out.push hgr (by rw [List.map_append]; exact hown); clear hown hgr hor)
            refine (rmark_calls (sb.extract j sb.size) b' _).mono ?_
            rw [HMK.out]
            rintro e w10 ⟨rfl, hb10⟩
            have ST10 := Lib.hid (ST9.out.step hb10)
            clear hb10 ST9 HST8 HA ST
            have z0 := ST10.out.hR.cell 0
            have z1 := ST10.out.hR.cell 1
            have z2 := ST10.out.hR.frozen 0
            have z3 := ST10.out.hR.frozen 1
            have hbn : (bs []).size = 0 := rfl
            go_wp2_with fail
            obtain ⟨r0, r1, r2⟩ := ST10.out.ret (.string (sb.extract j sb.size)) (.bool b')
            refine bodyPost_ret (rfeed_results rfl rfl rfl r0) rfl ⟨_, by rw [HF0.out, ← L_cut sb j sb.size (Nat.le_refl _), bs_L]; rfl, ?_, r2⟩
            rw [HF0.out]
            exact r1
end Go.Proofs.YtijpfcjlochahaaGreatDoor
namespace Go.Proofs.YtijpfcjlochahaaGreatDoor
set_option linter.unusedVariables false
set_option linter.unusedSimpArgs false
open Go Go.RowKit

theorem tok_app {W : World} {base : Nat} {G : Nat → Prop} {v : Value} {o : List Token} (own : OwnR W base 80 3 G v (o.map Token.gv)) {N : Nat} (hN : N = o.length) (hl : N ≤ 9000000) (t : Token) (tx : ByteArray) (ht : t.text = L tx) (va : Value)
    (hva : GR W (fun g => G g ∧ some g ≠ v.ownBlock) (.row 2 (t.attrs.map Pair.gv)) [va]) (hbase : base ≤ W.heap.size) :
    App (W.alloc (.cells #[.int .i64 t.kind, .string tx, va] 80)) base 80 3 48 G v (o.map Token.gv) (some ⟨W.heap.size, 0, none⟩) 1 [t.gv] [.int .i64 t.kind, .string tx, va] (N + 1) := by
  subst hN
  have hb1 := (Below.refl W.heap.size W).alloc (Nat.le_refl _) (.cells #[.int .i64 t.kind, .string tx, va] 80)
  have hown := own.below hb1
  have hx : GR (W.alloc (.cells #[.int .i64 t.kind, .string tx, va] 80)) (fun k => G k ∧ some k ≠ v.ownBlock) t.gv [.int .i64 t.kind, .string tx, va] := by
    have h := cells_tok (k := t.kind) (t := t.text) (hva.below hb1)
    rw [ht, bs_L] at h
    rw [Token.gv, ht]
    exact h
  have key := App.of_new (bytes := 48) (size := 3) hown (Blk.new W 80 #[.int .i64 t.kind, .string tx, va]) hx rfl (by rw [List.length_map]; omega) (by omega) (by rw [size_alloc]; omega)
  rw [List.length_map] at key
  exact key
theorem tok_app_text {W : World} {base : Nat} {G : Nat → Prop} {v : Value} {o : List Token} (own : OwnR W base 80 3 G v (o.map Token.gv)) {N : Nat} (hN : N = o.length) (hl : N ≤ 9000000) (tx : ByteArray) (hbase : base ≤ W.heap.size) :
    App (W.alloc (.cells #[.int .i64 0, .string tx, .slice none 0 0] 80)) base 80 3 48 G v (o.map Token.gv) (some ⟨W.heap.size, 0, none⟩) 1 [(textTok (L tx)).gv] [.int .i64 0, .string tx, .slice none 0 0] (N + 1) :=
  tok_app own hN hl (textTok (L tx)) tx rfl (.slice none 0 0) gr_nil hbase
/-- What Join has at a token. -/
structure JoSt (w W : World) (G : Nat → Prop) (A : Option Addr) (N c : Nat) (o : List Token) : Prop where
  own : OwnR W w.heap.size 80 3 G (.slice A N c) (o.map Token.gv)
  below : Below w.heap.size w W
  len : N = o.length
theorem JoSt.step {w W W' : World} {G : Nat → Prop} {A : Option Addr} {N c : Nat} {o : List Token} (h : JoSt w W G A N c o) (hb : Below W.heap.size W W') : JoSt w W' G A N c o :=
  ⟨h.own.below hb, h.below.trans (hb.mono h.below.size), h.len⟩
theorem JoSt.push {w W W' : World} {G : Nat → Prop} {A A' : Option Addr} {N c c' : Nat} {o : List Token} {t : Token} (h : JoSt w W G A N c o) (hg : W.grownBy W' (Value.slice A N c).ownBlock) (ho : OwnR W' w.heap.size 80 3 G (.slice A' (N + 1) c') (o.map Token.gv ++ [t.gv])) :
    JoSt w W' G A' (N + 1) c' (o ++ [t]) :=
  ⟨by rw [List.map_append]; exact ho, h.below.trans (below_of_grown hg h.below.size (fun k hk => (h.own.lt k hk).1)), by rw [List.length_append, ← h.len]; rfl⟩
theorem textSum_drop_le (l : List Token) (k : Nat) : textSum (l.take k) ≤ textSum l := by
  have h := congrArg textSum (List.take_append_drop k l)
  rw [textSum_append] at h
  omega
set_option maxRecDepth 20000 in
set_option maxHeartbeats 4000000 in
theorem rjoin_calls (l : List Token) (v : Value) (F : Nat → Prop) (w : World) (hv : GR w F (.row 3 (l.map Token.gv)) [v]) (hlen : l.length ≤ 4000000) (hsum : textSum l ≤ 100000000) :
    Calls Tryz.prog 58 #[v] w fun e w' => (∃ v', e = .returned v' ∧ GR w' (fun g => (F g ∧ g < w.heap.size) ∨ w.heap.size ≤ g) (.row 3 ((joinR l [] []).map Token.gv)) [v']) ∧ Below w.heap.size w w' := by
  obtain ⟨A, c, rfl, hlc, hcm, hop⟩ := toks_open (GR.lt_heap _ _ hv)
  have HOP := Lib.hid hop
  generalize hR : joinR l [] [] = R
  have HR0 := Lib.hid hR
  clear hop hv hR
  have HS0 : Hid (JoSt w (w.alloc (.cells #[] 80)) (fun g => F g ∧ g < w.heap.size) (some ⟨w.heap.size, 0, none⟩) 0 0 []) :=
    ⟨⟨[], World.ownsRow_lit w #[] 0 (Nat.le_refl _) (by simp [maxLen]) (by simp), GRl_nil.2 rfl⟩, (Below.refl _ _).alloc (Nat.le_refl _) _, rfl⟩
  unfold maxLen at hcm
  have hfin : ∀ (W : World) (A' : Option Addr) (N' c' : Nat) (o : List Token), JoSt w W (fun g => F g ∧ g < w.heap.size) A' N' c' o → o = R →
      (∃ v', Ending.returned (.slice A' N' c') = .returned v' ∧ GR W (fun g => (F g ∧ g < w.heap.size) ∨ w.heap.size ≤ g) (.row 3 (R.map Token.gv)) [v']) ∧ Below w.heap.size w W := by
    intro W A' N' c' o st ho
    subst ho
    exact ⟨⟨_, rfl, st.own.gr (fun _ h => .inl h) (fun k hk => .inr (st.own.lt k hk).1)⟩, st.below⟩
  have HFIN := Lib.hid hfin
  clear hfin
  go_enter Tryz.func58, Tryz.ntmps58
  go_wp2_with fail
  go_loopw [3, 4, 10] (fun v1 s1 i wr => ∃ (k : Nat) (tx : ByteArray) (A' : Option Addr) (N' c' : Nat) (o : List Token), k ≤ l.length ∧ v1 = .slice A' N' c' ∧ s1 = .string tx ∧ i = .int .i64 k ∧ Hid (JoSt w wr (fun g => F g ∧ g < w.heap.size) A' N' c' o) ∧
      Hid (joinR (l.drop k) (L tx) o = R) ∧ N' ≤ 2 * k ∧ Hid (tx.size ≤ textSum (l.take k)))
     (fun _ _ i _ => l.length - (intOf i).toNat)
  case atStart => exact ⟨0, ⟨#[]⟩, _, 0, 0, [], Nat.zero_le _, rfl, rfl, rfl, HS0.out, HR0.out, Nat.zero_le _, Nat.zero_le _⟩
  case round =>
    clear HS0 HR0
    obtain ⟨k, tx, A', N', c', o, hk, rfl, rfl, rfl, ST, HJ, hn, HX⟩ := hrel
    have htx : tx.size ≤ 100000000 := Nat.le_trans HX.out (Nat.le_trans (textSum_drop_le l k) hsum)
    by_cases hlt : k < l.length
    · obtain ⟨bb, off, rfl, ⟨hF, hbl⟩, hop2⟩ := HOP.out (by rintro rfl; simp at hlt)
      obtain ⟨va, k0, k1, k2, hva⟩ := hop2 k hlt
      have e0 := (ST.out.below.cell (p := ⟨bb, off + k * 3, none⟩) hbl).trans k0
      have e1 := (ST.out.below.cell (p := ⟨bb, off + k * 3 + 1, none⟩) hbl).trans k1
      have e2 := (ST.out.below.cell (p := ⟨bb, off + k * 3 + 2, none⟩) hbl).trans k2
      have HD : Hid (l.drop k = l[k] :: l.drop (k + 1)) := List.drop_eq_getElem_cons hlt
      rw [HD.out] at HJ
      have HTS := Lib.hid (textSum_take l k hlt)
      have HTK : Hid (textSum (l.take (k + 1)) = textSum (l.take k) + l[k].text.length) := by
        rw [Hid, List.take_succ_eq_append_getElem hlt, textSum_append]; simp [textSum]
      obtain ⟨Av, nv, cv, hvv⟩ : ∃ Av nv cv, va = .slice Av nv cv := by
        obtain ⟨Aa, ca, xs, h, _⟩ := GR_row.1 hva
        injection h with h _
        exact ⟨_, _, _, h⟩
      subst hvv
      have HVA := Lib.hid hva
      clear hop2 hva k0 k1 k2 HD
      generalize l[k] = t at *
      have ST5 := Lib.hid (ST.out.step ((Below.refl _ _).alloc (Nat.le_refl _) (.cells #[.int .i64 t.kind, .string (bs t.text), .slice Av nv cv] 80)))
      have hT := Blk.new wr 80 #[.int .i64 t.kind, .string (bs t.text), .slice Av nv cv]
      have HT := Lib.hid hT
      have HOLD : Hid (∀ g, (Value.slice A' N' c').ownBlock = some g → w.heap.size ≤ g ∧ g < wr.heap.size) := ST.out.own.lt
      clear hT ST
      unfold joinR at HJ
      by_cases hkd : t.kind = 0
      · have hkb : (t.kind == 0) = true := by rw [hkd]; rfl
        rw [if_pos hkd] at HJ
        have hsz : tx.size + (bs t.text).size ≤ 200000000 := by
          have := HTS.out
          have := HX.out
          rw [size_bs]
          omega
        clear hkd
        go_wp2_with fail
        go_roundw
        case rel =>
          refine ⟨k + 1, tx ++ bs t.text, A', N', c', o, by omega, rfl, rfl, by go_num, ST5.out, ?_, by omega, ?_⟩
          · rw [Hid, L_append, L_bs]; exact HJ.out
          · have := HX.out
            rw [Hid, ByteArray.size_append, size_bs, HTK.out]
            omega
        case measure => simp [intOf]; omega
      · have hkb : (t.kind == 0) = false := by rw [beq_eq_false_iff_ne]; exact hkd
        rw [if_neg hkd] at HJ
        clear hkd
        have HN5 := Lib.hid ST5.out.len
        have HOL : Hid (∀ g, (Value.slice A' N' c').ownBlock = some g → w.heap.size ≤ g ∧ g < wr.heap.size) := HOLD.out
        have HNB : Hid (N' ≤ 9000000) := by rw [Hid]; omega
        have HVM : Hid (∀ (W : World) (v' : Value), Below w.heap.size w W → (∀ g, v'.ownBlock = some g → w.heap.size ≤ g) → GR W (fun g => (F g ∧ g < w.heap.size) ∧ some g ≠ v'.ownBlock) (.row 2 (t.attrs.map Pair.gv)) [.slice Av nv cv]) := fun W v' hb hv =>
          GR.mono (fun g hg => ⟨hg, fun e => by have := hv g e.symm; have := hg.2; omega⟩) (fun g _ hlt => hb.block g hlt) _ _ HVA.out
        have d0 := HT.out.cell 0
        have d1 := HT.out.cell 1
        have d2 := HT.out.cell 2
        cases htxe : tx.toList.isEmpty with
        | true =>
          have HTE : Hid (L tx = []) := by rw [toList_L] at htxe; exact List.isEmpty_iff.1 htxe
          rw [if_pos HTE.out] at HJ
          have hA := tok_app ST5.out.own HN5.out HNB.out t (bs t.text) (L_bs _).symm (.slice Av nv cv) (HVM.out _ _ ST5.out.below (fun g e => (HOL.out g e).1)) ST5.out.below.size
          rw [size_alloc] at hA
          have HA := Lib.hid hA
          have HST8 := Lib.hid (ST5.out.step ((Below.refl _ _).alloc (Nat.le_refl _) (.cells #[.int .i64 t.kind, .string (bs t.text), .slice Av nv cv] 80)))
          clear hA
          go_wp2_with (at_builtin; go_loud (refine HA.out.plain rfl _ _ _ rfl tokTy rfl rfl ?_); intro A9 c9 w9 hown hgr hor; have ST9 := Lib.hid (HST8.out.push hgr hown); clear hown hgr hor)
          go_roundw
          case rel => exact ⟨k + 1, ⟨#[]⟩, A9, N' + 1, c9, o ++ [t], by omega, rfl, rfl, by go_num, ST9.out, HJ.out, by omega, Nat.zero_le _⟩
          case measure => simp [intOf]; omega
        | false =>
          have HTE : Hid (¬ L tx = []) := by rw [toList_L] at htxe; exact fun h => by rw [h] at htxe; cases htxe
          rw [if_neg HTE.out] at HJ
          have hA := tok_app_text ST5.out.own HN5.out HNB.out tx ST5.out.below.size
          rw [size_alloc] at hA
          have HA := Lib.hid hA
          have HST8 := Lib.hid (ST5.out.step ((Below.refl _ _).alloc (Nat.le_refl _) (.cells #[.int .i64 0, .string tx, .slice none 0 0] 80)))
          have HT8 := Lib.hid (HT.out.alloc (.cells #[.int .i64 0, .string tx, .slice none 0 0] 80))
          clear hA
          go_wp2_with (at_builtin; first | (go_loud (refine HA.out.plain rfl _ _ _ rfl tokTy rfl rfl ?_); intro A9 c9 w9 hown hgr hor; have ST9 := Lib.hid (HST8.out.push hgr hown); have hT9 := HT8.out.grown hgr (fun e => by have := (HOL.out _ e.symm).2; omega); have g0 := hT9.cell 0; have g1 := hT9.cell 1; have g2 := hT9.cell 2; have HA2 := Lib.hid (tok_app ST9.out.own ST9.out.len (by have := HNB.out; omega) t (bs t.text) (L_bs _).symm (.slice Av nv cv) (HVM.out _ _ ST9.out.below (fun g e => (ST9.out.own.lt g e).1)) ST9.out.below.size); have HST10 := Lib.hid (ST9.out.step ((Below.refl _ _).alloc (Nat.le_refl _) (.cells #[.int .i64 t.kind, .string (bs t.text), .slice Av nv cv] 80))); clear hown hgr hor hT9) | (go_loud (refine HA2.out.plain rfl _ _ _ rfl tokTy rfl rfl ?_); intro A11 c11 w11 hown hgr hor; have ST11 := Lib.hid (HST10.out.push hgr hown); clear hown hgr hor))
          go_roundw
          case rel => exact ⟨k + 1, ⟨#[]⟩, A11, N' + 1 + 1, c11, o ++ [textTok (L tx)] ++ [t], by omega, rfl, rfl, by go_num, ST11.out, HJ.out, by omega, Nat.zero_le _⟩
          case measure => simp [intOf]; omega
    · have hkl : k = l.length := by omega
      subst hkl
      rw [List.drop_length] at HJ
      unfold joinR at HJ
      cases htxe : tx.toList.isEmpty with
      | true =>
        rw [if_pos (by rw [toList_L] at htxe; exact List.isEmpty_iff.1 htxe)] at HJ
        go_wp2_with fail
        go_ret
        exact HFIN.out _ _ _ _ _ ST.out HJ.out
      | false =>
        rw [if_neg (by rw [toList_L] at htxe; exact fun h => by rw [h] at htxe; cases htxe)] at HJ
        have HA := Lib.hid (tok_app_text ST.out.own ST.out.len (by omega) tx ST.out.below.size)
        have HST8 := Lib.hid (ST.out.step ((Below.refl _ _).alloc (Nat.le_refl _) (.cells #[.int .i64 0, .string tx, .slice none 0 0] 80)))
        go_wp2_with (at_builtin; go_loud (refine HA.out.plain rfl _ _ _ rfl tokTy rfl rfl ?_); intro A9 c9 w9 hown hgr hor; have ST9 := Lib.hid (HST8.out.push hgr hown); clear hown hgr hor)
        go_ret
        exact HFIN.out _ _ _ _ _ ST9.out HJ.out
theorem rendF_len (x : LexSt) : (endF x).1.length ≤ 1 ∧ textSum (endF x).1 ≤ x.rest.length := by
  unfold endF
  split
  · split
    · simp [textSum]
    · split
      · simp [textSum]
      · simp [textSum, textTok]
  · simp [textSum]
theorem allF_ref (s : List UInt8) : allF s = if (feedF ⟨[], false⟩ s).2.2 ≠ 0 then ([], (feedF ⟨[], false⟩ s).2.2) else if (endF (feedF ⟨[], false⟩ s).1).2 ≠ 0 then ([], (endF (feedF ⟨[], false⟩ s).1).2) else (joinR ((feedF ⟨[], false⟩ s).2.1 ++ (endF (feedF ⟨[], false⟩ s).1).1) [] [], 0) := by
  rw [join_ref]
  · rfl
  · intro t ht
    rcases List.mem_append.1 ht with h | h
    · exact feedF_plain _ _ t h
    · exact endF_plain _ t h
set_option maxRecDepth 20000 in
set_option maxHeartbeats 4000000 in
theorem rall_calls (s : ByteArray) (w : World) (hs : s.size ≤ 3000000) :
    Calls Tryz.prog 34 #[.string s] w fun e w' => (∃ v, e = .returned (.tuple #[v, .int .i64 (allF (L s)).2]) ∧ GR w' (fun g => w.heap.size ≤ g) (.row 3 ((allF (L s)).1.map Token.gv)) [v]) ∧ Below w.heap.size w w' := by
  have HFC := Lib.hid (rfeed_calls ⟨#[]⟩ s false w (by have e : (⟨#[]⟩ : ByteArray).size = 0 := rfl; omega))
  rw [show L ⟨#[]⟩ = [] from rfl] at HFC
  have HAL := Lib.hid (allF_ref (L s))
  have HFL := Lib.hid (feedF_len ⟨[], false⟩ (L s))
  have HEL := Lib.hid (rendF_len (feedF ⟨[], false⟩ (L s)).1)
  have HSL := Lib.hid (size_L s)
  generalize allF (L s) = R at *
  generalize feedF ⟨[], false⟩ (L s) = f at *
  obtain ⟨⟨rs, ins⟩, o, ef⟩ := f
  simp only at HAL HFL HEL
  have HRS : Hid ((bs rs).size ≤ 3000000) := by
    have := HFL.out.1
    have := HSL.out
    rw [Hid, size_bs]
    have h := HFL.out.1
    simp only [List.length_nil] at h
    omega
  go_enter Tryz.func34, Tryz.ntmps34
  go_wp2_with fail
  refine HFC.out.mono ?_
  rintro e w2 hp
  obtain ⟨v2, rfl, ho2, hb2⟩ := hp
  obtain ⟨A2, c2, hv2⟩ := OwnR.form ho2
  subst hv2
  rw [List.length_map] at ho2 ⊢
  try simp only at ho2
  have HB2 := Lib.hid hb2
  have hX := Blk.new w2 48 #[.string (bs rs), .bool ins]
  have HB3 := Lib.hid (hb2.alloc hb2.size (.cells #[.string (bs rs), .bool ins] 48))
  have HO3 := Lib.hid (ho2.below ((Below.refl _ _).alloc (Nat.le_refl _) (.cells #[.string (bs rs), .bool ins] 48)))
  have c0 := hX.cell 0
  have c1 := hX.cell 1
  obtain ⟨N, hN⟩ : ∃ N, N = o.length := ⟨_, rfl⟩
  rw [← hN] at HO3 ⊢
  have HN := Lib.hid hN
  clear hX hb2 ho2 HFC hN
  by_cases hef : ef = 0
  · have hefb : (ef != 0) = false := by rw [hef]; rfl
    rw [if_neg (by simpa using hef)] at HAL
    subst hef
    clear hefb
    go_wp2_with fail
    refine (rend_calls (bs rs) ins _ (by have := HRS.out; omega)).mono ?_
    rw [L_bs]
    rintro e w4 ⟨⟨v4, rfl, hg4⟩, hb4⟩
    generalize endF ⟨rs, ins⟩ = g at *
    obtain ⟨o4, eg⟩ := g
    simp only at HAL HEL hg4
    obtain ⟨A4, c4, rfl, -, -, -⟩ := toks_open hg4
    have HB4 := Lib.hid (HB3.out.trans (hb4.mono HB3.out.size))
    have HO4 := Lib.hid (HO3.out.below hb4)
    have HG4 := Lib.hid hg4
    have HLT : Hid (∀ k, (Value.slice A2 N c2).ownBlock = some k → w.heap.size ≤ k ∧ k < (w2.alloc (.cells #[.string (bs rs), .bool ins] 48)).heap.size) := HO3.out.lt
    have HS34 : Hid (w.heap.size ≤ (w2.alloc (.cells #[.string (bs rs), .bool ins] 48)).heap.size) := HB3.out.size
    clear hg4 hb4 c0 c1
    by_cases heg : eg = 0
    · have hegb : (eg != 0) = false := by rw [heg]; rfl
      rw [if_neg (by simpa using heg)] at HAL
      subst heg
      clear hegb
      have hlen : o.length + o4.length ≤ 3000001 := by
        have h := HFL.out.1
        have h2 := HEL.out.1
        have h3 := HSL.out
        simp only [List.length_nil] at h
        omega
      have hsum : textSum (o ++ o4) ≤ 100000000 := by
        have h := HFL.out.2
        have h2 := HEL.out.2
        have h3 := HSL.out
        simp only [List.length_nil] at h
        rw [textSum_append]
        omega
      have HLEN := Lib.hid hlen
      have HSUM := Lib.hid hsum
      obtain ⟨news, hA⟩ := App.of_row (bytes := 48) HO4.out HG4.out (Below.refl _ _) (fun k hk _ => ⟨by have h : _ ≤ k := hk; have := HS34.out; omega, fun e => by have h : _ ≤ k := hk; have := (HLT.out k e.symm).2; omega⟩) (by rw [List.length_map, List.length_map]; omega) (by omega) HB4.out.size
      rw [List.length_map, List.length_map, ← HN.out] at hA
      have HA := Lib.hid hA
      clear hA hlen hsum HG4 HO3
      go_wp2_with (at_builtin; go_loud (refine HA.out.plain rfl _ _ _ rfl tokTy rfl rfl ?_); intro A9 c9 w9 hown hgr hor; have HO9 : Hid (OwnR w9 w.heap.size 80 3 (fun g => w.heap.size ≤ g) (.slice A9 (N + o4.length) c9) ((o ++ o4).map Token.gv)) := (by rw [Hid, List.map_append]; exact hown); have HB9 := Lib.hid (HB4.out.trans (below_of_grown hgr HB4.out.size (fun k hk => (HLT.out k hk).1))); clear hown hgr hor)
      refine (rjoin_calls (o ++ o4) _ (fun g => w.heap.size ≤ g) w9 (HO9.out.gr (fun _ h => h) (fun k hk => (HO9.out.lt k hk).1)) (by rw [List.length_append]; have := HLEN.out; omega) HSUM.out).mono ?_
      rintro e w10 ⟨⟨v10, rfl, hg10⟩, hb10⟩
      have HB10 := Lib.hid (HB9.out.trans (hb10.mono HB9.out.size))
      have HG10 : Hid (GR w10 (fun g => w.heap.size ≤ g) (.row 3 ((joinR (o ++ o4) [] []).map Token.gv)) [v10]) := hg10.weaken (fun g hg => hg.elim (fun h => h.1) (fun h => by have := HB9.out.size; omega))
      obtain ⟨A10, c10, hv10, -, -, -⟩ := toks_open hg10
      subst hv10
      clear hb10 hg10
      go_wp2_with fail
      go_ret2
      exact ⟨⟨_, by rw [HAL.out]; rfl, by rw [HAL.out]; exact HG10.out⟩, HB10.out⟩
    · have hegb : (eg != 0) = true := by rw [bne_iff_ne]; exact heg
      rw [if_pos (by simpa using heg)] at HAL
      clear heg
      go_wp2_with fail
      go_ret2
      exact ⟨⟨_, by rw [HAL.out]; rfl, by rw [HAL.out]; exact gr_nil⟩, HB4.out⟩
  · have hefb : (ef != 0) = true := by rw [bne_iff_ne]; exact hef
    rw [if_pos (by simpa using hef)] at HAL
    clear hef
    go_wp2_with fail
    go_ret2
    exact ⟨⟨_, by rw [HAL.out]; rfl, by rw [HAL.out]; exact gr_nil⟩, HB3.out⟩
end Go.Proofs.YtijpfcjlochahaaGreatDoor
