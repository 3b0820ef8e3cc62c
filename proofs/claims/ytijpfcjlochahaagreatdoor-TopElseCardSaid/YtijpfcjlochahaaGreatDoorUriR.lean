/- The walk of uri.Right. -/
import Derived.Test.YtijpfcjlochahaaGreatDoorUriW
set_option linter.unusedVariables false
set_option linter.unusedSimpArgs false
namespace Go.Proofs.YtijpfcjlochahaaGreatDoor
open Go Go.RowKit
set_option linter.unusedVariables false
set_option linter.unusedSimpArgs false

theorem okF_path {u : UriD} (h : u.path.any badB = true) : uriOk u = false := by unfold uriOk okF; rw [h]; rfl
theorem okF_query {u : UriD} (h : u.query.any badB = true) : uriOk u = false := by unfold uriOk okF; rw [h]; simp
theorem okF_ask {u : UriD} (h : decide (0 ≤ Lib.indexByte u.path 63) = true) : uriOk u = false := by unfold uriOk okF; rw [h]; simp
theorem okF_noq {u : UriD} (h1 : u.asks = false) (h2 : u.query.isEmpty = false) : uriOk u = false := by unfold uriOk okF; rw [h1, h2]; simp
theorem okF_neg {u : UriD} (h : ¬ 0 ≤ u.port) : uriOk u = false := by unfold uriOk okF; rw [decide_eq_false h]; simp
theorem okF_port {u : UriD} (h : ¬ u.port ≤ 65535) : uriOk u = false := by unfold uriOk okF; rw [decide_eq_false h]; simp
theorem okF_len {u : UriD} (h : ¬ (writeF u).length ≤ 500) : uriOk u = false := by unfold uriOk okF; rw [decide_eq_false h]; simp
theorem okF_all {u : UriD} (h1 : u.path.any badB = false) (h2 : u.query.any badB = false) (h3 : decide (0 ≤ Lib.indexByte u.path 63) = false) (h4 : u.asks = true ∨ u.query.isEmpty = true) (h5 : 0 ≤ u.port) (h6 : u.port ≤ 65535) (h7 : (writeF u).length ≤ 500) : okF u = true := by
  unfold okF
  rw [h1, h2, h3, decide_eq_true h5, decide_eq_true h6, decide_eq_true h7]
  rcases h4 with h4 | h4 <;> rw [h4] <;> simp
set_option maxRecDepth 20000 in
set_option maxHeartbeats 8000000 in
theorem uright_calls (u : UriD) (hs : u.small) (w : World) (hg : Glob w) :
    Calls Tryz.prog 85 #[u.val] w fun e w' => e = .returned (.bool (uriOk u)) ∧ Below w.heap.size w w' := by
  have HS := Lib.hid hs
  have HO := Lib.hid (fun W (hp : 0 ≤ u.port) (hg : Glob W) => uwrite_calls u hs hp W hg)
  have HUP := Lib.hid (okF_path (u := u))
  have HUQ := Lib.hid (okF_query (u := u))
  have HUA := Lib.hid (okF_ask (u := u))
  have HUN := Lib.hid (okF_noq (u := u))
  have HUG := Lib.hid (okF_neg (u := u))
  have HUO := Lib.hid (okF_port (u := u))
  have HUL := Lib.hid (okF_len (u := u))
  have HUX := Lib.hid (okF_all (u := u))
  have HUE : Hid (uriOk u = (okF u && (if u.abs then hostF u.host && Lib.hasPrefix u.path [47] else u.host.isEmpty && (decide (u.port = 0) && (!Lib.hasPrefix u.path [47, 47] && !decide (0 ≤ Lib.indexByte (Lib.cut u.path [47]).1 58)))))) := rfl
  obtain ⟨abs, host, port, path, asks, query⟩ := u
  simp only [UriD.val] at *
  generalize uriOk ⟨abs, host, port, path, asks, query⟩ = R at *
  generalize okF ⟨abs, host, port, path, asks, query⟩ = OK at *
  have HWL : Hid ((bs (writeF ⟨abs, host, port, path, asks, query⟩)).size = (writeF ⟨abs, host, port, path, asks, query⟩).length) := size_bs _
  generalize writeF ⟨abs, host, port, path, asks, query⟩ = WR at *
  have HX := Lib.hid (Blk.new w 94 #[.bool abs, .string (bs host), .int .i64 port, .string (bs path), .bool asks, .string (bs query)])
  have HB := Lib.hid ((Below.refl w.heap.size w).alloc (Nat.le_refl _) (.cells #[.bool abs, .string (bs host), .int .i64 port, .string (bs path), .bool asks, .string (bs query)] 94))
  have HG := Lib.hid (hg.below ((Below.refl w.heap.size w).alloc (Nat.le_refl _) (.cells #[.bool abs, .string (bs host), .int .i64 port, .string (bs path), .bool asks, .string (bs query)] 94)))
  have hpa : (bs path).size ≤ 100000 := by rw [size_bs]; exact HS.out.2.1
  have hqu : (bs query).size ≤ 100000 := by rw [size_bs]; exact HS.out.2.2.1
  have HPA := Lib.hid hpa
  have HQU := Lib.hid hqu
  clear hs hg hpa hqu
  go_enter Tryz.func85, Tryz.ntmps85
  go_wp2_with fail
  refine (ubytes_calls (bs path) _ HPA.out).mono ?_
  rintro e w1 ⟨rfl, hb1⟩
  rw [L_bs]
  have HX1 := Lib.hid (HX.out.below hb1 HX.out.lt)
  have HB1 := Lib.hid (HB.out.trans (hb1.mono HB.out.size))
  have HG1 := Lib.hid (HG.out.below hb1)
  have x1_0 := HX1.out.cell 0
  have x1_1 := HX1.out.cell 1
  have x1_2 := HX1.out.cell 2
  have x1_3 := HX1.out.cell 3
  have x1_4 := HX1.out.cell 4
  have x1_5 := HX1.out.cell 5
  clear hb1 HX HB HG
  cases hq1 : path.any badB with
  | true =>
    have HF := Lib.hid (HUP.out hq1)
    clear hq1
    go_wp2_with fail
    go_ret
    exact ⟨ret_bool (HF.out).symm, HB1.out⟩
  | false =>
    have Q1 := Lib.hid hq1
    clear hq1
    go_wp2_with fail
    refine (ubytes_calls (bs query) _ HQU.out).mono ?_
    rintro e w2 ⟨rfl, hb2⟩
    rw [L_bs]
    have HX2 := Lib.hid (HX1.out.below hb2 HX1.out.lt)
    have HB2 := Lib.hid (HB1.out.trans (hb2.mono HB1.out.size))
    have HG2 := Lib.hid (HG1.out.below hb2)
    have x2_0 := HX2.out.cell 0
    have x2_1 := HX2.out.cell 1
    have x2_2 := HX2.out.cell 2
    have x2_3 := HX2.out.cell 3
    have x2_4 := HX2.out.cell 4
    have x2_5 := HX2.out.cell 5
    clear hb2 HX1 HB1 HG1 x1_0 x1_1 x1_2 x1_3 x1_4 x1_5
    cases hq2 : query.any badB with
    | true =>
      have HF := Lib.hid (HUQ.out hq2)
      clear hq2
      go_wp2_with fail
      go_ret
      exact ⟨ret_bool (HF.out).symm, HB2.out⟩
    | false =>
      have Q2 := Lib.hid hq2
      clear hq2
      go_wp2_with fail
      refine (Tryz.strings_Contains_one (bs path) 63 w2).mono ?_
      rintro e w3 ⟨rfl, hw3⟩
      have hw3 := hw3.symm
      subst hw3
      rw [bs_toL]
      cases hq3 : decide (0 ≤ Lib.indexByte path 63) with
      | true =>
        have HF := Lib.hid (HUA.out hq3)
        clear hq3
        go_wp2_with fail
        go_ret
        exact ⟨ret_bool (HF.out).symm, HB2.out⟩
      | false =>
        have Q3 := Lib.hid hq3
        clear hq3
        have HNQ : Hid (asks = true ∨ query.isEmpty = true) ∨ (asks = false ∧ query.isEmpty = false) := by
          cases asks
          · cases h : query.isEmpty
            · exact .inr ⟨rfl, rfl⟩
            · exact .inl (.inr rfl)
          · exact .inl (.inl rfl)
        rcases HNQ with Q4 | ⟨q4, q5⟩
        · have hA : ∀ {Z : Prop}, (asks = true → Z) → (asks = false → (bs query).toList = [] → (bs query).toList.isEmpty = true → Z) → Z := by
            intro Z h1 h2
            rw [toList_bs] at h2
            cases h : asks
            · have h3 : query = [] := by
                rcases Q4.out with h4 | h4
                · rw [h] at h4; cases h4
                · simpa using h4
              exact h2 h h3 (by rw [h3]; rfl)
            · exact h1 h
          by_cases q6 : 0 ≤ port
          · by_cases q7 : port ≤ 65535
            · have q6i : ¬ port < 0 := by omega
              have q7i : ¬ 65535 < port := by omega
              have Q6 := Lib.hid q6
              have Q7 := Lib.hid q7
              clear q6 q7
              have HLEN : Hid ((WR.length ≤ 500 ∧ ¬ (500 : Int) < ((bs WR).size : Int)) ∨ (¬ WR.length ≤ 500 ∧ (500 : Int) < ((bs WR).size : Int))) := by
                have := HWL.out
                rw [Hid, this]
                omega
              have HRS := Lib.hid (HO.out w2 Q6.out HG2.out)
              have HRS2 : Hid (∀ {Q : Ending → World → Prop}, (∀ w', Below w2.heap.size w2 w' → Q (.returned (.string (bs WR))) w') → Calls Tryz.prog 141 #[.agg #[.bool abs, .string (bs host), .int .i64 port, .string (bs path), .bool asks, .string (bs query)]] w2 Q) := by
                intro Q h
                refine HRS.out.mono ?_
                rintro e w' ⟨rfl, hb⟩
                exact h w' hb
              clear HRS HO
              have HEND : Hid (∀ (W : World), Below w.heap.size w W → Glob W → Blk W w.heap.size 94 #[.bool abs, .string (bs host), .int .i64 port, .string (bs path), .bool asks, .string (bs query)] → True) := fun _ _ _ _ => trivial
              rcases HLEN.out with ⟨q8, q9⟩ | ⟨q8, q9⟩
              · have HOK := Lib.hid (HUX.out Q1.out Q2.out Q3.out Q4.out Q6.out Q7.out q8)
                clear q8
                refine hA (fun q10 => ?_) (fun q10 q11 q12 => ?_)
                all_goals
                  try subst q10
                  go_wp2_with fail
                  refine HRS2.out ?_
                  intro w4 hb4
                  have HX4 := Lib.hid (HX2.out.below hb4 HX2.out.lt)
                  have HB4 := Lib.hid (HB2.out.trans (hb4.mono HB2.out.size))
                  have HG4 := Lib.hid (HG2.out.below hb4)
                  have x4_0 := HX4.out.cell 0
                  have x4_1 := HX4.out.cell 1
                  have x4_2 := HX4.out.cell 2
                  have x4_3 := HX4.out.cell 3
                  have x4_4 := HX4.out.cell 4
                  have x4_5 := HX4.out.cell 5
                  clear hb4 HX2 HB2 HG2
                  cases abs with
                  | true =>
                    have HR : Hid (R = (hostF host && Lib.hasPrefix path [47])) := by rw [Hid, HUE.out, HOK.out, Bool.true_and]; rfl
                    clear HUE
                    go_wp2_with fail
                    refine (uhost_calls (bs host) w4).mono ?_
                    rintro e w5 ⟨rfl, hb5⟩
                    rw [L_bs]
                    have HX5 := Lib.hid (HX4.out.below hb5 HX4.out.lt)
                    have HB5 := Lib.hid (HB4.out.trans (hb5.mono HB4.out.size))
                    have HG5 := Lib.hid (HG4.out.below hb5)
                    have x5_3 := HX5.out.cell 3
                    clear hb5 HX4 HB4 HG4 x4_0 x4_1 x4_2 x4_3 x4_4 x4_5
                    cases hh : hostF host with
                    | true =>
                      have HR2 : Hid (R = Lib.hasPrefix path [47]) := by rw [Hid, HR.out, hh]; rfl
                      go_wp2_with fail
                      refine (Tryz.strings_HasPrefix (bs path) ⟨#[47]⟩ w5).mono ?_
                      rintro e w6 ⟨rfl, hw6⟩
                      have hw6 := hw6.symm
                      subst hw6
                      rw [bs_toL]
                      go_wp2_with fail
                      go_ret
                      exact ⟨ret_bool HR2.out.symm, HB5.out⟩
                    | false =>
                      have HR2 : Hid (R = false) := by rw [Hid, HR.out, hh]; rfl
                      go_wp2_with fail
                      go_ret
                      exact ⟨ret_bool (HR2.out).symm, HB5.out⟩
                  | false =>
                    have HR : Hid (R = (host.isEmpty && (decide (port = 0) && (!Lib.hasPrefix path [47, 47] && !decide (0 ≤ Lib.indexByte (Lib.cut path [47]).1 58))))) := by rw [Hid, HUE.out, HOK.out, Bool.true_and]; rfl
                    clear HUE
                    obtain ⟨m, hm⟩ := HG4.out.1
                    have HM := Lib.hid hm
                    clear hm
                    go_wp2_with fail
                    refine (Tryz.strings_Cut (bs path) ⟨#[47]⟩ m w4 (by have := HPA.out; omega) HM.out).mono ?_
                    rintro e w5 ⟨rfl, n, hw5⟩
                    rw [bs_toL]
                    have HB5 : Hid (Below w.heap.size w w5) := by rw [Hid, hw5]; exact ⟨HB4.out.os, HB4.out.tape, HB4.out.output, HB4.out.size, HB4.out.block⟩
                    have hx5 := HX4.out.drewN n
                    rw [← hw5] at hx5
                    have HX5 := Lib.hid hx5
                    clear hx5
                    have x5_1 := HX5.out.cell 1
                    have x5_2 := HX5.out.cell 2
                    have x5_3 := HX5.out.cell 3
                    clear hw5 x4_0 x4_1 x4_2 x4_3 x4_4 x4_5 HM HG4 HB4 HX4
                    rw [show (⟨#[47]⟩ : ByteArray).data.toList = [47] from rfl] at *
                    generalize (Lib.cut path [47]).1 = fs at *
                    cases hz : host with
                    | cons c0 cs0 =>
                      have e1 : (bs (c0 :: cs0)).toList.isEmpty = false := by rw [toList_bs]; rfl
                      have e2 : ¬ (bs (c0 :: cs0)).toList = [] := by rw [toList_bs]; simp
                      rw [hz] at x5_1
                      have HR2 : Hid (R = false) := by rw [Hid, HR.out, hz]; rfl
                      clear hz
                      go_wp2_with fail
                      go_ret
                      exact ⟨ret_bool (HR2.out).symm, HB5.out⟩
                    | nil =>
                      have e1 : (bs []).toList.isEmpty = true := by rw [toList_bs]; rfl
                      have e2 : (bs []).toList = [] := by rw [toList_bs]
                      rw [hz] at x5_1
                      have HR2 : Hid (R = (decide (port = 0) && (!Lib.hasPrefix path [47, 47] && !decide (0 ≤ Lib.indexByte fs 58)))) := by rw [Hid, HR.out, hz]; rfl
                      clear hz
                      by_cases h0 : port = 0
                      · have HR3 : Hid (R = (!Lib.hasPrefix path [47, 47] && !decide (0 ≤ Lib.indexByte fs 58))) := by rw [Hid, HR2.out, decide_eq_true h0, Bool.true_and]
                        have b0 : (port == 0) = true := by rw [h0]; rfl
                        clear h0
                        go_wp2_with fail
                        refine (Tryz.strings_HasPrefix (bs path) ⟨#[47, 47]⟩ w5).mono ?_
                        rintro e w6 ⟨rfl, hw6⟩
                        have hw6 := hw6.symm
                        subst hw6
                        rw [bs_toL]
                        have hq : (⟨#[47, 47]⟩ : ByteArray).data.toList = [47, 47] := rfl
                        rw [hq]
                        cases hh : Lib.hasPrefix path [47, 47] with
                        | true =>
                          have HR2 : Hid (R = false) := by rw [Hid, HR3.out, hh]; rfl
                          go_wp2_with fail
                          go_ret
                          exact ⟨ret_bool (HR2.out).symm, HB5.out⟩
                        | false =>
                          have HR4 : Hid (R = !decide (0 ≤ Lib.indexByte fs 58)) := by rw [Hid, HR3.out, hh]; rfl
                          go_wp2_with fail
                          refine (Tryz.strings_Contains_one (bs fs) 58 w5).mono ?_
                          rintro e w6 ⟨rfl, hw6⟩
                          have hw6 := hw6.symm
                          subst hw6
                          rw [bs_toL]
                          go_wp2_with fail
                          go_ret
                          exact ⟨ret_bool HR4.out.symm, HB5.out⟩
                      · have HR2 : Hid (R = false) := by rw [Hid, HR2.out, decide_eq_false h0]; rfl
                        have b0 : (port == 0) = false := by rw [beq_eq_false_iff_ne]; exact h0
                        clear h0
                        go_wp2_with fail
                        go_ret
                        exact ⟨ret_bool (HR2.out).symm, HB5.out⟩
              · have HF := Lib.hid (HUL.out q8)
                clear q8
                refine hA (fun q10 => ?_) (fun q10 q11 q12 => ?_)
                all_goals
                  try subst q10
                  go_wp2_with fail
                  refine HRS2.out ?_
                  intro w4 hb4
                  have HB4 := Lib.hid (HB2.out.trans (hb4.mono HB2.out.size))
                  clear hb4
                  go_wp2_with fail
                  go_ret
                  exact ⟨ret_bool (HF.out).symm, HB4.out⟩
            · have q7i : 65535 < port := by omega
              have q6i : ¬ port < 0 := by omega
              have HF := Lib.hid (HUO.out (by omega))
              clear q7 q6
              refine hA (fun q8 => ?_) (fun q8 q9 q10 => ?_)
              all_goals
                try subst q8
                go_wp2_with fail
                go_ret
                exact ⟨ret_bool (HF.out).symm, HB2.out⟩
          · have q6i : port < 0 := by omega
            have HF := Lib.hid (HUG.out (by omega))
            clear q6
            refine hA (fun q8 => ?_) (fun q8 q9 q10 => ?_)
            all_goals
              try subst q8
              go_wp2_with fail
              go_ret
              exact ⟨ret_bool (HF.out).symm, HB2.out⟩
        · have HF := Lib.hid (HUN.out q4 q5)
          have q9 : ¬ (bs query).toList = [] := by rw [toList_bs]; intro e; rw [e] at q5; cases q5
          have q10 : (bs query).toList.isEmpty = false := by rw [toList_bs]; exact q5
          subst q4
          clear q5
          go_wp2_with fail
          go_ret
          exact ⟨ret_bool (HF.out).symm, HB2.out⟩
end Go.Proofs.YtijpfcjlochahaaGreatDoor
