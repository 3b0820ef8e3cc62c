/- The walk of intarsiaref14.Same: the same tokens. -/
import Derived.Test.YtijpfcjlochahaaDoorLexJ
import Derived.Laws.StructEq
import Derived.BigQuiet
namespace Go.Proofs.YtijpfcjlochahaaDoor
open Go Go.RowKit

theorem take_eq_succ {α : Type} {a b : List α} {k : Nat} (ha : k < a.length) (hb : k < b.length) (h : a.take k = b.take k) : (a.take (k + 1) = b.take (k + 1)) ↔ a[k] = b[k] := by
  rw [List.take_succ_eq_append_getElem ha, List.take_succ_eq_append_getElem hb, h]
  exact ⟨fun e => by have := List.append_cancel_left e; simpa using this, fun e => by rw [e]⟩
theorem ne_at {α : Type} {a b : List α} {k : Nat} (ha : k < a.length) (hb : k < b.length) (h : a[k] ≠ b[k]) : ¬ a = b := by
  intro e
  apply h
  subst e
  rfl

set_option maxRecDepth 20000 in
set_option maxHeartbeats 4000000 in
theorem same_calls (la lb : List Token) (va vb : Value) (F G : Nat → Prop) (w : World) (hva : GR w F (.row 3 (la.map Token.gv)) [va]) (hvb : GR w G (.row 3 (lb.map Token.gv)) [vb]) :
    Calls Tryd.prog 17 #[va, vb] w fun e w' => e = .returned (.bool (decide (la = lb))) ∧ Below w.heap.size w w' := by
  obtain ⟨A, c, rfl, hl1, hl2, hop⟩ := toks_open (GR.lt_heap _ _ hva)
  obtain ⟨B, d, rfl, hl3, hl4, hop2⟩ := toks_open (GR.lt_heap _ _ hvb)
  have hl := Nat.le_trans hl1 hl2
  have hl' := Nat.le_trans hl3 hl4
  rw [maxLen] at hl hl'
  have HOP := Lib.hid hop
  have HOP2 := Lib.hid hop2
  clear hop hva hop2 hvb hl1 hl2 hl3 hl4
  go_enter Tryd.func17, Tryd.ntmps17
  by_cases hn : la.length = lb.length
  · have hb0 : ((la.length : Int) != (lb.length : Int)) = false := by rw [hn]; simp
    go_wp2_with fail
    go_loopw [5, 6, 7, 15] (fun _ _ _ i wr => ∃ k : Nat, k ≤ la.length ∧ i = .int .i64 k ∧ Below w.heap.size w wr ∧ Hid (la.take k = lb.take k))
       (fun _ _ _ i wr => la.length - (intOf i).toNat)
    case atStart => exact ⟨0, Nat.zero_le _, rfl, Below.refl _ _, rfl⟩
    case round =>
      obtain ⟨k, hk, rfl, hb, HT⟩ := hrel
      by_cases hlt : k < la.length
      · obtain ⟨b, off, rfl, ⟨_, hbw⟩, hop⟩ := HOP.out (by rintro rfl; simp at hlt)
        obtain ⟨b2, off2, rfl, ⟨_, hbw2⟩, hop2⟩ := HOP2.out (fun e => by rw [e] at hn; simp only [List.length_nil] at hn; omega)
        have hlt2 : k < lb.length := by omega
        obtain ⟨va, c0, c1, c2, hva⟩ := hop k hlt
        obtain ⟨vb, d0, d1, d2, hvb⟩ := hop2 k hlt2
        have HEQ := Lib.hid (take_eq_succ hlt hlt2 HT.out)
        have HNE := Lib.hid (@ne_at _ la lb k hlt hlt2)
        obtain ⟨Av, cv, rfl, hap1, hap2, ha⟩ := pairs_open hva
        have hap := Nat.le_trans hap1 hap2
        rw [maxLen] at hap
        clear hap1 hap2
        obtain ⟨Bv, dv, rfl, -, -, hb2⟩ := pairs_open hvb
        have HA := Lib.hid ha
        have HB := Lib.hid hb2
        have hszr := hb.size
        have e0 := (hb.cell (p := ⟨b, off + k * 3, none⟩) hbw).trans c0
        have e1 := (hb.cell (p := ⟨b, off + k * 3 + 1, none⟩) hbw).trans c1
        have e2 := (hb.cell (p := ⟨b, off + k * 3 + 2, none⟩) hbw).trans c2
        have hal : Below wr.heap.size wr (wr.alloc (.cells #[.int .i64 la[k].kind, .string (bs la[k].text), .slice Av la[k].attrs.length cv] 30)) := (Below.refl _ _).alloc (Nat.le_refl _) _
        have hb1 := hb.trans (hal.mono hszr)
        have f0 := (hb1.cell (p := ⟨b2, off2 + k * 3, none⟩) hbw2).trans d0
        have f1 := (hb1.cell (p := ⟨b2, off2 + k * 3 + 1, none⟩) hbw2).trans d1
        have f2 := (hb1.cell (p := ⟨b2, off2 + k * 3 + 2, none⟩) hbw2).trans d2
        have blk : Blk (wr.alloc (.cells #[.int .i64 la[k].kind, .string (bs la[k].text), .slice Av la[k].attrs.length cv] 30)) wr.heap.size 30 #[.int .i64 la[k].kind, .string (bs la[k].text), .slice Av la[k].attrs.length cv] := Blk.new _ _ _
        have g0 := blk.cell 0
        have g1 := blk.cell 1
        have g2 := blk.cell 2
        clear c0 c1 c2 d0 d1 d2 hva hvb ha hb2 hop hop2 hal
        generalize la[k] = t at *
        generalize lb[k] = u at *
        by_cases hkk : t.kind = u.kind
        · have hbk : (t.kind != u.kind) = false := by rw [hkk]; simp
          have HK := Lib.hid hkk
          clear hkk
          by_cases htt : t.text = u.text
          · have hbt : ((bs t.text).toList == (bs u.text).toList) = true := by rw [htt]; simp
            have HTX := Lib.hid htt
            clear htt
            by_cases haa : t.attrs.length = u.attrs.length
            · have hba : ((t.attrs.length : Int) != (u.attrs.length : Int)) = false := by rw [haa]; simp
              have HAA := Lib.hid haa
              clear haa
              go_wp2_with fail
              go_quiet (fail)
              go_wp2_with fail
              generalize hw1 : wr.alloc (.cells #[.int .i64 t.kind, .string (bs t.text), .slice Av t.attrs.length cv] 30) = w1 at *
              have HW1 := Lib.hid hw1
              have hwl : wr.heap.size < w1.heap.size := blk.lt
              clear hw1 e0 e1 e2 f0 f1 g0 g1 hba hbt hbk
              go_loopw [7, 53] (fun _ i wq => ∃ j : Nat, j ≤ t.attrs.length ∧ i = .int .i64 j ∧ Below w1.heap.size w1 wq ∧ Hid (t.attrs.take j = u.attrs.take j))
                (fun _ i wq => t.attrs.length - (intOf i).toNat)
              case atStart => exact ⟨0, Nat.zero_le _, rfl, below_drewN (Below.refl _ _) _, rfl⟩
              case round =>
                obtain ⟨j, hj, rfl, hbq, HTA⟩ := hrel
                by_cases hlj : j < t.attrs.length
                · have hlj2 : j < u.attrs.length := by have := HAA.out; omega
                  obtain ⟨b3, off3, rfl, ⟨_, hbw3⟩, hop3⟩ := HA.out (by rintro h; rw [h] at hlj; simp at hlj)
                  obtain ⟨b4, off4, rfl, ⟨_, hbw4⟩, hop4⟩ := HB.out (by rintro h; rw [h] at hlj2; simp at hlj2)
                  obtain ⟨x0, x1⟩ := hop3 j hlj
                  obtain ⟨y0, y1⟩ := hop4 j hlj2
                  have hbb := hb1.trans (hbq.mono (hb1.size))
                  have p0 := (hbb.cell (p := ⟨b3, off3 + j * 2, none⟩) hbw3).trans x0
                  have p1 := (hbb.cell (p := ⟨b3, off3 + j * 2 + 1, none⟩) hbw3).trans x1
                  have r0 := (hbb.cell (p := ⟨b4, off4 + j * 2, none⟩) hbw4).trans y0
                  have r1 := (hbb.cell (p := ⟨b4, off4 + j * 2 + 1, none⟩) hbw4).trans y1
                  have g2' := (blk.below hbq hwl).cell 2
                  have f2' := (hbq.cell (p := ⟨b2, off2 + k * 3 + 2, none⟩) (Nat.lt_of_lt_of_le hbw2 hb1.size)).trans f2
                  have HEQ3 := Lib.hid (take_eq_succ hlj hlj2 HTA.out)
                  have HNE3 := Lib.hid (@ne_at _ t.attrs u.attrs j hlj hlj2)
                  clear x0 x1 y0 y1 hop3 hop4 g2 f2
                  generalize t.attrs[j] = pt at *
                  generalize u.attrs[j] = pu at *
                  by_cases hpp : pt = pu
                  · have hbn : ((bs pt.name).toList == (bs pu.name).toList) = true := by rw [hpp]; simp
                    have hbv : ((bs pt.value).toList == (bs pu.value).toList) = true := by rw [hpp]; simp
                    have HPP := Lib.hid hpp
                    clear hpp
                    go_wp2_with fail
                    go_quiet (fail)
                    go_wp2_with fail
                    exact ⟨⟨j + 1, by omega, by go_num, below_drewN hbq _, HEQ3.out.2 HPP.out⟩, by simp [intOf]; omega⟩
                  · have hfin : decide (la = lb) = false := by
                      rw [decide_eq_false_iff_not]; exact HNE.out (fun e => HNE3.out hpp (by rw [e]))
                    by_cases hpn : pt.name = pu.name
                    · have hpv : ¬ pt.value = pu.value := fun e => hpp (by cases pt; cases pu; simp_all)
                      have hbn : ((bs pt.name).toList == (bs pu.name).toList) = true := by rw [hpn]; simp
                      have hbv : ((bs pt.value).toList == (bs pu.value).toList) = false := by rw [beq_eq_false_iff_ne, toList_bs, toList_bs]; exact hpv
                      clear hpp hpn hpv
                      go_wp2_with fail
                      go_quiet (fail)
                      go_wp2_with fail
                      go_ret
                      exact ⟨ret_bool hfin.symm, below_drewN hbb _⟩
                    · have hbn : ((bs pt.name).toList == (bs pu.name).toList) = false := by rw [beq_eq_false_iff_ne, toList_bs, toList_bs]; exact hpn
                      clear hpp hpn
                      go_wp2_with fail
                      go_quiet (fail)
                      go_wp2_with fail
                      go_ret
                      exact ⟨ret_bool hfin.symm, below_drewN hbb _⟩
                · have hall : t.attrs = u.attrs := by
                    have e := HTA.out
                    have e2 := HAA.out
                    rwa [List.take_of_length_le (by omega), List.take_of_length_le (by omega)] at e
                  have htu : t = u := by
                    cases t; cases u
                    have h1 := HK.out
                    have h2 := HTX.out
                    simp only at h1 h2 hall
                    rw [h1, h2, hall]
                  have HTU := Lib.hid htu
                  have hbb := hb1.trans (hbq.mono (hb1.size))
                  clear hall htu
                  go_wp2_with fail
                  exact ⟨⟨k + 1, by omega, by go_num, hbb, HEQ.out.2 HTU.out⟩, by simp [intOf]; omega⟩
            · have hba : ((t.attrs.length : Int) != (u.attrs.length : Int)) = true := by rw [bne_iff_ne]; omega
              have hfin : decide (la = lb) = false := by
                rw [decide_eq_false_iff_not]; exact HNE.out (fun e => haa (by rw [e]))
              clear haa
              go_wp2_with fail
              go_quiet (fail)
              go_wp2_with fail
              go_ret
              exact ⟨ret_bool hfin.symm, below_drewN hb1 _⟩
          · have hbt : ((bs t.text).toList == (bs u.text).toList) = false := by rw [beq_eq_false_iff_ne, toList_bs, toList_bs]; exact htt
            have hfin : decide (la = lb) = false := by
              rw [decide_eq_false_iff_not]; exact HNE.out (fun e => htt (by rw [e]))
            clear htt
            go_wp2_with fail
            go_quiet (fail)
            go_wp2_with fail
            go_ret
            exact ⟨ret_bool hfin.symm, below_drewN hb1 _⟩
        · have hbk : (t.kind != u.kind) = true := by rw [bne_iff_ne]; exact hkk
          have hfin : decide (la = lb) = false := by
            rw [decide_eq_false_iff_not]; exact HNE.out (fun e => hkk (by rw [e]))
          clear hkk
          go_wp2_with fail
          go_quiet (fail)
          go_wp2_with fail
          go_ret
          exact ⟨ret_bool hfin.symm, below_drewN hb1 _⟩
      · have hfin : decide (la = lb) = true := by
          rw [decide_eq_true_iff]
          have e := HT.out
          rwa [List.take_of_length_le (by omega), List.take_of_length_le (by omega)] at e
        go_wp2_with fail
        go_ret
        exact ⟨ret_bool hfin.symm, hb⟩
  · have hb0 : ((la.length : Int) != (lb.length : Int)) = true := by rw [bne_iff_ne]; omega
    have hne : decide (la = lb) = false := by
      rw [decide_eq_false_iff_not]; rintro rfl; exact hn rfl
    go_wp2_with fail
    go_ret
    exact ⟨ret_bool hne.symm, Below.refl _ _⟩
end Go.Proofs.YtijpfcjlochahaaDoor
