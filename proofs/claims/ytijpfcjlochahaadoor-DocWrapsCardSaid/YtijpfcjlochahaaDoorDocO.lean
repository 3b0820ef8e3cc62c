/- The walks of intarsialaw15.alive and nests. -/
import Derived.Test.YtijpfcjlochahaaDoorDocL
import Derived.Deep.CutBlock
namespace Go.Proofs.YtijpfcjlochahaaDoor
open Go Go.RowKit

def alivePage15 : List UInt8 := [97, 60, 101, 115, 105, 58, 105, 110, 99, 108, 117, 100, 101, 32, 115, 114, 99, 61, 34, 47, 120, 34, 47, 62]
theorem alive_read : readF alivePage15 = ([.mk 1 [97] [] [] false [] [], .mk 2 [] [47, 120] [] false [] []], 0) := by rfl
set_option maxRecDepth 20000 in
set_option maxHeartbeats 4000000 in
theorem alive15_calls (w : World) : Calls Tryd.prog 22 #[] w fun e w' => e = .returned (.bool true) ∧ Below w.heap.size w w' := by
  go_enter Tryd.func22, Tryd.ntmps22
  go_wp2_with fail
  refine (read_calls (bs alivePage15) w (by rw [size_bs]; simp [alivePage15])).mono ?_
  rw [L_bs, alive_read]
  rintro e w1 ⟨v, rfl, hgr, hb⟩
  obtain ⟨A, c, rfl, -, -, hop⟩ := elems_open hgr
  obtain ⟨b, o, rfl, -, h⟩ := hop (by simp)
  obtain ⟨A', c', h1⟩ := h 1 (by simp)
  have e0 := h1.c0
  have e2 := h1.c2
  simp only [List.getElem_cons_succ, List.getElem_cons_zero, Nat.one_mul] at e0 e2
  replace e0 : w1.cell? ⟨b, o + 7, none⟩ = some (.int .i64 2) := e0
  replace e2 : w1.cell? ⟨b, o + 7 + 2, none⟩ = some (.string ⟨#[47, 120]⟩) := e2
  have HB := Lib.hid hb
  clear h hop hgr h1 hb
  go_wp2_with fail
  go_ret
  exact ⟨ret_bool (by rfl), HB.out⟩

/-- What the walk of 'nests' asks of an element at its place. -/
theorem nest_place {d i : Nat} {inn : Int} {l : List Elem} (h : NestK (Nests d) inn l) (hi : i < l.length) :
    (l[i].kind = 1 ∨ l[i].kind = 2 ∨ l[i].kind = 3 ∨ l[i].kind = 4 ∨ l[i].kind = 5 ∨ l[i].kind = 6 ∨ l[i].kind = 7 ∨ l[i].kind = 8 ∨ l[i].kind = 9 ∨ l[i].kind = 10 ∨ l[i].kind = 11 ∨ l[i].kind = 12) := by
  obtain ⟨⟨h1, h2, -⟩, -, -⟩ := h i hi
  omega
set_option maxRecDepth 100000 in
set_option maxHeartbeats 8000000 in
theorem nests_calls : ∀ (d : Nat) (inn : Int) (l : List Elem) (v : Value) (F : Nat → Prop) (w : World), d ≤ 100 → Nests (d + 1) inn l → GR w F (.row 7 (l.map Elem.gv)) [v] →
    Calls Tryd.prog 20 #[.int .i64 inn, v, .int .i64 d] w fun e w' => e = .returned (.bool true) ∧ Below w.heap.size w w' := by
  intro d
  induction d using Nat.strongRecOn with
  | ind d ih =>
    intro inn l v F w hd hn hv
    obtain ⟨h4, h7, hK⟩ := hn
    obtain ⟨A, c, rfl, hlc, hcm, hop⟩ := elems_open (GR.lt_heap _ _ hv)
    have hl : l.length ≤ maxLen := Nat.le_trans hlc hcm
    unfold maxLen at hl hcm
    have b4 : (inn == 4) = true → l.length = 2 := fun e => h4 (by simpa using e)
    have b7 : (inn == 7) = true → l.length ≠ 0 := fun e => h7 (by simpa using e)
    have HOP := Lib.hid hop
    have HK := Lib.hid hK
    have IH := Lib.hid ih
    clear hop hv h4 h7 hK ih
    go_enter Tryd.func20, Tryd.ntmps20
    go_upto_region 1 with (fail)
    go_cut [29] from 10 to 30 (fun v wx => v = .bool false ∧ wx = w)
    case first =>
      have hd0 : decide ((d : Int) < 0) = false := by rw [decide_eq_false_iff_not]; omega
      cases h4 : (inn == 4) with
      | true =>
        have h2 := b4 h4
        have hb : ((l.length : Int) != 2) = false := by rw [h2]; rfl
        have h7 : (inn == 7) = false := by rw [beq_iff_eq] at h4; rw [h4]; rfl
        clear h2 b4 b7
        go_wp2_with fail
        go_meet
        case rel => exact ⟨rfl, rfl⟩
      | false =>
        cases h7 : (inn == 7) with
        | true =>
          have h2 := b7 h7
          have hb : ((l.length : Int) == 0) = false := by rw [beq_eq_false_iff_ne]; omega
          clear h2 b4 b7
          go_wp2_with fail
          go_meet
          case rel => exact ⟨rfl, rfl⟩
        | false =>
          clear b4 b7
          go_wp2_with fail
          go_meet
          case rel => exact ⟨rfl, rfl⟩
    case rest =>
      obtain ⟨rfl, hww⟩ := hcut
      have hww := hww.symm
      subst hww
      clear b4 b7
      go_wp2_with fail
      go_loopw [32] (fun i wr => ∃ k : Nat, k ≤ l.length ∧ i = .int .i64 k ∧ Hid (Below w.heap.size w wr))
        (fun i wr => l.length - (intOf i).toNat)
      case atStart => exact ⟨0, Nat.zero_le _, rfl, Below.refl _ _⟩
      case round =>
        obtain ⟨k, hk, rfl, HB⟩ := hrel
        by_cases hlt : k < l.length
        · obtain ⟨b, o, rfl, ⟨-, hbw⟩, hop⟩ := HOP.out (by rintro rfl; simp at hlt)
          obtain ⟨A1, c1, hE⟩ := hop k hlt
          have hE := hE.below HB.out hbw
          have hkind := nest_place HK.out hlt
          obtain ⟨⟨-, -, s1, s2, s3, s4⟩, ⟨p1, p2, p3⟩, hprev⟩ := HK.out k hlt
          have HPV : Hid (l[k].kind = 1 → 0 < k → ∃ q, wr.cell? ⟨b, o + (k - 1) * 7, none⟩ = some (.int .i64 q) ∧ q ≠ 1) := by
            intro h1 h0
            obtain ⟨A2, c2, hE2⟩ := hop (k - 1) (by omega)
            have hE2 := hE2.below HB.out hbw
            exact ⟨_, hE2.c0, hprev h0 h1 _ (List.getElem?_eq_getElem (by omega))⟩
          generalize l[k] = e at *
          have c0 := hE.c0
          have c1_ := hE.c1
          have c2 := hE.c2
          have c3 := hE.c3
          have c4 := hE.c4
          have c5 := hE.c5
          have c6 := hE.c6
          have HKD := Lib.hid hE.kids
          have hk1 : (0 : Int) ≤ (k : Int) := by omega
          have hk2 : (k : Int) < (l.length : Int) := by omega
          have S2 := Lib.hid s2
          clear hop hE hprev s2
          go_upto_region 6 with (fail)
          have hal : Below wr.heap.size wr (wr.alloc (.cells #[.int .i64 e.kind, .string (bs e.text), .string (bs e.src), .string (bs e.alt), .bool e.soft, .string (bs e.test), .slice A1 e.kids.length c1] 46)) := (Below.refl _ _).alloc (Nat.le_refl _) _
          have hX5 := Blk.new wr 46 #[.int .i64 e.kind, .string (bs e.text), .string (bs e.src), .string (bs e.alt), .bool e.soft, .string (bs e.test), .slice A1 e.kids.length c1]
          have c0p : ∀ q, wr.cell? ⟨b, o + (k - 1) * 7, none⟩ = some (.int .i64 q) → (wr.alloc (.cells #[.int .i64 e.kind, .string (bs e.text), .string (bs e.src), .string (bs e.alt), .bool e.soft, .string (bs e.test), .slice A1 e.kids.length c1] 46)).cell? ⟨b, o + (k - 1) * 7, none⟩ = some (.int .i64 q) := fun q hq => (hal.cell (p := ⟨b, o + (k - 1) * 7, none⟩) (Nat.lt_of_lt_of_le hbw HB.out.size)).trans hq
          have HC0 := Lib.hid c0p
          clear c0p
          generalize wr.alloc (.cells #[.int .i64 e.kind, .string (bs e.text), .string (bs e.src), .string (bs e.alt), .bool e.soft, .string (bs e.test), .slice A1 e.kids.length c1] 46) = w5 at *
          have HB5 := Lib.hid (HB.out.trans (hal.mono HB.out.size))
          have HKD5 := Lib.hid (HKD.out.below hal)
          have x0 := hX5.cell 0
          have x1 := hX5.cell 1
          have x2 := hX5.cell 2
          have x6 := hX5.cell 6
          have HX5 := Lib.hid hX5
          clear hal hX5 c0 c1_ c2 c3 c4 c5 c6 HKD HB
          generalize wr.heap.size = X at *
          have HKN := Lib.hid hkind
          go_upto_block 2 with fail
          go_cut [39] from 39 to 89 (fun _ wx => wx = w5)
          case first =>
            clear hkind s1 s3 s4 x1 x2 x6
            by_cases h5 : e.kind = 5
            · obtain ⟨q1, q2⟩ := p1 (by omega)
              have b4 : (inn != 4) = false := by rw [q1]; rfl
              have b0 : ((k : Int) == 0) = true := by rw [q2.1 h5]; rfl
              have b5 : (e.kind == 5) = true := by rw [h5]; rfl
              clear q1 q2 p1 p2 p3 h5
              go_wp2_with fail
              all_goals
                go_meet
                case rel => rfl
            · have b5 : (e.kind == 5) = false := by rw [beq_eq_false_iff_ne]; exact h5
              by_cases h6 : e.kind = 6
              · obtain ⟨q1, q2⟩ := p1 (by omega)
                have b4 : (inn != 4) = false := by rw [q1]; rfl
                have b0 : ((k : Int) == 0) = false := by rw [beq_eq_false_iff_ne]; intro e0; exact h5 (q2.2 (by omega))
                have b6 : (e.kind == 6) = true := by rw [h6]; rfl
                clear q1 q2 p1 p2 p3 h5 h6
                go_wp2_with fail
                all_goals
                  go_meet
                  case rel => rfl
              · have b6 : (e.kind == 6) = false := by rw [beq_eq_false_iff_ne]; exact h6
                by_cases h8 : e.kind = 8
                · obtain ⟨q1, q2⟩ := p2 (by omega)
                  have b7 : (inn != 7) = false := by rw [q1]; rfl
                  have b8 : (e.kind == 8) = true := by rw [h8]; rfl
                  have b9 : (e.kind == 9) = false := by rw [h8]; rfl
                  clear q1 q2 p1 p2 p3 h5 h6 h8
                  go_wp2_with fail
                  all_goals
                    go_meet
                    case rel => rfl
                · have b8 : (e.kind == 8) = false := by rw [beq_eq_false_iff_ne]; exact h8
                  by_cases h9 : e.kind = 9
                  · obtain ⟨q1, q2⟩ := p2 (by omega)
                    obtain ⟨q3, q4⟩ := q2 h9
                    have b7 : (inn != 7) = false := by rw [q1]; rfl
                    have b9 : (e.kind == 9) = true := by rw [h9]; rfl
                    have b0 : ((k : Int) == 0) = false := by rw [beq_eq_false_iff_ne]; omega
                    have b1 : ((k : Int) != (l.length : Int) - 1) = false := by rw [bne_eq_false_iff_eq]; omega
                    clear q1 q2 q3 q4 p1 p2 p3 h5 h6 h8 h9
                    go_wp2_with fail
                    all_goals
                      go_meet
                      case rel => rfl
                  · have b9 : (e.kind == 9) = false := by rw [beq_eq_false_iff_ne]; exact h9
                    obtain ⟨q1, q2⟩ := p3 h5 h6 h8 h9
                    have b4 : (inn == 4) = false := by rw [beq_eq_false_iff_ne]; exact q1
                    have b7 : (inn == 7) = false := by rw [beq_eq_false_iff_ne]; exact q2
                    have b1 : decide (e.kind < 1) = false := by rw [decide_eq_false_iff_not]; have := HKN.out; omega
                    have b12 : decide (12 < e.kind) = false := by rw [decide_eq_false_iff_not]; have := HKN.out; omega
                    clear q1 q2 p1 p2 p3 h5 h6 h8 h9
                    go_wp2_with fail
                    all_goals
                      go_meet
                      case rel => rfl
          case rest =>
            have hcut := hcut.symm
            subst hcut
            clear p1 p2 p3
            by_cases h1 : e.kind = 1
            · have hkl : e.kids.length = 0 := by rw [s1 (by unfold leafK; omega)]; rfl
              have hsr := s4 h1
              have hs1 : (bs e.text).toList.isEmpty = false := by rw [toList_bs]; simpa using hsr
              have HPW := Lib.hid (HPV.out h1)
              clear hsr s1 s3 s4 hkind x2
              by_cases hk0 : k = 0
              · have bk : ¬ 0 < k := by omega
                clear hk0
                go_wp2_with fail
                all_goals exact ⟨⟨k + 1, hlt, by go_num, HB5.out⟩, by simp [intOf]; omega⟩
              · obtain ⟨q, hq, hq1⟩ := HPW.out (by omega)
                have hq := HC0.out q hq
                have bq : (q == 1) = false := by rw [beq_eq_false_iff_ne]; exact hq1
                have bk : 0 < k := by omega
                clear hk0 hq1 HC0 HPV HPW
                go_wp2_with fail
                all_goals exact ⟨⟨k + 1, hlt, by go_num, HB5.out⟩, by simp [intOf]; omega⟩
            · have n1 : (e.kind == 1) = false := by rw [beq_eq_false_iff_ne]; exact h1
              by_cases h2 : e.kind = 2
              · have hkl : e.kids.length = 0 := by rw [s1 (by unfold leafK; omega)]; rfl
                have hsr := s3 h2
                have hs1 : (bs e.src).toList.isEmpty = false := by rw [toList_bs]; simpa using hsr
                clear hsr s1 s3 s4 hkind h1 x1
                go_wp2_with fail
                all_goals exact ⟨⟨k + 1, hlt, by go_num, HB5.out⟩, by simp [intOf]; omega⟩
              · have n2 : (e.kind == 2) = false := by rw [beq_eq_false_iff_ne]; exact h2
                by_cases hlf : leafK e.kind
                · have hkl : e.kids.length = 0 := by rw [s1 hlf]; rfl
                  have hlf2 : (e.kind == 12) = true ∨ (e.kind == 12) = false ∧ (e.kind == 11) = true := by
                    unfold leafK at hlf
                    by_cases h12 : e.kind = 12
                    · exact .inl (by rw [h12]; rfl)
                    · exact .inr ⟨by rw [beq_eq_false_iff_ne]; exact h12, by rw [beq_iff_eq]; omega⟩
                  clear s1 s3 s4 hkind h1 h2 hlf x1 x2
                  rcases hlf2 with n12 | ⟨n12, n11⟩
                  · skip
                    go_wp2_with fail
                    all_goals exact ⟨⟨k + 1, hlt, by go_num, HB5.out⟩, by simp [intOf]; omega⟩
                  · skip
                    go_wp2_with fail
                    all_goals exact ⟨⟨k + 1, hlt, by go_num, HB5.out⟩, by simp [intOf]; omega⟩
                · have n12 : (e.kind == 12) = false := by rw [beq_eq_false_iff_ne]; intro h; exact hlf (by unfold leafK; omega)
                  have n11 : (e.kind == 11) = false := by rw [beq_eq_false_iff_ne]; intro h; exact hlf (by unfold leafK; omega)
                  obtain ⟨d', hd'⟩ : ∃ d', d = d' + 1 := by
                    cases d with
                    | zero => exact absurd (S2.out hlf) (by simp [Nests])
                    | succ d => exact ⟨d, rfl⟩
                  have HN := Lib.hid (S2.out hlf)
                  rw [hd'] at HN
                  have hdd : (d : Int) - 1 = (d' : Int) := by omega
                  have HDD := Lib.hid hd'
                  clear hd' s1 s3 s4 hkind h1 h2 hlf x1 x2
                  go_wp2_with fail
                  refine (IH.out d' (by have := HDD.out; omega) _ e.kids _ _ w5 (by have := HDD.out; omega) HN.out HKD5.out).mono ?_
                  rintro en w6 ⟨rfl, h6⟩
                  have hX6 := HX5.out.below h6 HX5.out.lt
                  have HB6 := Lib.hid (HB5.out.trans (h6.mono HB5.out.size))
                  have x0 := hX6.cell 0
                  have x1 := hX6.cell 1
                  have x2 := hX6.cell 2
                  clear h6 hX6
                  go_wp2_with fail
                  all_goals exact ⟨⟨k + 1, hlt, by go_num, HB6.out⟩, by simp [intOf]; omega⟩
        · go_wp2_with fail
          go_ret
          exact ⟨rfl, HB.out⟩
end Go.Proofs.YtijpfcjlochahaaDoor
