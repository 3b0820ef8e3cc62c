/- The walk of the reference's uri.Right: at an address with a host it answers as the program's. -/
import Derived.Test.YtijpfcjlochahaaGreatDoorRefH
import Derived.Test.YtijpfcjlochahaaGreatDoorUriR
set_option linter.unusedVariables false
set_option linter.unusedSimpArgs false
namespace Go.Proofs.YtijpfcjlochahaaGreatDoor
open Go Go.RowKit
set_option linter.unusedVariables false
set_option linter.unusedSimpArgs false

def RPost (abs R : Bool) (w : World) (e : Ending) (w' : World) : Prop := ∃ b, e = .returned (.bool b) ∧ (abs = true → b = R) ∧ Below w.heap.size w w'
theorem rpost {abs R : Bool} {w w' : World} {e : Ending} (b : Bool) (h1 : e = .returned (.bool b)) (h2 : abs = true → b = R) (h3 : Below w.heap.size w w') : RPost abs R w e w' := ⟨b, h1, h2, h3⟩
set_option maxRecDepth 20000 in
set_option maxHeartbeats 8000000 in
theorem r5right_calls (u : UriD) (hs : u.small) (w : World) :
    Calls Tryz.prog 77 #[u.val] w fun e w' => RPost u.abs (uriOk u) w e w' := by
  have HS := Lib.hid hs
  have HO := Lib.hid (fun W (hp : 0 ≤ u.port) => rwrite_calls u hs hp W)
  have HUP := Lib.hid (okF_path (u := u))
  have HUQ := Lib.hid (okF_query (u := u))
  have HUA := Lib.hid (okF_ask (u := u))
  have HUN := Lib.hid (okF_noq (u := u))
  have HUG := Lib.hid (okF_neg (u := u))
  have HUO := Lib.hid (okF_port (u := u))
  have HUL := Lib.hid (okF_len (u := u))
  have HUX := Lib.hid (okF_all (u := u))
  have HUE : Hid (u.abs = true → uriOk u = (okF u && (hostF u.host && Lib.hasPrefix u.path [47]))) := fun h => by unfold uriOk; rw [h]; rfl
  obtain ⟨abs, host, port, path, asks, query⟩ := u
  simp only [UriD.val] at *
  generalize uriOk ⟨abs, host, port, path, asks, query⟩ = R at *
  generalize okF ⟨abs, host, port, path, asks, query⟩ = OK at *
  have HWL : Hid ((bs (writeF ⟨abs, host, port, path, asks, query⟩)).size = (writeF ⟨abs, host, port, path, asks, query⟩).length) := size_bs _
  generalize writeF ⟨abs, host, port, path, asks, query⟩ = WR at *
  have HX := Lib.hid (Blk.new w 94 #[.bool abs, .string (bs host), .int .i64 port, .string (bs path), .bool asks, .string (bs query)])
  have HB := Lib.hid ((Below.refl w.heap.size w).alloc (Nat.le_refl _) (.cells #[.bool abs, .string (bs host), .int .i64 port, .string (bs path), .bool asks, .string (bs query)] 94))
  have hpa : (bs path).size ≤ 1000000 := by rw [size_bs]; have := HS.out.2.1; simp only at this; omega
  have hqu : (bs query).size ≤ 1000000 := by rw [size_bs]; have := HS.out.2.2.1; simp only at this; omega
  have hho : (bs host).size ≤ 1000000 := by rw [size_bs]; have := HS.out.1; simp only at this; omega
  have HBP := Lib.hid (fun W => rbytes_calls (bs path) W hpa)
  have HBQ := Lib.hid (fun W => rbytes_calls (bs query) W hqu)
  have HF1 : Hid (∀ W, Calls Tryz.prog 76 #[.string (bs path), .int .u8 63] W fun e w' => e = .returned (.int .i64 (Lib.indexByte path 63)) ∧ W = w') := fun W => by have := rfind_calls (bs path) 63 W hpa; rw [L_bs] at this; exact this
  have HF2 : Hid (∀ W, ∃ z : Int, Calls Tryz.prog 76 #[.string (bs path), .int .u8 58] W fun e w' => e = .returned (.int .i64 z) ∧ W = w') := fun W => ⟨_, rfind_calls (bs path) 58 W hpa⟩
  have HF3 : Hid (∀ W, ∃ z : Int, Calls Tryz.prog 76 #[.string (bs path), .int .u8 47] W fun e w' => e = .returned (.int .i64 z) ∧ W = w') := fun W => ⟨_, rfind_calls (bs path) 47 W hpa⟩
  have HH := Lib.hid (fun W => rhost_calls (bs host) W hho)
  have HG1 : Hid (∀ W, Calls Tryz.prog 73 #[.string (bs path), .string ⟨#[47]⟩] W fun e w' => e = .returned (.bool (Lib.hasPrefix path [47])) ∧ W = w') := fun W => by have := rbegins_calls (bs path) ⟨#[47]⟩ W; rw [L_bs] at this; exact this
  have HG2 : Hid (∀ W, ∃ z : Bool, Calls Tryz.prog 73 #[.string (bs path), .string ⟨#[47, 47]⟩] W fun e w' => e = .returned (.bool z) ∧ W = w') := fun W => ⟨_, rbegins_calls (bs path) ⟨#[47, 47]⟩ W⟩
  simp only [L_bs] at HBP HBQ HH
  generalize Lib.hasPrefix path [47] = PS at *
  generalize hostF host = PH at *
  generalize Lib.indexByte path 63 = Z at *
  clear hs hpa hqu hho
  by_cases c1 : port < 0
  · have HR : Hid (R = false) := HUG.out (by omega)
    go_enter Tryz.func77, Tryz.ntmps77
    go_wp2_with fail
    go_ret
    exact rpost false rfl (fun _ => HR.out.symm) HB.out
  by_cases c2 : 65535 < port
  · have HR : Hid (R = false) := HUO.out (by omega)
    go_enter Tryz.func77, Tryz.ntmps77
    go_wp2_with fail
    go_ret
    exact rpost false rfl (fun _ => HR.out.symm) HB.out
  have HO2 := Lib.hid (fun W => HO.out W (by omega))
  have HC1 := Lib.hid c1
  have HC2 := Lib.hid c2
  clear HO HUG HUO
  cases c3 : path.any badB with
  | true =>
    have HR : Hid (R = false) := HUP.out c3
    rw [c3] at HBP
    clear c3
    go_enter Tryz.func77, Tryz.ntmps77
    go_wp2_with fail
    refine (HBP.out _).mono ?_
    rintro e w1 ⟨rfl, rfl⟩
    go_wp2_with fail
    go_ret
    exact rpost false rfl (fun _ => HR.out.symm) HB.out
  | false =>
  have HC3 := Lib.hid c3
  rw [c3] at HBP
  clear c3
  cases c4 : query.any badB with
  | true =>
    have HR : Hid (R = false) := HUQ.out c4
    rw [c4] at HBQ
    clear c4
    go_enter Tryz.func77, Tryz.ntmps77
    go_wp2_with fail
    refine (HBP.out _).mono ?_
    rintro e w1 ⟨rfl, rfl⟩
    go_wp2_with fail
    refine (HBQ.out _).mono ?_
    rintro e w1 ⟨rfl, rfl⟩
    go_wp2_with fail
    go_ret
    exact rpost false rfl (fun _ => HR.out.symm) HB.out
  | false =>
  have HC4 := Lib.hid c4
  rw [c4] at HBQ
  clear c4
  by_cases c5 : 0 ≤ Z
  · have HR : Hid (R = false) := HUA.out (decide_eq_true c5)
    go_enter Tryz.func77, Tryz.ntmps77
    go_wp2_with fail
    refine (HBP.out _).mono ?_
    rintro e w1 ⟨rfl, rfl⟩
    go_wp2_with fail
    refine (HBQ.out _).mono ?_
    rintro e w1 ⟨rfl, rfl⟩
    go_wp2_with fail
    refine (HF1.out _).mono ?_
    rintro e w1 ⟨rfl, rfl⟩
    go_wp2_with fail
    go_ret
    exact rpost false rfl (fun _ => HR.out.symm) HB.out
  have HC5 : Hid (decide (0 ≤ Z) = false) := decide_eq_false c5
  have hnq : (asks = true ∨ query.isEmpty = true) ∨ (asks = false ∧ query.isEmpty = false) := by
    cases asks <;> cases query.isEmpty <;> simp
  rcases hnq with hq | ⟨rfl, hq⟩
  rotate_left
  · have HR : Hid (R = false) := HUN.out rfl hq
    have q9 : (bs query).toList.isEmpty = false := by rw [toList_bs]; exact hq
    have q8 : ¬ (bs query).toList = [] := by rw [toList_bs]; intro h; rw [h] at hq; cases hq
    clear hq
    go_enter Tryz.func77, Tryz.ntmps77
    go_wp2_with fail
    refine (HBP.out _).mono ?_
    rintro e w1 ⟨rfl, rfl⟩
    go_wp2_with fail
    refine (HBQ.out _).mono ?_
    rintro e w1 ⟨rfl, rfl⟩
    go_wp2_with fail
    refine (HF1.out _).mono ?_
    rintro e w1 ⟨rfl, rfl⟩
    go_wp2_with fail
    go_ret
    exact rpost false rfl (fun _ => HR.out.symm) HB.out
  have HQ := Lib.hid hq
  have HXF := Lib.hid (fun h7 => HUX.out HC3.out HC4.out HC5.out hq (by have := HC1.out; omega) (by have := HC2.out; omega) h7)
  -- both spellings of 'no query that is not asked'
  have key : ∀ (q1 : asks = true ∨ (bs query).toList.isEmpty = true ∧ (bs query).toList = []), Calls Tryz.prog 77 #[.agg #[.bool abs, .string (bs host), .int .i64 port, .string (bs path), .bool asks, .string (bs query)]] w fun e w' => RPost abs R w e w' := by
    intro q1
    rcases q1 with rfl | ⟨q1, q2⟩
    rotate_left
    cases asks
    all_goals
      clear hq HQ
      go_enter Tryz.func77, Tryz.ntmps77
      go_wp2_with fail
      refine (HBP.out _).mono ?_
      rintro e w1 ⟨rfl, rfl⟩
      go_wp2_with fail
      refine (HBQ.out _).mono ?_
      rintro e w1 ⟨rfl, rfl⟩
      go_wp2_with fail
      refine (HF1.out _).mono ?_
      rintro e w1 ⟨rfl, rfl⟩
      go_wp2_with fail
      refine (HO2.out _).mono ?_
      rintro e w2 ⟨rfl, hb2⟩
      have HX2 := Lib.hid (HX.out.below hb2 HX.out.lt)
      have HB2 := Lib.hid (HB.out.trans (hb2.mono HB.out.size))
      have x0 := HX2.out.cell 0
      have x1 := HX2.out.cell 1
      have x2 := HX2.out.cell 2
      have x3 := HX2.out.cell 3
      have x4 := HX2.out.cell 4
      have x5 := HX2.out.cell 5
      clear hb2
      by_cases c7 : 500 < (bs WR).size
      · have HR : Hid (R = false) := HUL.out (by rw [← HWL.out]; omega)
        have c7i : (500 : Int) < ((bs WR).size : Int) := by omega
        clear c7
        go_wp2_with fail
        go_ret
        exact rpost false rfl (fun _ => HR.out.symm) HB2.out
      · have HOK : Hid (OK = true) := HXF.out (by rw [← HWL.out]; omega)
        have c7i : ¬ (500 : Int) < ((bs WR).size : Int) := by omega
        clear c7
        cases abs with
        | true =>
          have HR : Hid (R = (PH && PS)) := by rw [Hid, HUE.out rfl, HOK.out]; rfl
          go_wp2_with fail
          refine (HH.out _).mono ?_
          rintro e w3 ⟨rfl, rfl⟩
          cases PH with
          | true =>
            go_wp2_with fail
            refine (HG1.out _).mono ?_
            rintro e w3 ⟨rfl, rfl⟩
            go_wp2_with fail
            go_ret
            exact rpost PS rfl (fun _ => HR.out.symm) HB2.out
          | false =>
            go_wp2_with fail
            go_ret
            exact rpost false rfl (fun _ => HR.out.symm) HB2.out
        | false =>
          go_wp2_with fail
          obtain ⟨za, ha⟩ := HF2.out w2
          refine ha.mono ?_
          rintro e w3 ⟨rfl, rfl⟩
          go_wp2_with fail
          obtain ⟨zb, hb⟩ := HF3.out w2
          refine hb.mono ?_
          rintro e w3 ⟨rfl, rfl⟩
          clear ha hb
          obtain ⟨zg, hg⟩ := HG2.out w2
          have HGG := Lib.hid hg
          clear hg
          go_wp2_with fail
          all_goals first
            | (go_ret; exact rpost _ rfl (fun h => absurd h (by simp)) HB2.out)
            | (refine HGG.out.mono ?_
               rintro e w3 ⟨rfl, rfl⟩
               go_wp2_with fail
               all_goals (go_ret; exact rpost _ rfl (fun h => absurd h (by simp)) HB2.out))
  refine key ?_
  rcases hq with h | h
  · exact .inl h
  · refine .inr ?_
    rw [toList_bs]
    exact ⟨h, List.isEmpty_iff.1 h⟩
end Go.Proofs.YtijpfcjlochahaaGreatDoor
