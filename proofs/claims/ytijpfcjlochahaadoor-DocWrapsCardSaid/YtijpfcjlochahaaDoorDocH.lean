/- The walks of slices.ContainsFunc at pairs, at the closure of begin. -/
import Derived.Test.YtijpfcjlochahaaDoorDocG
namespace Go.Proofs.YtijpfcjlochahaaDoor
open Go Go.RowKit

theorem name_beq (a b : List UInt8) : ((bs a).toList == (bs b).toList) = (a == b) := by rw [toList_bs, toList_bs]
set_option maxRecDepth 20000 in
set_option maxHeartbeats 1000000 in
theorem begin1_calls (PB : Nat) (p x : Pair) (w : World) (hp : w.cell? ⟨PB, 0, none⟩ = some (.string (bs p.name))) :
    Calls Tryd.prog 68 #[.agg #[.string (bs x.name), .string (bs x.value)], .pointer (some ⟨PB, 0, none⟩)] w fun en w' => en = .returned (.bool (x.name == p.name)) ∧ Below w.heap.size w w' := by
  have hb : Below w.heap.size w (w.alloc (.cells #[.string (bs x.name), .string (bs x.value)] 67)) := (Below.refl _ _).alloc (Nat.le_refl _) _
  have hp1 : (w.alloc (.cells #[.string (bs x.name), .string (bs x.value)] 67)).cell? ⟨PB, 0, none⟩ = some (.string (bs p.name)) := by
    refine (World.cell?_of_block (hb.block PB ?_)).trans hp
    by_cases h : PB < w.heap.size
    · exact h
    · simp [World.cell?, h] at hp
  have HB := Lib.hid hb
  clear hb hp
  obtain ⟨q, hq⟩ : ∃ q, q = (x.name == p.name) := ⟨_, rfl⟩
  have hq2 : ((bs x.name).toList == (bs p.name).toList) = q := by rw [name_beq, hq]
  rw [← hq]
  clear hq
  go_enter Tryd.func68, Tryd.ntmps68
  go_wp2_with fail
  go_ret
  refine ⟨?_, HB.out⟩
  first
    | rfl
    | (show Ending.returned (.bool _) = _; congr 2; try exact hq2)

set_option maxRecDepth 20000 in
set_option maxHeartbeats 2000000 in
theorem indexFunc_calls (PB : Nat) (p : Pair) (l : List Pair) (v : Value) (F : Nat → Prop) (w : World) (hp : w.cell? ⟨PB, 0, none⟩ = some (.string (bs p.name))) (hv : GR w F (.row 2 (l.map Pair.gv)) [v]) (hl : l.length ≤ 100000) :
    Calls Tryd.prog 110 #[v, .func (.func 68) #[] #[.pointer (some ⟨PB, 0, none⟩)]] w fun en w' => ∃ z : Int, en = .returned (.int .i64 z) ∧ decide (0 ≤ z) = l.any (fun x => x.name == p.name) ∧ Below w.heap.size w w' := by
  obtain ⟨A, c, rfl, hlc, hcm, hop⟩ := pairs_open (GR.lt_heap _ _ hv)
  have HOP := Lib.hid hop
  clear hop hv hcm
  go_enter Tryd.func110, Tryd.ntmps110
  go_wp2_with fail
  go_loopw [5, 8] (fun _ i wr => ∃ k : Nat, k ≤ l.length ∧ i = .int .i64 k ∧ Below w.heap.size w wr ∧ Hid ((l.take k).any (fun x => x.name == p.name) = false))
     (fun _ i wr => l.length - (intOf i).toNat)
  case atStart => exact ⟨0, Nat.zero_le _, rfl, Below.refl _ _, rfl⟩
  case round =>
    obtain ⟨k, hk, rfl, hb, HO⟩ := hrel
    by_cases hlt : k < l.length
    · obtain ⟨b, off, rfl, ⟨_, hbw⟩, hop⟩ := HOP.out (by rintro rfl; simp at hlt)
      obtain ⟨c0, c1⟩ := hop k hlt
      have e0 := (hb.cell (p := ⟨b, off + k * 2, none⟩) hbw).trans c0
      have e1 := (hb.cell (p := ⟨b, off + k * 2 + 1, none⟩) hbw).trans c1
      have hPB : PB < w.heap.size := by
        by_cases h : PB < w.heap.size
        · exact h
        · simp [World.cell?, h] at hp
      have ep := (hb.cell (p := ⟨PB, 0, none⟩) hPB).trans hp
      have HST : Hid ((l.take (k + 1)).any (fun x => x.name == p.name) = (l[k].name == p.name)) := by
        rw [Hid, List.take_succ_eq_append_getElem hlt, List.any_append, HO.out]; simp
      have HAN : Hid (l.any (fun x => x.name == p.name) = ((l[k].name == p.name) || (l.drop (k + 1)).any (fun x => x.name == p.name))) := by
        have h1 : l = l.take (k + 1) ++ l.drop (k + 1) := (List.take_append_drop _ _).symm
        rw [Hid, ← HST.out, ← List.any_append, ← h1]
      generalize htk : l[k] = t at *
      have HB := Lib.hid hb
      clear htk c0 c1 hop hb
      go_wp2_with fail
      refine (begin1_calls PB p t wr ep).mono ?_
      rintro en w3 ⟨rfl, h3⟩
      have HB3 := Lib.hid (HB.out.trans (h3.mono HB.out.size))
      clear h3
      by_cases hq : (t.name == p.name) = true
      · rw [hq] at HAN HST ⊢
        go_wp2_with fail
        go_ret
        refine ⟨k, rfl, ?_, HB3.out⟩
        rw [HAN.out]
        simp
      · have hq : (t.name == p.name) = false := by simpa using hq
        rw [hq] at HAN HST ⊢
        go_wp2_with fail
        refine ⟨⟨k + 1, hlt, by simp, HB3.out, HST.out⟩, ?_⟩
        simp [intOf]
        omega
    · have hkl : k = l.length := by omega
      subst hkl
      rw [List.take_length] at HO
      go_wp2_with fail
      go_ret
      refine ⟨-1, rfl, ?_, hb⟩
      rw [HO.out]
      rfl
set_option maxRecDepth 20000 in
set_option maxHeartbeats 2000000 in
theorem containsFunc_calls (PB : Nat) (p : Pair) (l : List Pair) (v : Value) (F : Nat → Prop) (w : World) (hp : w.cell? ⟨PB, 0, none⟩ = some (.string (bs p.name))) (hv : GR w F (.row 2 (l.map Pair.gv)) [v]) (hl : l.length ≤ 100000) :
    Calls Tryd.prog 67 #[v, .func (.func 68) #[] #[.pointer (some ⟨PB, 0, none⟩)]] w fun en w' => en = .returned (.bool (l.any (fun x => x.name == p.name))) ∧ Below w.heap.size w w' := by
  have hI := indexFunc_calls PB p l v F w hp hv hl
  obtain ⟨A, c, rfl, -, -, -⟩ := pairs_open hv
  have HI := Lib.hid hI
  clear hI hv hp
  go_enter Tryd.func67, Tryd.ntmps67
  go_wp2_with fail
  refine HI.out.mono ?_
  rintro en w3 ⟨z, rfl, hz, h3⟩
  have HZ := Lib.hid hz
  clear hz
  have H3 := Lib.hid h3
  clear h3 HI
  go_wp2_with fail
  go_ret
  refine ⟨?_, H3.out⟩
  show Ending.returned (.bool _) = _
  exact congrArg (fun b => Ending.returned (.bool b)) HZ.out
end Go.Proofs.YtijpfcjlochahaaDoor
