/- Plain: what the known page, and pages of includes alone, are put together to. No program is named here. The walk of intarsiatop.alive. -/
import Derived.Test.YtijpfcjlochahaaGreatDoorEvF
import Derived.Test.YtijpfcjlochahaaGreatDoorEvD
set_option linter.unusedVariables false
set_option linter.unusedSimpArgs false
namespace Go.Proofs.YtijpfcjlochahaaGreatDoor
open Go Go.RowKit

theorem finF5_ok {s : List UInt8} {z : UriD × Bool} (h : (finF5 s z).2 = 0) : uriOk (finF5 s z).1 = true := by
  unfold finF5 at *
  split at h
  · rename_i h1
    rw [if_pos h1]
    exact h1.2
  · exact absurd h (by decide)
theorem parseZ_ok {s : List UInt8} {z : Int} (h : (parseZ s z).2 = 0) : uriOk (parseZ s z).1 = true := by
  unfold parseZ at *
  split at h
  · exact absurd h (by decide)
  · split at h
    · rename_i h1 h2
      rw [if_neg h1, if_pos h2]
      exact finF5_ok h
    · rename_i h1 h2
      rw [if_neg h1, if_neg h2]
      exact finF5_ok h
/-- An address of its own, seen from any page. -/
theorem address_own {base s t : List UInt8} {u v : UriD} (hb : (parseF base).2 = 0) (ha : (parseF base).1.abs = true) (hs : parseF s = (u, 0)) (hv : ∀ b, solveF b u = v) (hvo : uriOk v = true) (ht : writeF v = t) :
    addressF base s = (t, 0) := by
  have hu : uriOk u = true := by
    have := parseZ_ok (s := s) (z := Lib.indexAny (s.drop 7) [47, 63]) (by show (parseF s).2 = 0; rw [hs])
    rw [show parseZ s (Lib.indexAny (s.drop 7) [47, 63]) = parseF s from rfl, hs] at this
    exact this
  have hbo : uriOk (parseF base).1 = true := parseZ_ok hb
  have hr : resolveF (parseF base).1 u = (v, 0) := by
    unfold resolveF
    rw [if_pos ⟨hbo, hu, ha⟩, hv, if_pos hvo]
  unfold addressF
  rw [hs, if_neg (fun h => h rfl), hr, if_neg (fun h => h rfl)]
  unfold printF
  rw [if_pos hvo, ht]

/-! ### The known page -/
def aliveBase : List UInt8 := [104, 116, 116, 112, 58, 47, 47, 104, 47, 112]
def aliveBody : List UInt8 := [97, 60, 101, 115, 105, 58, 105, 110, 99, 108, 117, 100, 101, 32, 115, 114, 99, 61, 34, 47, 120, 34, 47, 62, 98]
def aliveUrl : List UInt8 := [104, 116, 116, 112, 58, 47, 47, 104, 47, 120]
def aliveRep : Rep := ⟨aliveUrl, 200, false, [88], 0⟩
def aliveEls : List Elem := [.mk 1 [97] [] [] false [] [], .mk 2 [] [47, 120] [] false [] [], .mk 1 [98] [] [] false [] []]
theorem alive_els : readF aliveBody = (aliveEls, 0) := by rfl
theorem alive_parse : parseF aliveBase = (⟨true, [104], 0, [47, 112], false, []⟩, 0) := by rfl
theorem alive_address : addressF aliveBase [47, 120] = (aliveUrl, 0) := by rfl
theorem alive_whole (D : Dep) (hs : D.sub [47, 120] = [47, 120]) (hr : D.replies = [aliveRep]) : wholeF D aliveBase aliveBody = doneR [97, 88, 98] := by
  have ht : takeD D 4 aliveBase aliveEls [47, 120] 0 = (doneR [88], 1) := by
    show takeStep D false _ aliveBase aliveEls [47, 120] 0 = _
    unfold takeStep
    rw [hs]
    have hi : inlineF [47, 120] aliveEls = none := by rfl
    rw [hi]
    simp only [alive_address, hr]
    rfl
  unfold wholeF
  rw [alive_els, if_neg (fun h => h rfl)]
  show (rowF D (takeD D 4 aliveBase aliveEls) false 0 [] [.mk 1 [97] [] [] false [] [], .mk 2 [] [47, 120] [] false [] [], .mk 1 [98] [] [] false [] []] 0).1 = _
  generalize takeD D 4 aliveBase aliveEls = tk at ht
  simp [rowF_cons, oneF_eq, Elem.kind, Elem.text, Elem.src, Elem.alt, Elem.soft, doneR, includeF, ht, lessR, rowF, Res.behind]
end Go.Proofs.YtijpfcjlochahaaGreatDoor
namespace Go.Proofs.YtijpfcjlochahaaGreatDoor
open Go Go.RowKit
set_option linter.unusedVariables false
set_option linter.unusedSimpArgs false

def aliveDep : Dep := ⟨fun s => s, fun _ => (false, 0), [aliveRep], false⟩
def env0 : EnvD := ⟨[], [], [], [], [], []⟩
theorem subOk_plain {v : EnvD} {D : Dep} (hD : D.sub = fun s => s) {s : List UInt8} (hs : s.length ≤ 100000) (hi : Lib.index s [36, 40] = -1) : SubOk v D s := by
  unfold SubOk
  rw [hD]
  exact ⟨by show s.length ≤ 10000000; omega, fun W hg => sub_plain v s hs hi W hg⟩
theorem takeOk_plain {v : EnvD} {D : Dep} (hD : D.sub = fun s => s) {s : List UInt8} (hs : s.length ≤ 100000) (hi : Lib.index s [36, 40] = -1) (ha : ∀ c ∈ s.drop 7, c.toNat < 128) : TakeOk v D s :=
  ⟨subOk_plain hD hs hi, by rw [hD]; exact parseOk_ascii s hs ha⟩
theorem textOk {v : EnvD} {D : Dep} (hD : D.sub = fun s => s) {s : List UInt8} (hs : s.length ≤ 100000) (hi : Lib.index s [36, 40] = -1) : okE v D (.mk 1 s [] [] false [] []) := by
  rw [okE]
  refine ⟨hs, subOk_plain hD hs hi, fun h => ?_, fun h => ?_, fun h => ?_, fun h => ?_, ?_⟩
  · exact absurd h (by decide)
  · exact absurd h (by decide)
  · exact absurd h (by decide)
  · exact absurd h (by decide)
  · rw [okL]; trivial
theorem includeOk {v : EnvD} {D : Dep} (hD : D.sub = fun s => s) {s a : List UInt8} {b : Bool} (hs : TakeOk v D s) (ha : a ≠ [] → TakeOk v D a) : okE v D (.mk 2 [] s a b [] []) := by
  rw [okE]
  refine ⟨by simp, subOk_plain hD (by simp) (by decide), fun h => ⟨hs, ha⟩, fun h => ?_, fun h => ?_, fun h => ?_, ?_⟩
  · exact absurd h (by decide)
  · exact absurd h (by decide)
  · exact absurd h (by decide)
  · rw [okL]; trivial
theorem okL_cons {v : EnvD} {D : Dep} {e : Elem} {l : List Elem} (h : okE v D e) (hl : okL v D l) : okL v D (e :: l) := by rw [okL]; exact ⟨h, hl⟩
theorem okL_nil {v : EnvD} {D : Dep} : okL v D [] := by rw [okL]; trivial
theorem alive_ok : okL env0 aliveDep aliveEls :=
  okL_cons (textOk rfl (by decide) (by decide)) (okL_cons (includeOk rfl (takeOk_plain rfl (by decide) (by decide) (by decide)) (fun h => absurd rfl h)) (okL_cons (textOk rfl (by decide) (by decide)) okL_nil))
theorem alive_run : erunF aliveDep aliveBase aliveBody true = (doneR [97, 88, 98], 0) := by
  have hw := alive_whole aliveDep rfl rfl
  unfold erunF
  rw [hw, if_pos (by unfold pageRight; rw [alive_parse]; rfl)]
  rfl
set_option maxRecDepth 20000 in
set_option maxHeartbeats 4000000 in
theorem talive_calls (w : World) (hg : Glob w) : Calls Tryz.prog 12 #[] w fun e w' => e = .returned (.bool true) ∧ Below w.heap.size w w' := by
  have hal : Below w.heap.size w (w.alloc (.cells (repCells aliveRep) 41)) := (Below.refl _ _).alloc (Nat.le_refl _) _
  have hblk := Blk.new w 41 (repCells aliveRep)
  have hgr : GR (w.alloc (.cells (repCells aliveRep) 41)) (fun _ => True) (.row 5 (aliveDep.replies.map Rep.gv)) [.slice (some ⟨w.heap.size, 0, none⟩) 1 1] := by
    refine gr_one_new (cs := [.string (bs aliveRep.url), .int .i64 aliveRep.code, .bool aliveRep.esi, .string (bs aliveRep.body), .int .i64 aliveRep.bad]) hblk trivial ?_ rfl
    exact GR_agg.2 (GRa_cons.2 ⟨[_], _, rfl, GR_str.2 rfl, GRa_cons.2 ⟨[_], _, rfl, GR_int.2 rfl, GRa_cons.2 ⟨[_], _, rfl, GR_bool.2 rfl, GRa_cons.2 ⟨[_], _, rfl, GR_str.2 rfl, GRa_cons.2 ⟨[_], [], rfl, GR_int.2 rfl, GRa_nil.2 rfl⟩⟩⟩⟩⟩)
  have HRN := Lib.hid (erun_calls env0 aliveDep aliveBase aliveBody true _ _ (parseOk_ascii aliveBase (by decide) (by decide)) rfl (fun r hr he => by
    have : r = aliveRep := by simpa [aliveDep] using hr
    rw [this] at he
    cases he) (fun _ => by rw [alive_els]; exact alive_ok) (by decide) _ (hg.below hal) hgr)
  rw [alive_run] at HRN
  have HB := Lib.hid hal
  have hq : ∀ W : World, (binOp .eql 31 (doneR [97, 88, 98]).val (.agg #[.string ⟨#[97, 88, 98]⟩, .int .i64 0, .int .i64 0, .string ⟨#[]⟩])).run Tryz.prog W = .ok (.bool true) W := fun W => by kernel_rfl
  have HQ := Lib.hid hq
  clear hal hblk hgr hq hg
  go_enter Tryz.func12, Tryz.ntmps12
  go_wp2_with fail
  refine HRN.out.mono ?_
  rintro e w1 ⟨rfl, hb1⟩
  have HB1 := Lib.hid (HB.out.trans (hb1.mono HB.out.size))
  clear hb1
  simp only [Res.val, doneR] at HQ ⊢
  have hq := HQ.out
  have hal := ((Below.refl w1.heap.size w1).alloc (Nat.le_refl _) (.cells (rCells (doneR [97, 88, 98])) 31))
  have HB2 := Lib.hid (HB1.out.trans (hal.mono HB1.out.size))
  clear hal
  go_wp2_with fail
  go_ret
  exact ⟨rfl, HB2.out⟩
end Go.Proofs.YtijpfcjlochahaaGreatDoor
