/- A call that leaves the world as it is, in a region that draws its order, may be taken first. No program is named here. -/
import Derived.OrdersHeld
import Derived.WalkKit
set_option linter.unusedVariables false
set_option linter.unusedSimpArgs false
namespace Go.Proofs.YtijpfcjlochahaaGreatDoor
open Go
set_option linter.unusedVariables false
set_option linter.unusedSimpArgs false
section
variable {P : Program} {ops : Array Oper} {Q : Exit → Act → World → Prop} {md : Region.Mode} {S : World → Prop}

/-- Whatever world meets S, the operation calls a function that answers v and leaves the world as it is. -/
def Asks (P : Program) (ops : Array Oper) (S : World → Prop) (o : Oper) (v : Value) (a : Act) : Prop :=
  Region.wanted o (yielded ops a.tmps) = true ∧ ∃ f args, (∀ w, (execOp a.eval o).run P w = .ok (.enter f args) w) ∧ ∀ w, S w → Calls P f args w fun e w' => e = .returned v ∧ w = w'

theorem Asks.wpOp {i : Nat} {o : Oper} {v : Value} {a : Act} (hi : ops[i]? = some o) (h : Asks P ops S o v a) {K : Act → World → Prop} {w : World} (hS : S w) (hK : K (a.put o.dst v) w) : wpOp P ops Q i K a w := by
  obtain ⟨hw, f, args, h1, h2⟩ := h
  unfold Go.wpOp
  simp only [hi, hw, if_true]
  refine .inl ?_
  unfold Oper.wp
  rw [h1 w]
  refine Calls.mono (h2 w hS) ?_
  rintro e w' ⟨rfl, rfl⟩
  exact hK
theorem Asks.same {o : Oper} {v : Value} {a a' : Act} (h : Asks P ops S o v a) (he : execOp a'.eval o = execOp a.eval o) (hw : Region.wanted o (yielded ops a'.tmps) = Region.wanted o (yielded ops a.tmps)) : Asks P ops S o v a' := by
  obtain ⟨h0, f, args, h1, h2⟩ := h
  exact ⟨hw.trans h0, f, args, fun w => by rw [he]; exact h1 w, h2⟩
/-- What one operation makes of the state: its own slot, and what is deferred. -/
def Next1 (a : Act) (dst : Option Tmp) (a' : Act) : Prop := ∃ (l : _) (u : Value), a' = Act.put { a with defers := l } dst u
theorem wpOp_shape {j : Nat} {oj : Oper} (hj : ops[j]? = some oj) (hs : ∀ cs b, oj.op ≠ .select cs b) {K : Act → World → Prop} {a : Act} {w : World} (h : wpOp P ops Q j K a w) :
    wpOp P ops Q j (fun a' w' => Next1 a oj.dst a' ∧ K a' w') a w := by
  have hput : ∀ u, Next1 a oj.dst (a.put oj.dst u) := fun u => ⟨a.defers, u, rfl⟩
  unfold Go.wpOp at *
  simp only [hj] at *
  by_cases hw : Region.wanted oj (yielded ops a.tmps) = true
  · rw [if_pos hw] at h ⊢
    refine h.imp (fun h => ?_) id
    unfold Oper.wp at *
    revert h
    generalize (execOp a.eval oj).run P w = r
    intro h
    rcases r with ⟨n, w'⟩ | ⟨x, w'⟩
    · rcases n with u | f | d | _ | _
      all_goals simp only [Oper.upon] at h ⊢
      all_goals first
        | exact ⟨hput _, h⟩
        | exact ⟨⟨_, _, rfl⟩, h⟩
        | (refine Calls.mono h fun e w'' he => ?_
           rcases e with u | c | _
           · exact ⟨hput u, he⟩
           · exact he
           · exact he)
        | exact Rows.mono h fun u w'' he => ⟨hput u, he⟩
        | exact h
    · rcases x with _ | _ | _ | _ | _ <;> simp only [Oper.upon] at h ⊢ <;> exact h
  · rw [if_neg hw] at h ⊢
    exact ⟨hput _, h⟩
theorem Asks.next {oi oj : Oper} {v : Value} {a a' : Act} (h : Asks P ops S oi v a) (hap : oi.apart ops oj = true) (hsi : ∀ cs b, oi.op ≠ .select cs b) (hn : Next1 a oj.dst a') : Asks P ops S oi v a' := by
  obtain ⟨l, u, rfl⟩ := hn
  obtain ⟨-, -, h3⟩ := Oper.apart_spec hap
  exact h.same (execOp_put (ops := ops) oi hsi { a with defers := l } oj.dst u h3) (wanted_put oi { a with defers := l } oj.dst u h3)
/-- The other operation, ahead of the call or behind it. -/
theorem wpOp_asks {j : Nat} {oi oj : Oper} {v : Value} (hj : ops[j]? = some oj) (hap : oi.apart ops oj = true) (hsi : ∀ cs b, oi.op ≠ .select cs b) (hsj : ∀ cs b, oj.op ≠ .select cs b)
    (hQ : ∀ c a w, Q (.panic c) (a.put oi.dst v) w → Q (.panic c) a w) {K : Act → World → Prop} {a : Act} {w : World} (hy : Asks P ops S oi v a) (h : wpOp P ops Q j K (a.put oi.dst v) w) :
    wpOp P ops Q j (fun a' w' => Asks P ops S oi v a' ∧ K (a'.put oi.dst v) w') a w := by
  have h1 := wpOp_putIf (S := fun _ => False) hj hap hsi hsj hQ (.inl ⟨hy.1, fun _ hf => hf.elim⟩) h
  exact wpOp_mono (fun a' w' h2 => ⟨hy.next hap hsi h2.1, h2.2.2⟩) (wpOp_shape hj hsj h1)
theorem wpAnyH_ask {i : Nat} {oi : Oper} {v : Value} {listed : Array Bool} {a : Act} {w : World} {fuel : Nat} (hi : ops[i]? = some oi) (hs : Region.noSelect ops = true) (hf : Region.free md ops listed i = true)
    (hr : (Region.ready md ops listed).contains i = true) (hQ : ∀ c a w, Q (.panic c) (a.put oi.dst v) w → Q (.panic c) a w) (hy : Asks P ops S oi v a) (hS : S w)
    (h : wpAnyH P md ops Q S fuel (listed.setIfInBounds i true) (a.put oi.dst v) w) : wpAnyH P md ops Q S (fuel + 1) listed a w := by
  have hsel := Region.noSelect_spec hs
  have hfr := fun j oj hj hne hun hno => Region.free_spec hi hf j oj hj hne hun hno
  have hrd : i ∈ Region.ready md ops listed := by simpa using hr
  clear hf hr hs
  induction fuel generalizing listed a w with
  | zero =>
    refine ⟨fun he => absurd (he ▸ hrd) (by simp), fun j hj => ?_⟩
    rcases Classical.em (j = i) with rfl | hji
    · exact hy.wpOp hi hS ⟨hS, h⟩
    · exact absurd (ready_mono hj hji) (by rw [h.1]; simp)
  | succ fuel ih =>
    refine ⟨fun he => absurd (he ▸ hrd) (by simp), fun j hj => ?_⟩
    rcases Classical.em (j = i) with rfl | hji
    · exact hy.wpOp hi hS ⟨hS, h⟩
    · obtain ⟨hun, oj, hoj, hall⟩ := mem_ready.1 hj
      have hi0 := (mem_ready.1 hrd).1
      have hno : ∀ e ∈ oj.after, Region.binds md e = true → e.on ≠ i := by
        intro e he hb heq
        have h1 := hall e he hb
        rw [heq] at h1
        rw [Array.getD_eq_getD_getElem?] at h1 hi0
        cases hl : listed[i]? with
        | none => rw [hl] at h1; cases h1
        | some b =>
          rw [hl] at h1 hi0
          have h1 : b = true := h1
          have hi0 : b = false := hi0
          rw [h1] at hi0; cases hi0
      refine wpOp_mono (fun a' w' h3 => ⟨h3.2.1, ih h3.1 h3.2.1 ?_ ?_ (ready_mono hrd (Ne.symm hji))⟩) (wpOp_asks hoj (hfr j oj hoj hji hun hno) (fun cs b => hsel i oi cs b hi) (fun cs b => hsel j oj cs b hoj) hQ hy (h.2 j (ready_mono hj hji)))
      · rw [Array.setIfInBounds_comm _ _ hji]
        exact h3.2.2
      · intro k ok hk hki hunk hnok
        refine hfr k ok hk hki ?_ hnok
        rcases Classical.em (j = k) with rfl | hjk
        · exact hun
        · rwa [getD_set_ne true hjk] at hunk
end
end Go.Proofs.YtijpfcjlochahaaGreatDoor
