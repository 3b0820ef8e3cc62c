/- What layer 19 (eval) computes, as plain functions, over what variables and tests are (a Dep). No program is named here. -/
import Derived.Test.YtijpfcjlochahaaGreatDoorDocF
import Derived.Test.YtijpfcjlochahaaGreatDoorUriF
set_option linter.unusedVariables false
set_option linter.unusedSimpArgs false
namespace Go.Proofs.YtijpfcjlochahaaGreatDoor
open Go Go.RowKit

structure Rep where
  url : List UInt8
  code : Int
  esi : Bool
  body : List UInt8
  bad : Int
def Rep.gv (r : Rep) : GV := .agg [.str r.url, .int r.code, .bool r.esi, .str r.body, .int r.bad]
structure Res where
  out : List UInt8
  state : Int
  bad : Int
  want : List UInt8
def Res.val (r : Res) : Value := .agg #[.string (bs r.out), .int .i64 r.state, .int .i64 r.bad, .string (bs r.want)]
def doneR (s : List UInt8) : Res := ⟨s, 0, 0, []⟩
def failR (s : List UInt8) (e : Int) : Res := ⟨s, 2, e, []⟩
def waitR (u : List UInt8) : Res := ⟨[], 1, 0, u⟩
def lessR (r : Res) : Res := if r.state ≠ 0 then { r with out := [] } else r
def Res.behind (s : List UInt8) (r : Res) : Res := { r with out := s ++ r.out }
structure Dep where
  sub : List UInt8 → List UInt8
  test : List UInt8 → Bool × Int
  replies : List Rep
  full : Bool
abbrev Tk := List UInt8 → Nat → Res × Nat
/-- An include's: take is tk. -/
def includeF (tk : Tk) (s a : List UInt8) (b : Bool) (c : Nat) : Res × Nat :=
  let r := tk s c
  let r := if r.1.state = 2 ∧ a ≠ [] then tk a r.2 else r
  if r.1.state = 2 ∧ b = true then (doneR [], r.2) else (lessR r.1, r.2)
mutual
def oneF (D : Dep) (tk : Tk) (sub : Bool) (n : Nat) : Elem → Nat → Res × Nat
  | .mk k t s a b _ l, c =>
    if k = 1 then (doneR (if sub then D.sub t else t), c)
    else if k = 10 then rowF D tk true n [] l c
    else if k = 7 then chooseF D tk sub n l c
    else if k = 4 then tryF D tk sub l c
    else if k = 2 then includeF tk s a b c
    else (doneR [], c)
def rowF (D : Dep) (tk : Tk) (sub : Bool) (n : Nat) (out : List UInt8) : List Elem → Nat → Res × Nat
  | [], c => (doneR out, c)
  | e :: l, c =>
    let r := oneF D tk sub (n + out.length) e c
    if 20000 < n + out.length + r.1.out.length then (failR out 2, r.2)
    else if r.1.state ≠ 0 then (r.1.behind out, r.2)
    else rowF D tk sub n (out ++ r.1.out) l r.2
def chooseF (D : Dep) (tk : Tk) (sub : Bool) (n : Nat) : List Elem → Nat → Res × Nat
  | [], c => (doneR [], c)
  | .mk k _ _ _ _ u l :: r, c =>
    if k = 9 then rowF D tk sub n [] l c
    else if (D.test u).2 ≠ 0 then (failR [] (D.test u).2, c)
    else if (D.test u).1 then rowF D tk sub n [] l c
    else chooseF D tk sub n r c
def tryF (D : Dep) (tk : Tk) (sub : Bool) : List Elem → Nat → Res × Nat
  | .mk _ _ _ _ _ _ l1 :: .mk _ _ _ _ _ _ l2 :: _, c =>
    let r := rowF D tk sub 0 [] l1 c
    if r.1.state = 2 then
      let q := rowF D tk sub 0 [] l2 r.2
      (lessR q.1, q.2)
    else (lessR r.1, r.2)
  | [], c => (doneR [], c)
  | [_], c => (doneR [], c)
end
mutual
def inlineE (nm : List UInt8) : Elem → Option (List Elem)
  | .mk k _ s _ _ _ l => if k = 3 ∧ s = nm then some l else inlineF nm l
def inlineF (nm : List UInt8) : List Elem → Option (List Elem)
  | [] => none
  | e :: l => match inlineE nm e with
    | some x => some x
    | none => inlineF nm l
end
def repBad (r : Rep) : Int := if r.bad ≠ 0 then r.bad else if r.code ≠ 200 ∨ 20000 < r.body.length then 60 else 0
def goodF (l : List Rep) (u : List UInt8) : Option Rep := l.find? (fun r => r.url == u)
/-- take, where 'inn' puts elements of a page together one page deeper (deep: there may be none). -/
def takeStep (D : Dep) (deep : Bool) (inn : List UInt8 → List Elem → List Elem → Nat → Res × Nat) (base : List UInt8) (el : List Elem) (s : List UInt8) (c : Nat) : Res × Nat :=
  match inlineF (D.sub s) el with
  | some kids =>
    if 20 ≤ c then (failR [] 4, c)
    else if deep then (failR [] 5, c + 1)
    else (lessR (inn base el kids (c + 1)).1, (inn base el kids (c + 1)).2)
  | none =>
    if (addressF base (D.sub s)).2 ≠ 0 then (failR [] (addressF base (D.sub s)).2, c)
    else if 20 ≤ c then (failR [] 4, c)
    else match goodF D.replies (addressF base (D.sub s)).1 with
      | none => (waitR (addressF base (D.sub s)).1, c + 1)
      | some r =>
        if repBad r ≠ 0 then (failR [] (repBad r), c + 1)
        else if r.esi = false then (doneR r.body, c + 1)
        else if deep then (failR [] 5, c + 1)
        else if (readF r.body).2 ≠ 0 then (failR [] (readF r.body).2, c + 1)
        else (lessR (inn (addressF base (D.sub s)).1 (readF r.body).1 (readF r.body).1 (c + 1)).1, (inn (addressF base (D.sub s)).1 (readF r.body).1 (readF r.body).1 (c + 1)).2)
/-- take, within a page that may have d pages within itself. -/
def takeD (D : Dep) : Nat → List UInt8 → List Elem → List UInt8 → Nat → Res × Nat
  | 0 => takeStep D true fun _ _ _ c => (doneR [], c)
  | d + 1 => takeStep D false fun base el l c => rowF D (takeD D d base el) false 0 [] l c
def wholeF (D : Dep) (base body : List UInt8) : Res :=
  if (readF body).2 ≠ 0 then failR [] (readF body).2 else (rowF D (takeD D 4 base (readF body).1) false 0 [] (readF body).1 0).1

theorem oneF_eq (D : Dep) (tk : Tk) (sub : Bool) (n : Nat) (e : Elem) (c : Nat) : oneF D tk sub n e c =
    if e.kind = 1 then (doneR (if sub then D.sub e.text else e.text), c)
    else if e.kind = 10 then rowF D tk true n [] e.kids c
    else if e.kind = 7 then chooseF D tk sub n e.kids c
    else if e.kind = 4 then tryF D tk sub e.kids c
    else if e.kind = 2 then includeF tk e.src e.alt e.soft c
    else (doneR [], c) := by
  cases e
  rw [oneF]
  rfl
theorem inlineE_eq (nm : List UInt8) (e : Elem) : inlineE nm e = if e.kind = 3 ∧ e.src = nm then some e.kids else inlineF nm e.kids := by
  cases e
  rw [inlineE]
  rfl
theorem chooseF_cons (D : Dep) (tk : Tk) (sub : Bool) (n : Nat) (e : Elem) (r : List Elem) (c : Nat) : chooseF D tk sub n (e :: r) c =
    if e.kind = 9 then rowF D tk sub n [] e.kids c
    else if (D.test e.test).2 ≠ 0 then (failR [] (D.test e.test).2, c)
    else if (D.test e.test).1 then rowF D tk sub n [] e.kids c
    else chooseF D tk sub n r c := by
  cases e
  rw [chooseF]
  rfl
theorem tryF_two (D : Dep) (tk : Tk) (sub : Bool) (a b : Elem) (l : List Elem) (c : Nat) : tryF D tk sub (a :: b :: l) c =
    if (rowF D tk sub 0 [] a.kids c).1.state = 2 then (lessR (rowF D tk sub 0 [] b.kids (rowF D tk sub 0 [] a.kids c).2).1, (rowF D tk sub 0 [] b.kids (rowF D tk sub 0 [] a.kids c).2).2)
    else (lessR (rowF D tk sub 0 [] a.kids c).1, (rowF D tk sub 0 [] a.kids c).2) := by
  cases a
  cases b
  rw [tryF]
  rfl
theorem rowF_cons (D : Dep) (tk : Tk) (sub : Bool) (n : Nat) (out : List UInt8) (e : Elem) (l : List Elem) (c : Nat) : rowF D tk sub n out (e :: l) c =
    if 20000 < n + out.length + (oneF D tk sub (n + out.length) e c).1.out.length then (failR out 2, (oneF D tk sub (n + out.length) e c).2)
    else if (oneF D tk sub (n + out.length) e c).1.state ≠ 0 then ((oneF D tk sub (n + out.length) e c).1.behind out, (oneF D tk sub (n + out.length) e c).2)
    else rowF D tk sub n (out ++ (oneF D tk sub (n + out.length) e c).1.out) l (oneF D tk sub (n + out.length) e c).2 := by
  rw [rowF]
end Go.Proofs.YtijpfcjlochahaaGreatDoor
