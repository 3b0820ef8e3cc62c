/- What layer 15 (doc) computes, as plain functions on lists, one for each Go function. No program is named here. -/
import Derived.Test.YtijpfcjlochahaaGreatDoorLexF
set_option linter.unusedVariables false
set_option linter.unusedSimpArgs false
namespace Go.Proofs.YtijpfcjlochahaaGreatDoor
open Go Go.RowKit

inductive Elem where
  | mk (kind : Int) (text src alt : List UInt8) (soft : Bool) (test : List UInt8) (kids : List Elem)
namespace Elem
def kind : Elem → Int | .mk k _ _ _ _ _ _ => k
def text : Elem → List UInt8 | .mk _ t _ _ _ _ _ => t
def src : Elem → List UInt8 | .mk _ _ s _ _ _ _ => s
def alt : Elem → List UInt8 | .mk _ _ _ a _ _ _ => a
def soft : Elem → Bool | .mk _ _ _ _ b _ _ => b
def test : Elem → List UInt8 | .mk _ _ _ _ _ t _ => t
def kids : Elem → List Elem | .mk _ _ _ _ _ _ l => l
def setKids : Elem → List Elem → Elem | .mk k t s a b u _, l => .mk k t s a b u l
def setSoft : Elem → Bool → Elem | .mk k t s a _ u l, b => .mk k t s a b u l
def setSrc : Elem → List UInt8 → Elem | .mk k t _ a b u l, s => .mk k t s a b u l
def setAlt : Elem → List UInt8 → Elem | .mk k t s _ b u l, a => .mk k t s a b u l
def setText : Elem → List UInt8 → Elem | .mk k _ s a b u l, t => .mk k t s a b u l
def setTest : Elem → List UInt8 → Elem | .mk k t s a b _ l, u => .mk k t s a b u l
@[simp] theorem kind_setKids (e : Elem) (l : List Elem) : (e.setKids l).kind = e.kind := by cases e; rfl
@[simp] theorem kids_setKids (e : Elem) (l : List Elem) : (e.setKids l).kids = l := by cases e; rfl
@[simp] theorem src_setKids (e : Elem) (l : List Elem) : (e.setKids l).src = e.src := by cases e; rfl
@[simp] theorem text_setKids (e : Elem) (l : List Elem) : (e.setKids l).text = e.text := by cases e; rfl
@[simp] theorem kind_setSoft (e : Elem) (b : Bool) : (e.setSoft b).kind = e.kind := by cases e; rfl
@[simp] theorem kids_setSoft (e : Elem) (b : Bool) : (e.setSoft b).kids = e.kids := by cases e; rfl
@[simp] theorem src_setSoft (e : Elem) (b : Bool) : (e.setSoft b).src = e.src := by cases e; rfl
@[simp] theorem text_setSoft (e : Elem) (b : Bool) : (e.setSoft b).text = e.text := by cases e; rfl
@[simp] theorem kind_setSrc (e : Elem) (s : List UInt8) : (e.setSrc s).kind = e.kind := by cases e; rfl
@[simp] theorem kids_setSrc (e : Elem) (s : List UInt8) : (e.setSrc s).kids = e.kids := by cases e; rfl
@[simp] theorem kind_setAlt (e : Elem) (s : List UInt8) : (e.setAlt s).kind = e.kind := by cases e; rfl
@[simp] theorem kids_setAlt (e : Elem) (s : List UInt8) : (e.setAlt s).kids = e.kids := by cases e; rfl
@[simp] theorem kind_setText (e : Elem) (s : List UInt8) : (e.setText s).kind = e.kind := by cases e; rfl
@[simp] theorem kids_setText (e : Elem) (s : List UInt8) : (e.setText s).kids = e.kids := by cases e; rfl
@[simp] theorem kind_setTest (e : Elem) (s : List UInt8) : (e.setTest s).kind = e.kind := by cases e; rfl
@[simp] theorem kids_setTest (e : Elem) (s : List UInt8) : (e.setTest s).kids = e.kids := by cases e; rfl
end Elem
mutual
def Elem.gv : Elem → GV | .mk k t s a b u l => .agg [.int k, .str t, .str s, .str a, .bool b, .str u, .row 7 (elemGvs l)]
def elemGvs : List Elem → List GV | [] => [] | e :: l => e.gv :: elemGvs l
end
theorem elemGvs_eq : ∀ l : List Elem, elemGvs l = l.map Elem.gv
  | [] => by simp [elemGvs]
  | e :: l => by simp only [elemGvs, List.map_cons, elemGvs_eq l]
def elem0 (k : Int) : Elem := .mk k [] [] [] false [] []
def textEl (s : List UInt8) : Elem := .mk 1 s [] [] false [] []

def nInclude : List UInt8 := [105, 110, 99, 108, 117, 100, 101]
def nComment : List UInt8 := [99, 111, 109, 109, 101, 110, 116]
def nInline : List UInt8 := [105, 110, 108, 105, 110, 101]
def nVars : List UInt8 := [118, 97, 114, 115]
def nRemove : List UInt8 := [114, 101, 109, 111, 118, 101]
def nTry : List UInt8 := [116, 114, 121]
def nAttempt : List UInt8 := [97, 116, 116, 101, 109, 112, 116]
def nExcept : List UInt8 := [101, 120, 99, 101, 112, 116]
def nChoose : List UInt8 := [99, 104, 111, 111, 115, 101]
def nWhen : List UInt8 := [119, 104, 101, 110]
def nOtherwise : List UInt8 := [111, 116, 104, 101, 114, 119, 105, 115, 101]
def nSrc : List UInt8 := [115, 114, 99]
def nAlt : List UInt8 := [97, 108, 116]
def nOnerror : List UInt8 := [111, 110, 101, 114, 114, 111, 114]
def nContinue : List UInt8 := [99, 111, 110, 116, 105, 110, 117, 101]
def nName : List UInt8 := [110, 97, 109, 101]
def nFetchable : List UInt8 := [102, 101, 116, 99, 104, 97, 98, 108, 101]
def nYes : List UInt8 := [121, 101, 115]
def nNo : List UInt8 := [110, 111]
def nText : List UInt8 := [116, 101, 120, 116]
def nTest : List UInt8 := [116, 101, 115, 116]

structure Rule where
  kind : Int
  alone : Bool
  inn : Int
def ruleF (s : List UInt8) : Option Rule :=
  if s = nInclude then some ⟨2, true, 0⟩
  else if s = nComment then some ⟨12, true, 0⟩
  else if s = nInline then some ⟨3, false, 0⟩
  else if s = nVars then some ⟨10, false, 0⟩
  else if s = nRemove then some ⟨11, false, 0⟩
  else if s = nTry then some ⟨4, false, 0⟩
  else if s = nAttempt then some ⟨5, false, 4⟩
  else if s = nExcept then some ⟨6, false, 4⟩
  else if s = nChoose then some ⟨7, false, 0⟩
  else if s = nWhen then some ⟨8, false, 7⟩
  else if s = nOtherwise then some ⟨9, false, 7⟩
  else none
/-- An attribute is taken; none: it may not be. -/
def takeF (kd : Int) (e : Elem) (n v : List UInt8) : Option Elem :=
  if kd = 2 then
    if n = nSrc then (if v = [] then none else some (e.setSrc v))
    else if n = nAlt then some (e.setAlt v)
    else if n = nOnerror then (if v = nContinue then some (e.setSoft true) else none)
    else none
  else if kd = 3 then
    if n = nName then (if v = [] then none else some (e.setSrc v))
    else if n = nFetchable ∧ (v = nYes ∨ v = nNo) then some e else none
  else if kd = 12 then (if n = nText then some ((e.setText v).setSoft true) else none)
  else if kd = 8 then (if n = nTest then some ((e.setTest v).setSoft true) else none)
  else none
def attrsF (kd : Int) : Elem → List Pair → List Pair → Option Elem
  | e, _, [] => some e
  | e, seen, p :: l =>
    if seen.any (fun x => x.name == p.name) then none
    else match takeF kd e p.name p.value with
      | none => none
      | some e' => attrsF kd e' (seen ++ [p]) l
def needsF (kd : Int) (e : Elem) : Bool :=
  if kd = 2 ∨ kd = 3 then decide (e.src ≠ []) else if kd = 12 ∨ kd = 8 then e.soft else true
def hardF (kd : Int) (e : Elem) : Elem := e.setSoft (e.soft && decide (kd = 2))

structure Level where
  e : Elem
  name : List UInt8
def Level.gv (x : Level) : GV := .agg [x.e.gv, .str x.name]
def fitsF (t : Elem) (kind inn : Int) : Bool :=
  if t.kind = 4 then decide (kind = 5 ∧ t.kids.length = 0 ∨ kind = 6 ∧ t.kids.length = 1)
  else if t.kind = 7 then decide ((kind = 8 ∨ kind = 9 ∧ 0 < t.kids.length) ∧ ∀ u, t.kids.getLast? = some u → u.kind ≠ 9)
  else decide (inn = 0)
def putK (t e : Elem) : Elem := if t.kind = 11 then t else t.setKids (t.kids ++ [e])
/-- The stack, the open one first. -/
def putF : List Level → Elem → List Level
  | [], _ => []
  | t :: r, e => ⟨putK t.e e, t.name⟩ :: r
def wordF (st : List Level) (t : Token) : List Level × Int :=
  match st with
  | [] => ([], 0)
  | u :: r =>
    if u.e.kind = 4 ∨ u.e.kind = 7 then (u :: r, if t.text.all blankB then 0 else 42)
    else (putF (u :: r) (textEl t.text), 0)
def beginF (st : List Level) (t : Token) : List Level × Int :=
  match st, ruleF t.text with
  | [], _ => ([], 0)
  | st, none => (st, 40)
  | u :: r, some q =>
    if q.alone ≠ decide (t.kind = 3) then (u :: r, 40)
    else match attrsF q.kind (elem0 q.kind) [] t.attrs with
      | none => (u :: r, 41)
      | some e =>
        if needsF q.kind e = false then (u :: r, 41)
        else if fitsF u.e q.kind q.inn = false then (u :: r, 42)
        else if q.alone then (putF (u :: r) (hardF q.kind e), 0)
        else if 16 < (u :: r).length then (u :: r, 5)
        else (⟨hardF q.kind e, t.text⟩ :: u :: r, 0)
def closeF (st : List Level) (t : Token) : List Level × Int :=
  match st, ruleF t.text with
  | [], _ => ([], 0)
  | st, none => (st, 40)
  | u :: r, some q =>
    if q.alone then (u :: r, 40)
    else if r = [] ∨ u.name ≠ t.text ∨ u.e.kind = 4 ∧ u.e.kids.length ≠ 2 ∨ u.e.kind = 7 ∧ u.e.kids.length = 0 then (u :: r, 42)
    else (putF r u.e, 0)
def takeTok (st : List Level) (t : Token) : List Level × Int :=
  if t.kind = 1 ∨ t.kind = 3 then beginF st t else if t.kind = 2 then closeF st t else wordF st t
def buildLoop : Nat → List Level → List Token → List Level × Int
  | _, st, [] => (st, 0)
  | i, st, t :: l =>
    if 400 ≤ i then (st, 4)
    else if (takeTok st t).2 ≠ 0 then takeTok st t
    else buildLoop (i + 1) (takeTok st t).1 l
def knownF (t : Token) : Token := if t.kind = 1 ∨ t.kind = 2 ∨ t.kind = 3 then t else textTok t.text
def joinedF (l : List Token) : List Token := joinF (l.map knownF)
def page0 : Level := ⟨elem0 0, []⟩
def buildF (l : List Token) : List Elem × Int :=
  let z := buildLoop 0 [page0] (joinedF l)
  if z.2 ≠ 0 then ([], z.2)
  else match z.1 with
    | [p] => (p.e.kids, 0)
    | _ => ([], 42)
def readF (s : List UInt8) : List Elem × Int := if (allF s).2 ≠ 0 then ([], (allF s).2) else buildF (allF s).1
end Go.Proofs.YtijpfcjlochahaaGreatDoor
