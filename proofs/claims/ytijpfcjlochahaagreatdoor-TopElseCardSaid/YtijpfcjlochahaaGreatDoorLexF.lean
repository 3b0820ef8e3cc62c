/- What layer 14 (lex) computes, as plain functions on lists of bytes, one for each Go function. No program is named here. -/
import Derived.Test.YtijpfcjlochahaaGreatDoorBase
set_option linter.unusedVariables false
set_option linter.unusedSimpArgs false
namespace Go.Proofs.YtijpfcjlochahaaGreatDoor
open Go Go.RowKit

structure Pair where
  name : List UInt8
  value : List UInt8
  deriving DecidableEq
structure Token where
  kind : Int
  text : List UInt8
  attrs : List Pair
  deriving DecidableEq
def Pair.gv (p : Pair) : GV := .agg [.str p.name, .str p.value]
def Token.gv (t : Token) : GV := .agg [.int t.kind, .str t.text, .row 2 (t.attrs.map Pair.gv)]
def noTok : Token := ⟨0, [], []⟩

theorem tok_cells {w : World} {F : Nat → Prop} {k : Int} {t : List UInt8} {l : List GV} {cs : List Value} (h : GR w F (.agg [.int k, .str t, .row 2 l]) cs) :
    ∃ va, cs = [.int .i64 k, .string (bs t), va] ∧ GR w F (.row 2 l) [va] := by
  obtain ⟨a, d, rfl, h1, h2⟩ := GRa_cons.1 (GR_agg.1 h)
  obtain ⟨a2, d2, rfl, h3, h4⟩ := GRa_cons.1 h2
  obtain ⟨a3, d3, rfl, h5, h6⟩ := GRa_cons.1 h4
  rw [GR_int] at h1
  rw [GR_str] at h3
  rw [GRa_nil] at h6
  subst h1 h3 h6
  obtain ⟨A, c, xs, rfl, _⟩ := GR_row.1 h5
  exact ⟨_, rfl, h5⟩
theorem cells_tok {w : World} {F : Nat → Prop} {k : Int} {t : List UInt8} {l : List GV} {va : Value} (h : GR w F (.row 2 l) [va]) :
    GR w F (.agg [.int k, .str t, .row 2 l]) [.int .i64 k, .string (bs t), va] :=
  GR_agg.2 (GRa_cons.2 ⟨[.int .i64 k], [.string (bs t), va], rfl, GR_int.2 rfl, GRa_cons.2 ⟨[.string (bs t)], [va], rfl, GR_str.2 rfl, GRa_cons.2 ⟨[va], [], rfl, h, GRa_nil.2 rfl⟩⟩⟩)
theorem cells_pair {w : World} {F : Nat → Prop} (p : Pair) : GR w F p.gv [.string (bs p.name), .string (bs p.value)] :=
  GR_agg.2 (GRa_cons.2 ⟨[.string (bs p.name)], [.string (bs p.value)], rfl, GR_str.2 rfl, GRa_cons.2 ⟨[.string (bs p.value)], [], rfl, GR_str.2 rfl, GRa_nil.2 rfl⟩⟩)
theorem pairs_open {w : World} {F : Nat → Prop} {l : List Pair} {v : Value} (h : GR w F (.row 2 (l.map Pair.gv)) [v]) :
    ∃ A c, v = .slice A l.length c ∧ l.length ≤ c ∧ c ≤ maxLen ∧ (l ≠ [] → ∃ b o, A = some ⟨b, o, none⟩ ∧ F b ∧
      ∀ i (hi : i < l.length), w.cell? ⟨b, o + i * 2, none⟩ = some (.string (bs l[i].name)) ∧ w.cell? ⟨b, o + i * 2 + 1, none⟩ = some (.string (bs l[i].value))) := by
  obtain ⟨A, c, h1, h2, h3, h4⟩ := row_open h (by omega)
  simp only [List.length_map] at h1 h2 h4
  refine ⟨A, c, h1, h2, h3, fun hne => ?_⟩
  obtain ⟨b, o, hA, hF, hc⟩ := h4 (by simpa using hne)
  refine ⟨b, o, hA, hF, fun i hi => ?_⟩
  obtain ⟨cs, g1, _, g3⟩ := hc i hi
  simp only [List.getElem_map, Pair.gv, GR, GRa] at g1
  obtain ⟨a, d, rfl, rfl, a2, d2, rfl, rfl, rfl⟩ := g1
  exact ⟨g3 0 _ rfl, g3 1 _ rfl⟩
theorem toks_open {w : World} {F : Nat → Prop} {l : List Token} {v : Value} (h : GR w F (.row 3 (l.map Token.gv)) [v]) :
    ∃ A c, v = .slice A l.length c ∧ l.length ≤ c ∧ c ≤ maxLen ∧ (l ≠ [] → ∃ b o, A = some ⟨b, o, none⟩ ∧ F b ∧
      ∀ i (hi : i < l.length), ∃ va, w.cell? ⟨b, o + i * 3, none⟩ = some (.int .i64 l[i].kind) ∧ w.cell? ⟨b, o + i * 3 + 1, none⟩ = some (.string (bs l[i].text)) ∧
        w.cell? ⟨b, o + i * 3 + 2, none⟩ = some va ∧ GR w F (.row 2 (l[i].attrs.map Pair.gv)) [va]) := by
  obtain ⟨A, c, h1, h2, h3, h4⟩ := row_open h (by omega)
  simp only [List.length_map] at h1 h2 h4
  refine ⟨A, c, h1, h2, h3, fun hne => ?_⟩
  obtain ⟨b, o, hA, hF, hc⟩ := h4 (by simpa using hne)
  refine ⟨b, o, hA, hF, fun i hi => ?_⟩
  obtain ⟨cs, g1, _, g3⟩ := hc i hi
  simp only [List.getElem_map, Token.gv] at g1
  obtain ⟨va, rfl, hva⟩ := tok_cells g1
  exact ⟨va, g3 0 _ rfl, g3 1 _ rfl, g3 2 _ rfl, hva⟩

def openB : List UInt8 := [60, 101, 115, 105, 58]
def closB : List UInt8 := [60, 47, 101, 115, 105, 58]
def remB : List UInt8 := [60, 33, 45, 45, 101, 115, 105]
def behB : List UInt8 := [45, 45, 62]
def lastMark (b : Bool) : List UInt8 := if b then behB else remB
/-- A text begins with a mark, or is the beginning of it. -/
def hits (l m : List UInt8) : Bool := l.take m.length == m.take l.length
def markAt (b : Bool) (l : List UInt8) : Option (List UInt8) :=
  if hits l openB then some openB else if hits l closB then some closB else if hits l (lastMark b) then some (lastMark b) else none
def markF (b : Bool) : List UInt8 → List UInt8 × Nat
  | [] => ([], 0)
  | c :: l =>
    match (if c = 60 ∨ c = 45 then markAt b (c :: l) else none) with
    | some m => (m, 0)
    | none => ((markF b l).1, (markF b l).2 + 1)

/-- What reading a tag comes to: what was read, what is left, and its place; the text is too short; an error. -/
inductive Out (α : Type) where
  | ok (a : α) (r : List UInt8) (k : Nat)
  | short
  | bad (e : Int)
def Out.bind {α β : Type} (x : Out α) (f : α → List UInt8 → Nat → Out β) : Out β :=
  match x with
  | .ok a r k => f a r k
  | .short => .short
  | .bad e => .bad e
def peekF (r : List UInt8) (k : Nat) : Out UInt8 :=
  match r with
  | [] => .short
  | c :: _ => if 400 ≤ k then .bad 2 else .ok c r k
def needF : List UInt8 → List UInt8 → Nat → Out Unit
  | [], r, k => .ok () r k
  | c :: m, r, k => (peekF r k).bind fun x r k => if x = c then needF m r.tail (k + 1) else .bad 40
def runF (p : UInt8 → Bool) : List UInt8 → Nat → Out (List UInt8)
  | [], _ => .short
  | c :: r, k => if 400 ≤ k then .bad 2 else if p c then (runF p r (k + 1)).bind fun l r k => .ok (c :: l) r k else .ok [] (c :: r) k
def letterB (c : UInt8) : Bool := (97 ≤ c && c ≤ 122) || c == 45
def blankB (c : UInt8) : Bool := c == 32 || c == 9 || c == 10 || c == 13
def plainB (c : UInt8) : Bool := c != 34 && c != 60 && c != 62
def nameF (r : List UInt8) (k : Nat) : Out (List UInt8) :=
  (runF letterB r k).bind fun l r k => if l = [] then .bad 40 else .ok l r k
/-- An attribute's value, and what follows. -/
def tagVal (go : List Pair → List UInt8 → Nat → Out Token) (at_ : List Pair) (a : List UInt8) (r : List UInt8) (k : Nat) : Out Token :=
  (needF [34] r k).bind fun _ r k =>
  (runF plainB r k).bind fun v r k =>
  (needF [34] r k).bind fun _ r k => go (at_ ++ [⟨a, v⟩]) r k
def tagEq (go : List Pair → List UInt8 → Nat → Out Token) (at_ : List Pair) (a : List UInt8) (r : List UInt8) (k : Nat) : Out Token :=
  if at_.any (fun x => x.name == a) || decide (8 ≤ at_.length) then .bad 41 else tagVal go at_ a r k
/-- Behind blanks. -/
def tagTail (go : List Pair → List UInt8 → Nat → Out Token) (nm : List UInt8) (at_ : List Pair) (gap : List UInt8) (c : UInt8) (r : List UInt8) (k : Nat) : Out Token :=
  if c = 62 then .ok ⟨1, nm, at_⟩ r.tail (k + 1)
  else if c = 47 then (needF [62] r.tail (k + 1)).bind fun _ r k => .ok ⟨3, nm, at_⟩ r k
  else if gap = [] then .bad 40
  else (nameF r k).bind fun a r k => (needF [61] r k).bind fun _ r k => tagEq go at_ a r k
/-- The rest of a tag behind its name. -/
def tagRest : Nat → List UInt8 → List Pair → List UInt8 → Nat → Out Token
  | 0, _, _, _, _ => .short
  | n + 1, nm, at_, r, k =>
    (runF blankB r k).bind fun gap r k =>
    (peekF r k).bind fun c r k => tagTail (fun at_ r k => tagRest n nm at_ r k) nm at_ gap c r k
def tagF (m r : List UInt8) (k : Nat) : Out Token :=
  (needF m r k).bind fun _ r k =>
  (nameF r k).bind fun nm r k =>
  if m = closB then
    (runF blankB r k).bind fun _ r k =>
    (needF [62] r k).bind fun _ r k => .ok ⟨2, nm, []⟩ r k
  else tagRest (r.length + 1) nm [] r k
def cutF (s m : List UInt8) : Token × Nat × Int :=
  match tagF m s 0 with
  | .ok t _ k => (t, k, 0)
  | .short => (noTok, 0, 0)
  | .bad e => (noTok, 0, e)

structure LexSt where
  rest : List UInt8
  inside : Bool
  deriving DecidableEq
def LexSt.gv (x : LexSt) : GV := .agg [.str x.rest, .bool x.inside]
def rightF (x : LexSt) : Bool :=
  let m := (markF x.inside x.rest).1
  let i := (markF x.inside x.rest).2
  if x.rest = [] ∨ i ≠ 0 ∨ x.rest.length < m.length then decide (i = 0)
  else decide (m = openB ∨ m = closB) && decide ((cutF x.rest m).2.1 = 0) && decide ((cutF x.rest m).2.2 = 0)
def textTok (l : List UInt8) : Token := ⟨0, l, []⟩
def feedLoop : Nat → Bool → List UInt8 → List Token → LexSt × List Token × Int
  | 0, _, _, _ => (⟨[], false⟩, [], 0)
  | n + 1, b, s, out =>
    let m := (markF b s).1
    let i := (markF b s).2
    let out := if 0 < i then out ++ [textTok (s.take i)] else out
    let s := s.drop i
    if s.length < m.length ∨ m = [] then (⟨s, b⟩, out, 0)
    else if m = remB ∨ m = behB then feedLoop n (decide (m = remB)) (s.drop m.length) out
    else
      let c := cutF s m
      if c.2.2 ≠ 0 then (⟨[], false⟩, [], c.2.2)
      else if c.2.1 = 0 then (⟨s, b⟩, out, 0)
      else feedLoop n b (s.drop c.2.1) (out ++ [c.1])
def feedF (x : LexSt) (s : List UInt8) : LexSt × List Token × Int :=
  if rightF x then feedLoop ((x.rest ++ s).length + 1) x.inside (x.rest ++ s) [] else (⟨[], false⟩, [], 1)
def endF (x : LexSt) : List Token × Int :=
  if rightF x then
    if openB.isPrefixOf x.rest || closB.isPrefixOf x.rest then ([], 40)
    else if x.rest = [] then ([], 0) else ([textTok x.rest], 0)
  else ([], 1)
/-- One more token behind those that are joined. -/
def joinStep (out : List Token) (t : Token) : List Token :=
  if t.kind ≠ 0 then out ++ [t]
  else if t.text = [] then out
  else match out.getLast? with
    | some u => if u.kind = 0 then out.dropLast ++ [{ u with text := u.text ++ t.text }] else out ++ [t]
    | none => out ++ [t]
def joinF (l : List Token) : List Token := l.foldl joinStep []
def allF (s : List UInt8) : List Token × Int :=
  let f := feedF ⟨[], false⟩ s
  if f.2.2 ≠ 0 then ([], f.2.2)
  else
    let g := endF f.1
    if g.2 ≠ 0 then ([], g.2) else (joinF (f.2.1 ++ g.1), 0)
end Go.Proofs.YtijpfcjlochahaaGreatDoor
