/- What layer 5 (uri) computes, as plain functions on lists. No program is named here. -/
import Derived.Test.YtijpfcjlochahaaGreatDoorBase
import Derived.Lib.ItoaNum
import Derived.Lib.IndexMore
import Derived.Lib.IndexAny
import Derived.Lib.Strings
import Derived.Lib.Bytealg
set_option linter.unusedVariables false
set_option linter.unusedSimpArgs false
namespace Go.Proofs.YtijpfcjlochahaaGreatDoor
open Go Go.RowKit

def hostB (c : UInt8) : Bool := !((decide (97 ≤ c.toNat) && decide (c.toNat ≤ 122)) || (decide (48 ≤ c.toNat) && decide (c.toNat ≤ 57)) || c.toNat == 45 || c.toNat == 46)
def badB (c : UInt8) : Bool := decide (c.toNat ≤ 32) || decide (126 < c.toNat) || decide (0 ≤ Lib.indexByte [34, 35, 60, 62, 92, 94, 123, 124, 125, 96] c)
def hostF (s : List UInt8) : Bool := decide (1 ≤ s.length) && decide (s.length ≤ 100) && !s.any hostB
def schemeB : List UInt8 := [104, 116, 116, 112, 58, 47, 47]
structure UriD where
  abs : Bool
  host : List UInt8
  port : Int
  path : List UInt8
  asks : Bool
  query : List UInt8
def uri0 : UriD := ⟨false, [], 0, [], false, []⟩
def UriD.val (u : UriD) : Value := .agg #[.bool u.abs, .string (bs u.host), .int .i64 u.port, .string (bs u.path), .bool u.asks, .string (bs u.query)]
def UriD.small (u : UriD) : Prop := u.host.length ≤ 100000 ∧ u.path.length ≤ 100000 ∧ u.query.length ≤ 100000 ∧ -1 ≤ u.port ∧ u.port ≤ 1099511627776
def portF (n : Int) : List UInt8 := if n = 0 then [] else 58 :: Lib.decDigits n.toNat
def writeF (u : UriD) : List UInt8 := (if u.abs then schemeB ++ u.host ++ portF u.port else []) ++ u.path ++ (if u.asks then 63 :: u.query else [])
/-- Right, of an address's own fields (what does not hang on its host). -/
def okF (u : UriD) : Bool :=
  !u.path.any badB && (!u.query.any badB && (!decide (0 ≤ Lib.indexByte u.path 63) && ((u.asks || u.query.isEmpty) && (decide (0 ≤ u.port) && (decide (u.port ≤ 65535) && decide ((writeF u).length ≤ 500))))))
def uriOk (u : UriD) : Bool :=
  okF u && (if u.abs then hostF u.host && Lib.hasPrefix u.path [47]
    else u.host.isEmpty && (decide (u.port = 0) && (!Lib.hasPrefix u.path [47, 47] && !decide (0 ≤ Lib.indexByte (Lib.cut u.path [47]).1 58))))
def pathF (s : List UInt8) (u : UriD) : UriD := { u with path := (Lib.cut s [63]).1, query := (Lib.cut s [63]).2.1, asks := (Lib.cut s [63]).2.2 }
def lowB (c : UInt8) : UInt8 := if 65 ≤ c.toNat ∧ c.toNat ≤ 90 then c + 32 else c
def lowF (s : List UInt8) : List UInt8 := s.map lowB
/-- The last place of a byte, one on; 0: nowhere. -/
def lastF (c : UInt8) : List UInt8 → Nat
  | [] => 0
  | x :: l => if lastF c l = 0 then (if x = c then 1 else 0) else lastF c l + 1
def digB (c : UInt8) : Bool := decide (48 ≤ c.toNat) && decide (c.toNat ≤ 57)
def readLoop : List UInt8 → Nat → Bool → Option (Nat × Bool)
  | [], n, b => some (n, b)
  | c :: l, n, b => if digB c then (if n * 10 + (c.toNat - 48) ≤ 1099511627776 then readLoop l (n * 10 + (c.toNat - 48)) b else readLoop l 0 true) else none
def readRes : Option (Nat × Bool) → Nat × Int
  | none => (0, 10)
  | some (n, b) => if b then (0, 2) else (n, 0)
def readDecF (s : List UInt8) : Nat × Int :=
  if s = [] then (0, 10) else readRes (readLoop s 0 false)
def placeF (s : List UInt8) (u : UriD) : UriD × Bool :=
  if lastF 58 s = 0 then ({ u with abs := true, host := lowF s }, true)
  else ({ u with abs := true, host := (lowF s).take (lastF 58 s - 1), port := (readDecF (s.drop (lastF 58 s))).1 },
    decide ((readDecF (s.drop (lastF 58 s))).2 = 0) && (decide (s.length - lastF 58 s ≤ 5) && decide (0 < (readDecF (s.drop (lastF 58 s))).1)))
/-- What is behind a host: a slash is put ahead of what does not begin with one. -/
def slashF (s : List UInt8) : List UInt8 := if s = [] ∨ s.head? = some 63 then 47 :: s else s
def finF5 (s : List UInt8) (z : UriD × Bool) : UriD × Int := if z.2 = true ∧ uriOk (pathF s z.1) = true then (pathF s z.1, 0) else (uri0, 20)
/-- Parse, where the first '/' or '?' behind the scheme is looked for by a function that answered z. -/
def parseZ (s : List UInt8) (z : Int) : UriD × Int :=
  if 500 < s.length then (uri0, 2)
  else if 7 ≤ s.length ∧ lowF (s.take 7) = schemeB then
    finF5 (slashF ((s.drop 7).drop (if z < 0 then (s.drop 7).length else z.toNat))) (placeF ((s.drop 7).take (if z < 0 then (s.drop 7).length else z.toNat)) uri0)
  else finF5 s (uri0, true)
def parseF (s : List UInt8) : UriD × Int := parseZ s (Lib.indexAny (s.drop 7) [47, 63])
def printF (u : UriD) : List UInt8 × Int := if uriOk u then (writeF u, 0) else ([], 1)
/-- A step of Clean: what is left, and what is out. -/
def cleanStep (p out : List UInt8) : List UInt8 × List UInt8 :=
  if Lib.hasPrefix p [46, 46, 47] then (p.drop 3, out)
  else if Lib.hasPrefix p [46, 47] then (p.drop 2, out)
  else if Lib.hasPrefix p [47, 46, 47] then (p.drop 2, out)
  else if p = [47, 46] then ([47], out)
  else if Lib.hasPrefix p [47, 46, 46, 47] || p == [47, 46, 46] then (47 :: Lib.trimPrefix (p.drop 3) [47], out.take (lastF 47 out - 1))
  else if p = [46] ∨ p = [46, 46] then ([], out)
  else if Lib.indexByte (p.drop 1) 47 + 1 = 0 then ([], out ++ p)
  else (p.drop (Lib.indexByte (p.drop 1) 47 + 1).toNat, out ++ p.take (Lib.indexByte (p.drop 1) 47 + 1).toNat)
def cleanLoop : Nat → List UInt8 → List UInt8 → List UInt8
  | 0, _, out => out
  | n + 1, p, out => if p = [] then out else cleanLoop n (cleanStep p out).1 (cleanStep p out).2
def cleanF (p : List UInt8) : List UInt8 := cleanLoop p.length p []
def solveF (b u : UriD) : UriD :=
  { abs := true, host := if u.abs then u.host else b.host, port := if u.abs then u.port else b.port
    path := if u.path = [] then b.path else if u.path.head? = some 47 then cleanF u.path else cleanF (b.path.take (lastF 47 b.path) ++ u.path)
    asks := if u.path = [] ∧ u.asks = false then b.asks else u.asks
    query := if u.path = [] ∧ u.asks = false then b.query else u.query }
def resolveF (b u : UriD) : UriD × Int :=
  if uriOk b = true ∧ uriOk u = true ∧ b.abs = true then (if uriOk (solveF b u) then (solveF b u, 0) else (uri0, 2)) else (uri0, 1)
def addressF (base s : List UInt8) : List UInt8 × Int :=
  if (parseF s).2 ≠ 0 then ([], (parseF s).2)
  else if (resolveF (parseF base).1 (parseF s).1).2 ≠ 0 then ([], (resolveF (parseF base).1 (parseF s).1).2)
  else printF (resolveF (parseF base).1 (parseF s).1).1
end Go.Proofs.YtijpfcjlochahaaGreatDoor
