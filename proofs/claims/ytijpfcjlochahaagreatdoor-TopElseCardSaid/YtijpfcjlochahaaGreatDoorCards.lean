/-
  DERIVED. GIVEN WITH THE SEED: THE CARDS: each row of YtijpfcjlochahaaGreatDoorRows.lean that lists a variable, with what it lists TIED to the program's text (the seventh form; the later family's looks); each row that meets fmt, with fmt's text TOLD by the authors' own Lean function (tested against real Go, not proved from fmt's source: count such statements apart). THE CARD IS WHAT COUNTS. Prove the row's statement (the work); the ties are given (YtijpfcjlochahaaGreatDoorTie.lean); close each card by the builder's one call (the guide's Derived/Test/ToyasCard.lean, 'card_holds'). Laid BY PROGRAM, IN A SANDBOX (cutbox-door.mjs). By AI agents, Wed Nov 11 2026. No macro, syntax, notation, axiom, sorry.
-/
import Derived.Test.YtijpfcjlochahaaGreatDoorRows
import GoSem.ClaimSeven
namespace Go.Proofs.YtijpfcjlochahaaGreatDoor
namespace Rows

/-- THE TIED CARD OF 'intarsiatop.TopJoins'. -/
def topJoinsCard : Claim7 := { stood := { row := topJoinsRow, standIns := [], harness := (true, "dc170db9ef0c1fe77def1e8c0e3fad065538081253e6cf70e4f8088c48325326"), looks := true }, kinds := [], alts := [], laidByText := true, laidKinds := [.data, .data, .data, .data, .pinned], laidTests := true, laidLooks := .later }
def TopJoinsCardSaid : Prop := Claim7.holds Tryz.pinned (.plain (OpenSpec.ofChange topJoinsSpec)) topJoinsCard

/-- THE TIED CARD OF 'intarsiatop.TopPieces'. -/
def topPiecesCard : Claim7 := { stood := { row := topPiecesRow, standIns := [], harness := (true, "dc170db9ef0c1fe77def1e8c0e3fad065538081253e6cf70e4f8088c48325326"), looks := true }, kinds := [], alts := [], laidByText := true, laidKinds := [.data, .data, .data, .data, .pinned], laidTests := true, laidLooks := .later }
def TopPiecesCardSaid : Prop := Claim7.holds Tryz.pinned (.plain (OpenSpec.ofChange topPiecesSpec)) topPiecesCard

/-- THE TIED CARD OF 'intarsiatop.TopElse'. -/
def topElseCard : Claim7 := { stood := { row := topElseRow, standIns := [], harness := (true, "dc170db9ef0c1fe77def1e8c0e3fad065538081253e6cf70e4f8088c48325326"), looks := true }, kinds := [], alts := [], laidByText := true, laidKinds := [.data, .data, .data, .data, .pinned], laidTests := true, laidLooks := .later }
def TopElseCardSaid : Prop := Claim7.holds Tryz.pinned (.plain (OpenSpec.ofChange topElseSpec)) topElseCard

/-- THE TIED CARD OF 'intarsialaw16.ShowPrints'. -/
def showPrintsCard : Claim7 := { stood := { row := showPrintsRow, standIns := [], harness := (true, "dc170db9ef0c1fe77def1e8c0e3fad065538081253e6cf70e4f8088c48325326"), looks := true }, kinds := [], alts := [], laidByText := true, laidKinds := [.data, .pinned], laidTests := true, laidLooks := .later }
def ShowPrintsCardSaid : Prop := Claim7.holds Tryz.pinned (.plain (OpenSpec.ofChange showPrintsSpec)) showPrintsCard

/-- THE TIED CARD OF 'intarsiatop.TopMany'. -/
def topManyCard : Claim7 := { stood := { row := topManyRow, standIns := [], harness := (true, "dc170db9ef0c1fe77def1e8c0e3fad065538081253e6cf70e4f8088c48325326"), looks := true }, kinds := [], alts := [], laidByText := true, laidKinds := [.data, .data, .data, .data, .pinned], laidTests := true, laidLooks := .later }
def TopManyCardSaid : Prop := Claim7.holds Tryz.pinned (.plain (OpenSpec.ofChange topManySpec)) topManyCard

/-- THE SECOND FORM's CARD OF 'intarsiatop.TopJoins'. -/
def topJoinsUptoCard : Claim7 := { stood := { row := topJoinsUptoRow, standIns := [], harness := (true, "dc170db9ef0c1fe77def1e8c0e3fad065538081253e6cf70e4f8088c48325326"), looks := true }, kinds := [], alts := [], laidByText := true, laidKinds := [.data, .data, .data, .data, .pinned], laidTests := true, laidLooks := .later }
def TopJoinsUptoCardSaid : Prop := Claim7.holds Tryz.pinned (.plain (OpenSpec.upto topJoinsSpec)) topJoinsUptoCard

/-- THE SECOND FORM's CARD OF 'intarsiatop.TopPieces'. -/
def topPiecesUptoCard : Claim7 := { stood := { row := topPiecesUptoRow, standIns := [], harness := (true, "dc170db9ef0c1fe77def1e8c0e3fad065538081253e6cf70e4f8088c48325326"), looks := true }, kinds := [], alts := [], laidByText := true, laidKinds := [.data, .data, .data, .data, .pinned], laidTests := true, laidLooks := .later }
def TopPiecesUptoCardSaid : Prop := Claim7.holds Tryz.pinned (.plain (OpenSpec.upto topPiecesSpec)) topPiecesUptoCard

/-- THE SECOND FORM's CARD OF 'intarsiatop.TopElse'. -/
def topElseUptoCard : Claim7 := { stood := { row := topElseUptoRow, standIns := [], harness := (true, "dc170db9ef0c1fe77def1e8c0e3fad065538081253e6cf70e4f8088c48325326"), looks := true }, kinds := [], alts := [], laidByText := true, laidKinds := [.data, .data, .data, .data, .pinned], laidTests := true, laidLooks := .later }
def TopElseUptoCardSaid : Prop := Claim7.holds Tryz.pinned (.plain (OpenSpec.upto topElseSpec)) topElseUptoCard

/-- THE SECOND FORM's CARD OF 'intarsialaw16.ShowPrints'. -/
def showPrintsUptoCard : Claim7 := { stood := { row := showPrintsUptoRow, standIns := [], harness := (true, "dc170db9ef0c1fe77def1e8c0e3fad065538081253e6cf70e4f8088c48325326"), looks := true }, kinds := [], alts := [], laidByText := true, laidKinds := [.data, .pinned], laidTests := true, laidLooks := .later }
def ShowPrintsUptoCardSaid : Prop := Claim7.holds Tryz.pinned (.plain (OpenSpec.upto showPrintsSpec)) showPrintsUptoCard

/-- THE SECOND FORM's CARD OF 'intarsiatop.TopMany'. -/
def topManyUptoCard : Claim7 := { stood := { row := topManyUptoRow, standIns := [], harness := (true, "dc170db9ef0c1fe77def1e8c0e3fad065538081253e6cf70e4f8088c48325326"), looks := true }, kinds := [], alts := [], laidByText := true, laidKinds := [.data, .data, .data, .data, .pinned], laidTests := true, laidLooks := .later }
def TopManyUptoCardSaid : Prop := Claim7.holds Tryz.pinned (.plain (OpenSpec.upto topManySpec)) topManyUptoCard
end Rows
end Go.Proofs.YtijpfcjlochahaaGreatDoor
