/-
  DERIVED. GIVEN WITH THE SEED: THE CARDS: each row of YtejafaaihodehaaGreatDoorRows.lean that lists a variable, with what it lists TIED to the program's text (the seventh form; the later family's looks); each row that meets fmt, with fmt's text TOLD by the authors' own Lean function (tested against real Go, not proved from fmt's source: count such statements apart). THE CARD IS WHAT COUNTS. Prove the row's statement (the work); the ties are given (YtejafaaihodehaaGreatDoorTie.lean); close each card by the builder's one call (the guide's Derived/Test/ToyasCard.lean, 'card_holds'). Laid BY PROGRAM, IN A SANDBOX (cutbox-door.mjs). By AI agents, Wed Nov 11 2026. No macro, syntax, notation, axiom, sorry.
-/
import Derived.Test.YtejafaaihodehaaGreatDoorRows
import GoSem.ClaimSeven
namespace Go.Proofs.YtejafaaihodehaaGreatDoor
namespace Rows

/-- THE TIED CARD OF 'intarsiatop.TopJoins'. -/
def topJoinsCard : Claim7 := { stood := { row := topJoinsRow, standIns := [], harness := (true, "75834f88790d3d4d2bfa4face9af11ec722cffbdebe4a345b1bb3659553e1450"), looks := true }, kinds := [], alts := [], laidByText := true, laidKinds := [.data, .data, .data, .data, .pinned], laidTests := true, laidLooks := .later }
def TopJoinsCardSaid : Prop := Claim7.holds Tryz.pinned (.plain (OpenSpec.ofChange topJoinsSpec)) topJoinsCard

/-- THE SECOND FORM's CARD OF 'intarsiatop.TopJoins'. -/
def topJoinsUptoCard : Claim7 := { stood := { row := topJoinsUptoRow, standIns := [], harness := (true, "75834f88790d3d4d2bfa4face9af11ec722cffbdebe4a345b1bb3659553e1450"), looks := true }, kinds := [], alts := [], laidByText := true, laidKinds := [.data, .data, .data, .data, .pinned], laidTests := true, laidLooks := .later }
def TopJoinsUptoCardSaid : Prop := Claim7.holds Tryz.pinned (.plain (OpenSpec.upto topJoinsSpec)) topJoinsUptoCard
end Rows
end Go.Proofs.YtejafaaihodehaaGreatDoor
