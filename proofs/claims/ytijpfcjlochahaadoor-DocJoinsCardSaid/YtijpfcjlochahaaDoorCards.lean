/-
  DERIVED. GIVEN WITH THE SEED: THE CARDS: each row of YtijpfcjlochahaaDoorRows.lean that lists a variable, with what it lists TIED to the program's text (the seventh form; the later family's looks); each row that meets fmt, with fmt's text TOLD by the authors' own Lean function (tested against real Go, not proved from fmt's source: count such statements apart). THE CARD IS WHAT COUNTS. Prove the row's statement (the work); the ties are given (YtijpfcjlochahaaDoorTie.lean); close each card by the builder's one call (the guide's Derived/Test/ToyasCard.lean, 'card_holds'). Laid BY PROGRAM, IN A SANDBOX (cutbox-door.mjs). By AI agents, Wed Nov 11 2026. No macro, syntax, notation, axiom, sorry.
-/
import Derived.Test.YtijpfcjlochahaaDoorRows
import GoSem.ClaimSeven
namespace Go.Proofs.YtijpfcjlochahaaDoor
namespace Rows

/-- THE TIED CARD OF 'intarsialaw14.LexPlain'. -/
def lexPlainCard : Claim7 := { stood := { row := lexPlainRow, standIns := [], harness := (true, "f8f9528eb708c619c2a6b1160eb67402aa6fde6f37bdca9a3e231d0c6d8d27b6"), looks := true }, kinds := [], alts := [], laidByText := true, laidKinds := [.data, .pinned], laidTests := true, laidLooks := .later }
def LexPlainCardSaid : Prop := Claim7.holds Tryd.pinned (.plain (OpenSpec.ofChange lexPlainSpec)) lexPlainCard

/-- THE TIED CARD OF 'intarsialaw14.LexRemarks'. -/
def lexRemarksCard : Claim7 := { stood := { row := lexRemarksRow, standIns := [], harness := (true, "f8f9528eb708c619c2a6b1160eb67402aa6fde6f37bdca9a3e231d0c6d8d27b6"), looks := true }, kinds := [], alts := [], laidByText := true, laidKinds := [.data, .pinned], laidTests := true, laidLooks := .later }
def LexRemarksCardSaid : Prop := Claim7.holds Tryd.pinned (.plain (OpenSpec.ofChange lexRemarksSpec)) lexRemarksCard

/-- THE TIED CARD OF 'intarsialaw15.DocNests'. -/
def docNestsCard : Claim7 := { stood := { row := docNestsRow, standIns := [], harness := (true, "f8f9528eb708c619c2a6b1160eb67402aa6fde6f37bdca9a3e231d0c6d8d27b6"), looks := true }, kinds := [], alts := [], laidByText := true, laidKinds := [.data, .pinned], laidTests := true, laidLooks := .later }
def DocNestsCardSaid : Prop := Claim7.holds Tryd.pinned (.plain (OpenSpec.ofChange docNestsSpec)) docNestsCard

/-- THE TIED CARD OF 'intarsialaw15.DocWraps'. -/
def docWrapsCard : Claim7 := { stood := { row := docWrapsRow, standIns := [], harness := (true, "f8f9528eb708c619c2a6b1160eb67402aa6fde6f37bdca9a3e231d0c6d8d27b6"), looks := true }, kinds := [], alts := [], laidByText := true, laidKinds := [.data, .pinned], laidTests := true, laidLooks := .later }
def DocWrapsCardSaid : Prop := Claim7.holds Tryd.pinned (.plain (OpenSpec.ofChange docWrapsSpec)) docWrapsCard

/-- THE TIED CARD OF 'intarsialaw15.DocJoins'. -/
def docJoinsCard : Claim7 := { stood := { row := docJoinsRow, standIns := [], harness := (true, "f8f9528eb708c619c2a6b1160eb67402aa6fde6f37bdca9a3e231d0c6d8d27b6"), looks := true }, kinds := [], alts := [], laidByText := true, laidKinds := [.data, .pinned], laidTests := true, laidLooks := .later }
def DocJoinsCardSaid : Prop := Claim7.holds Tryd.pinned (.plain (OpenSpec.ofChange docJoinsSpec)) docJoinsCard

/-- THE TIED CARD OF 'intarsialaw15.DocLinks'. -/
def docLinksCard : Claim7 := { stood := { row := docLinksRow, standIns := [], harness := (true, "f8f9528eb708c619c2a6b1160eb67402aa6fde6f37bdca9a3e231d0c6d8d27b6"), looks := true }, kinds := [], alts := [], laidByText := true, laidKinds := [.data, .pinned], laidTests := true, laidLooks := .later }
def DocLinksCardSaid : Prop := Claim7.holds Tryd.pinned (.plain (OpenSpec.ofChange docLinksSpec)) docLinksCard

/-- THE TIED CARD OF 'intarsialaw16.ShowParts'. -/
def showPartsCard : Claim7 := { stood := { row := showPartsRow, standIns := [], harness := (true, "f8f9528eb708c619c2a6b1160eb67402aa6fde6f37bdca9a3e231d0c6d8d27b6"), looks := true }, kinds := [], alts := [], laidByText := true, laidKinds := [.data, .pinned], laidTests := true, laidLooks := .later }
def ShowPartsCardSaid : Prop := Claim7.holds Tryd.pinned (.plain (OpenSpec.ofChange showPartsSpec)) showPartsCard

/-- THE TIED CARD OF 'intarsialaw16.ShowBack'. -/
def showBackCard : Claim7 := { stood := { row := showBackRow, standIns := [], harness := (true, "f8f9528eb708c619c2a6b1160eb67402aa6fde6f37bdca9a3e231d0c6d8d27b6"), looks := true }, kinds := [], alts := [], laidByText := true, laidKinds := [.data, .pinned], laidTests := true, laidLooks := .later }
def ShowBackCardSaid : Prop := Claim7.holds Tryd.pinned (.plain (OpenSpec.ofChange showBackSpec)) showBackCard

/-- THE TIED CARD OF 'intarsialaw16.ShowLinks'. -/
def showLinksCard : Claim7 := { stood := { row := showLinksRow, standIns := [], harness := (true, "f8f9528eb708c619c2a6b1160eb67402aa6fde6f37bdca9a3e231d0c6d8d27b6"), looks := true }, kinds := [], alts := [], laidByText := true, laidKinds := [.data, .pinned], laidTests := true, laidLooks := .later }
def ShowLinksCardSaid : Prop := Claim7.holds Tryd.pinned (.plain (OpenSpec.ofChange showLinksSpec)) showLinksCard

/-- THE SECOND FORM's CARD OF 'intarsialaw14.LexPlain'. -/
def lexPlainUptoCard : Claim7 := { stood := { row := lexPlainUptoRow, standIns := [], harness := (true, "f8f9528eb708c619c2a6b1160eb67402aa6fde6f37bdca9a3e231d0c6d8d27b6"), looks := true }, kinds := [], alts := [], laidByText := true, laidKinds := [.data, .pinned], laidTests := true, laidLooks := .later }
def LexPlainUptoCardSaid : Prop := Claim7.holds Tryd.pinned (.plain (OpenSpec.upto lexPlainSpec)) lexPlainUptoCard

/-- THE SECOND FORM's CARD OF 'intarsialaw14.LexRemarks'. -/
def lexRemarksUptoCard : Claim7 := { stood := { row := lexRemarksUptoRow, standIns := [], harness := (true, "f8f9528eb708c619c2a6b1160eb67402aa6fde6f37bdca9a3e231d0c6d8d27b6"), looks := true }, kinds := [], alts := [], laidByText := true, laidKinds := [.data, .pinned], laidTests := true, laidLooks := .later }
def LexRemarksUptoCardSaid : Prop := Claim7.holds Tryd.pinned (.plain (OpenSpec.upto lexRemarksSpec)) lexRemarksUptoCard

/-- THE SECOND FORM's CARD OF 'intarsialaw15.DocNests'. -/
def docNestsUptoCard : Claim7 := { stood := { row := docNestsUptoRow, standIns := [], harness := (true, "f8f9528eb708c619c2a6b1160eb67402aa6fde6f37bdca9a3e231d0c6d8d27b6"), looks := true }, kinds := [], alts := [], laidByText := true, laidKinds := [.data, .pinned], laidTests := true, laidLooks := .later }
def DocNestsUptoCardSaid : Prop := Claim7.holds Tryd.pinned (.plain (OpenSpec.upto docNestsSpec)) docNestsUptoCard

/-- THE SECOND FORM's CARD OF 'intarsialaw15.DocWraps'. -/
def docWrapsUptoCard : Claim7 := { stood := { row := docWrapsUptoRow, standIns := [], harness := (true, "f8f9528eb708c619c2a6b1160eb67402aa6fde6f37bdca9a3e231d0c6d8d27b6"), looks := true }, kinds := [], alts := [], laidByText := true, laidKinds := [.data, .pinned], laidTests := true, laidLooks := .later }
def DocWrapsUptoCardSaid : Prop := Claim7.holds Tryd.pinned (.plain (OpenSpec.upto docWrapsSpec)) docWrapsUptoCard

/-- THE SECOND FORM's CARD OF 'intarsialaw15.DocJoins'. -/
def docJoinsUptoCard : Claim7 := { stood := { row := docJoinsUptoRow, standIns := [], harness := (true, "f8f9528eb708c619c2a6b1160eb67402aa6fde6f37bdca9a3e231d0c6d8d27b6"), looks := true }, kinds := [], alts := [], laidByText := true, laidKinds := [.data, .pinned], laidTests := true, laidLooks := .later }
def DocJoinsUptoCardSaid : Prop := Claim7.holds Tryd.pinned (.plain (OpenSpec.upto docJoinsSpec)) docJoinsUptoCard

/-- THE SECOND FORM's CARD OF 'intarsialaw15.DocLinks'. -/
def docLinksUptoCard : Claim7 := { stood := { row := docLinksUptoRow, standIns := [], harness := (true, "f8f9528eb708c619c2a6b1160eb67402aa6fde6f37bdca9a3e231d0c6d8d27b6"), looks := true }, kinds := [], alts := [], laidByText := true, laidKinds := [.data, .pinned], laidTests := true, laidLooks := .later }
def DocLinksUptoCardSaid : Prop := Claim7.holds Tryd.pinned (.plain (OpenSpec.upto docLinksSpec)) docLinksUptoCard

/-- THE SECOND FORM's CARD OF 'intarsialaw16.ShowParts'. -/
def showPartsUptoCard : Claim7 := { stood := { row := showPartsUptoRow, standIns := [], harness := (true, "f8f9528eb708c619c2a6b1160eb67402aa6fde6f37bdca9a3e231d0c6d8d27b6"), looks := true }, kinds := [], alts := [], laidByText := true, laidKinds := [.data, .pinned], laidTests := true, laidLooks := .later }
def ShowPartsUptoCardSaid : Prop := Claim7.holds Tryd.pinned (.plain (OpenSpec.upto showPartsSpec)) showPartsUptoCard

/-- THE SECOND FORM's CARD OF 'intarsialaw16.ShowBack'. -/
def showBackUptoCard : Claim7 := { stood := { row := showBackUptoRow, standIns := [], harness := (true, "f8f9528eb708c619c2a6b1160eb67402aa6fde6f37bdca9a3e231d0c6d8d27b6"), looks := true }, kinds := [], alts := [], laidByText := true, laidKinds := [.data, .pinned], laidTests := true, laidLooks := .later }
def ShowBackUptoCardSaid : Prop := Claim7.holds Tryd.pinned (.plain (OpenSpec.upto showBackSpec)) showBackUptoCard

/-- THE SECOND FORM's CARD OF 'intarsialaw16.ShowLinks'. -/
def showLinksUptoCard : Claim7 := { stood := { row := showLinksUptoRow, standIns := [], harness := (true, "f8f9528eb708c619c2a6b1160eb67402aa6fde6f37bdca9a3e231d0c6d8d27b6"), looks := true }, kinds := [], alts := [], laidByText := true, laidKinds := [.data, .pinned], laidTests := true, laidLooks := .later }
def ShowLinksUptoCardSaid : Prop := Claim7.holds Tryd.pinned (.plain (OpenSpec.upto showLinksSpec)) showLinksUptoCard
end Rows
end Go.Proofs.YtijpfcjlochahaaDoor
