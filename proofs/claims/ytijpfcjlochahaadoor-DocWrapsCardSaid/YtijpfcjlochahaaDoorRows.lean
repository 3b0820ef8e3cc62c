/-
  NARROWER THAN 'FOR EVERY INPUT', by the rows' own cells (each row's printed sentence says how): LexPlain: laid · LexRemarks: laid · DocNests: laid · DocWraps: laid · DocJoins: laid · DocLinks: loops, laid · ShowParts: loops, laid · ShowBack: loops, laid · ShowLinks: loops, laid.
  DERIVED. THE GIVEN ROWS OF THIS SEAT. 9 by the template 'for every input the law returns true; each argument reads behind the call as it read before'; 0 by the template 'total and deterministic' (their statements: YtijpfcjlochahaaDoorTotals.lean).
  GIVEN WITH THE SEED: the statements are not yours to turn. If you find one false, say at which input.
  Laid BY PROGRAM, IN A SANDBOX (cutbox-rows.mjs): the forced cells as the released guide's own fill.sh prints them over the translation 58f932b1f207a218… (all of the seat's roots in one cut). By AI agents, Wed Nov 11 2026. No macro, syntax, notation, axiom, sorry.
-/
import Derived.Test.YtijpfcjlochahaaDoorChecked
import GoSem.PinnedTables
import GoSem.Claim
import GoSem.ClaimJoined
import GoSem.ClaimMapViews
import Derived.JoinedTies
import Derived.KernelRfl
namespace Go.Proofs.YtijpfcjlochahaaDoor
/- THE CELL 'sum', in the pinned program and in every row, IS THE sha256 OF THE DUMP (.gsa) THAT YtijpfcjlochahaaDoorProg.lean LOADS. Nothing in Lean hashes anything: it is a label: what it is worth is what the hold of that sum in a sandbox is worth. -/
noncomputable def Tryd.pinned : Pinned := { name := "ytijpfcjlochahaadoor", sum := "58f932b1f207a21873f229037f8d165c0a2156795610d51b631212778828c55a", checked := Tryd.checked }
namespace Rows
def none {H : Type} : Left H := { results := [], args := [] }

/- WHAT THE LISTED PACKAGE-LEVEL VARIABLES READ AS WHEN THE CALL BEGINS. Each datum BY PROGRAM (the guide's laid-datum.mjs) off the statement by which the dump's own 'gosem.cut.vars' lays the variable. In a bare row this is a premise. The card (YtijpfcjlochahaaDoorCards.lean) ties it to the program's text. -/
def laid_unicode_utf8_acceptRanges {H : Type} : DataW H := .agg [.agg [.lit (.int .u8 128), .lit (.int .u8 191)], .agg [.lit (.int .u8 160), .lit (.int .u8 191)], .agg [.lit (.int .u8 128), .lit (.int .u8 159)], .agg [.lit (.int .u8 144), .lit (.int .u8 191)], .agg [.lit (.int .u8 128), .lit (.int .u8 143)], .agg [.lit (.int .u8 0), .lit (.int .u8 0)], .agg [.lit (.int .u8 0), .lit (.int .u8 0)], .agg [.lit (.int .u8 0), .lit (.int .u8 0)], .agg [.lit (.int .u8 0), .lit (.int .u8 0)], .agg [.lit (.int .u8 0), .lit (.int .u8 0)], .agg [.lit (.int .u8 0), .lit (.int .u8 0)], .agg [.lit (.int .u8 0), .lit (.int .u8 0)], .agg [.lit (.int .u8 0), .lit (.int .u8 0)], .agg [.lit (.int .u8 0), .lit (.int .u8 0)], .agg [.lit (.int .u8 0), .lit (.int .u8 0)], .agg [.lit (.int .u8 0), .lit (.int .u8 0)]]
/-- One of Go's own tables, pinned by name: the form's constant. -/
def laid_unicode_utf8_first : DataW Unit := Go.Pinned.utf8First

/-- 'intarsialaw14.LexPlain': WHATEVER THE INPUT: true; the input reads as it did. -/
def lexPlainSpec : ChangeSpec := { name := "lexPlain", fn := fun _ => fun
  | [d] => { results := [.lit (.bool true)], args := [d] }
  | _ => none }
def lexPlainRow : OpenClaim := { program := "ytijpfcjlochahaadoor", sum := "58f932b1f207a21873f229037f8d165c0a2156795610d51b631212778828c55a", func := "intarsia/intarsialaw14.LexPlain", spec := "lexPlain", inPlace := ["internal/bytealg.CountString", "internal/bytealg.IndexByteString", "internal/bytealg.IndexString", "internal/abi.NoEscape", "internal/bytealg.MakeNoZero"], unfollowed := true, recurses := true, named := ["internal/bytealg.MaxLen", "unicode/utf8.first", "unicode/utf8.acceptRanges"], apart := false, laid := [("unicode/utf8.acceptRanges", laid_unicode_utf8_acceptRanges), ("unicode/utf8.first", laid_unicode_utf8_first)] }
def LexPlainSaid : Prop := lexPlainRow.holds Tryd.pinned (OpenSpec.ofChange lexPlainSpec)

/-- ITS FALSE NEIGHBOUR: 'it returns false'. Refute it at one input. -/
def lexPlainWrong : ChangeSpec := { name := "lexPlain", fn := fun _ => fun
  | [d] => { results := [.lit (.bool false)], args := [d] }
  | _ => none }
def LexPlainWrongFalsely : Prop := lexPlainRow.holds Tryd.pinned (OpenSpec.ofChange lexPlainWrong)

/-- 'intarsialaw14.LexRemarks': WHATEVER THE INPUT: true; the input reads as it did. -/
def lexRemarksSpec : ChangeSpec := { name := "lexRemarks", fn := fun _ => fun
  | [d] => { results := [.lit (.bool true)], args := [d] }
  | _ => none }
def lexRemarksRow : OpenClaim := { program := "ytijpfcjlochahaadoor", sum := "58f932b1f207a21873f229037f8d165c0a2156795610d51b631212778828c55a", func := "intarsia/intarsialaw14.LexRemarks", spec := "lexRemarks", inPlace := ["internal/bytealg.IndexByteString", "internal/bytealg.IndexString", "internal/bytealg.CountString", "internal/abi.NoEscape", "internal/bytealg.MakeNoZero"], unfollowed := true, recurses := true, named := ["internal/bytealg.MaxLen", "unicode/utf8.first", "unicode/utf8.acceptRanges"], apart := false, laid := [("unicode/utf8.acceptRanges", laid_unicode_utf8_acceptRanges), ("unicode/utf8.first", laid_unicode_utf8_first)] }
def LexRemarksSaid : Prop := lexRemarksRow.holds Tryd.pinned (OpenSpec.ofChange lexRemarksSpec)

/-- ITS FALSE NEIGHBOUR: 'it returns false'. Refute it at one input. -/
def lexRemarksWrong : ChangeSpec := { name := "lexRemarks", fn := fun _ => fun
  | [d] => { results := [.lit (.bool false)], args := [d] }
  | _ => none }
def LexRemarksWrongFalsely : Prop := lexRemarksRow.holds Tryd.pinned (OpenSpec.ofChange lexRemarksWrong)

/-- 'intarsialaw15.DocNests': WHATEVER THE INPUT: true; the input reads as it did. -/
def docNestsSpec : ChangeSpec := { name := "docNests", fn := fun _ => fun
  | [d1, d2] => { results := [.lit (.bool true)], args := [d1, d2] }
  | _ => none }
def docNestsRow : OpenClaim := { program := "ytijpfcjlochahaadoor", sum := "58f932b1f207a21873f229037f8d165c0a2156795610d51b631212778828c55a", func := "intarsia/intarsialaw15.DocNests", spec := "docNests", inPlace := ["internal/bytealg.IndexByteString", "internal/bytealg.IndexString"], unfollowed := true, recurses := true, named := ["unicode/utf8.first", "unicode/utf8.acceptRanges", "internal/bytealg.MaxLen"], apart := false, laid := [("unicode/utf8.acceptRanges", laid_unicode_utf8_acceptRanges), ("unicode/utf8.first", laid_unicode_utf8_first)] }
def DocNestsSaid : Prop := docNestsRow.holds Tryd.pinned (OpenSpec.ofChange docNestsSpec)

/-- ITS FALSE NEIGHBOUR: 'it returns false'. Refute it at one input. -/
def docNestsWrong : ChangeSpec := { name := "docNests", fn := fun _ => fun
  | [d1, d2] => { results := [.lit (.bool false)], args := [d1, d2] }
  | _ => none }
def DocNestsWrongFalsely : Prop := docNestsRow.holds Tryd.pinned (OpenSpec.ofChange docNestsWrong)

/-- 'intarsialaw15.DocWraps': WHATEVER THE INPUT: true; the input reads as it did. -/
def docWrapsSpec : ChangeSpec := { name := "docWraps", fn := fun _ => fun
  | [d] => { results := [.lit (.bool true)], args := [d] }
  | _ => none }
def docWrapsRow : OpenClaim := { program := "ytijpfcjlochahaadoor", sum := "58f932b1f207a21873f229037f8d165c0a2156795610d51b631212778828c55a", func := "intarsia/intarsialaw15.DocWraps", spec := "docWraps", inPlace := ["internal/bytealg.IndexByteString", "internal/bytealg.IndexString"], unfollowed := true, recurses := true, named := ["unicode/utf8.first", "unicode/utf8.acceptRanges", "internal/bytealg.MaxLen"], apart := false, laid := [("unicode/utf8.acceptRanges", laid_unicode_utf8_acceptRanges), ("unicode/utf8.first", laid_unicode_utf8_first)] }
def DocWrapsSaid : Prop := docWrapsRow.holds Tryd.pinned (OpenSpec.ofChange docWrapsSpec)

/-- ITS FALSE NEIGHBOUR: 'it returns false'. Refute it at one input. -/
def docWrapsWrong : ChangeSpec := { name := "docWraps", fn := fun _ => fun
  | [d] => { results := [.lit (.bool false)], args := [d] }
  | _ => none }
def DocWrapsWrongFalsely : Prop := docWrapsRow.holds Tryd.pinned (OpenSpec.ofChange docWrapsWrong)

/-- 'intarsialaw15.DocJoins': WHATEVER THE INPUT: true; the input reads as it did. -/
def docJoinsSpec : ChangeSpec := { name := "docJoins", fn := fun _ => fun
  | [d1, d2] => { results := [.lit (.bool true)], args := [d1, d2] }
  | _ => none }
def docJoinsRow : OpenClaim := { program := "ytijpfcjlochahaadoor", sum := "58f932b1f207a21873f229037f8d165c0a2156795610d51b631212778828c55a", func := "intarsia/intarsialaw15.DocJoins", spec := "docJoins", inPlace := ["internal/bytealg.IndexByteString", "internal/bytealg.IndexString"], unfollowed := true, recurses := true, named := ["unicode/utf8.first", "unicode/utf8.acceptRanges", "internal/bytealg.MaxLen"], apart := false, laid := [("unicode/utf8.acceptRanges", laid_unicode_utf8_acceptRanges), ("unicode/utf8.first", laid_unicode_utf8_first)] }
def DocJoinsSaid : Prop := docJoinsRow.holds Tryd.pinned (OpenSpec.ofChange docJoinsSpec)

/-- ITS FALSE NEIGHBOUR: 'it returns false'. Refute it at one input. -/
def docJoinsWrong : ChangeSpec := { name := "docJoins", fn := fun _ => fun
  | [d1, d2] => { results := [.lit (.bool false)], args := [d1, d2] }
  | _ => none }
def DocJoinsWrongFalsely : Prop := docJoinsRow.holds Tryd.pinned (OpenSpec.ofChange docJoinsWrong)

/-- 'intarsialaw15.DocLinks': WHATEVER THE INPUT: true; the input reads as it did. -/
def docLinksSpec : ChangeSpec := { name := "docLinks", fn := fun _ => fun
  | [d] => { results := [.lit (.bool true)], args := [d] }
  | _ => none }
def docLinksRow : OpenClaim := { program := "ytijpfcjlochahaadoor", sum := "58f932b1f207a21873f229037f8d165c0a2156795610d51b631212778828c55a", func := "intarsia/intarsialaw15.DocLinks", spec := "docLinks", inPlace := ["internal/bytealg.IndexByteString", "internal/bytealg.IndexString"], unfollowed := true, recurses := true, named := ["unicode/utf8.first", "unicode/utf8.acceptRanges", "internal/bytealg.MaxLen"], loops := true, apart := false, laid := [("unicode/utf8.acceptRanges", laid_unicode_utf8_acceptRanges), ("unicode/utf8.first", laid_unicode_utf8_first)] }
def DocLinksSaid : Prop := docLinksRow.holds Tryd.pinned (OpenSpec.ofChange docLinksSpec)

/-- ITS FALSE NEIGHBOUR: 'it returns false'. Refute it at one input. -/
def docLinksWrong : ChangeSpec := { name := "docLinks", fn := fun _ => fun
  | [d] => { results := [.lit (.bool false)], args := [d] }
  | _ => none }
def DocLinksWrongFalsely : Prop := docLinksRow.holds Tryd.pinned (OpenSpec.ofChange docLinksWrong)

/-- 'intarsialaw16.ShowParts': WHATEVER THE INPUT: true; the input reads as it did. -/
def showPartsSpec : ChangeSpec := { name := "showParts", fn := fun _ => fun
  | [d1, d2] => { results := [.lit (.bool true)], args := [d1, d2] }
  | _ => none }
def showPartsRow : OpenClaim := { program := "ytijpfcjlochahaadoor", sum := "58f932b1f207a21873f229037f8d165c0a2156795610d51b631212778828c55a", func := "intarsia/intarsialaw16.ShowParts", spec := "showParts", inPlace := ["internal/abi.NoEscape", "internal/bytealg.IndexByteString", "internal/bytealg.IndexString"], unfollowed := true, recurses := true, named := ["unicode/utf8.first", "unicode/utf8.acceptRanges", "internal/bytealg.MaxLen"], loops := true, apart := false, laid := [("unicode/utf8.acceptRanges", laid_unicode_utf8_acceptRanges), ("unicode/utf8.first", laid_unicode_utf8_first)] }
def ShowPartsSaid : Prop := showPartsRow.holds Tryd.pinned (OpenSpec.ofChange showPartsSpec)

/-- ITS FALSE NEIGHBOUR: 'it returns false'. Refute it at one input. -/
def showPartsWrong : ChangeSpec := { name := "showParts", fn := fun _ => fun
  | [d1, d2] => { results := [.lit (.bool false)], args := [d1, d2] }
  | _ => none }
def ShowPartsWrongFalsely : Prop := showPartsRow.holds Tryd.pinned (OpenSpec.ofChange showPartsWrong)

/-- 'intarsialaw16.ShowBack': WHATEVER THE INPUT: true; the input reads as it did. -/
def showBackSpec : ChangeSpec := { name := "showBack", fn := fun _ => fun
  | [d1, d2] => { results := [.lit (.bool true)], args := [d1, d2] }
  | _ => none }
def showBackRow : OpenClaim := { program := "ytijpfcjlochahaadoor", sum := "58f932b1f207a21873f229037f8d165c0a2156795610d51b631212778828c55a", func := "intarsia/intarsialaw16.ShowBack", spec := "showBack", inPlace := ["internal/abi.NoEscape", "internal/bytealg.IndexByteString", "internal/bytealg.IndexString"], unfollowed := true, recurses := true, named := ["unicode/utf8.first", "unicode/utf8.acceptRanges", "internal/bytealg.MaxLen"], loops := true, apart := false, laid := [("unicode/utf8.acceptRanges", laid_unicode_utf8_acceptRanges), ("unicode/utf8.first", laid_unicode_utf8_first)] }
def ShowBackSaid : Prop := showBackRow.holds Tryd.pinned (OpenSpec.ofChange showBackSpec)

/-- ITS FALSE NEIGHBOUR: 'it returns false'. Refute it at one input. -/
def showBackWrong : ChangeSpec := { name := "showBack", fn := fun _ => fun
  | [d1, d2] => { results := [.lit (.bool false)], args := [d1, d2] }
  | _ => none }
def ShowBackWrongFalsely : Prop := showBackRow.holds Tryd.pinned (OpenSpec.ofChange showBackWrong)

/-- 'intarsialaw16.ShowLinks': WHATEVER THE INPUT: true; the input reads as it did. -/
def showLinksSpec : ChangeSpec := { name := "showLinks", fn := fun _ => fun
  | [d] => { results := [.lit (.bool true)], args := [d] }
  | _ => none }
def showLinksRow : OpenClaim := { program := "ytijpfcjlochahaadoor", sum := "58f932b1f207a21873f229037f8d165c0a2156795610d51b631212778828c55a", func := "intarsia/intarsialaw16.ShowLinks", spec := "showLinks", inPlace := ["internal/abi.NoEscape", "internal/bytealg.IndexByteString", "internal/bytealg.IndexString"], unfollowed := true, recurses := true, named := ["unicode/utf8.first", "unicode/utf8.acceptRanges", "internal/bytealg.MaxLen"], loops := true, apart := false, laid := [("unicode/utf8.acceptRanges", laid_unicode_utf8_acceptRanges), ("unicode/utf8.first", laid_unicode_utf8_first)] }
def ShowLinksSaid : Prop := showLinksRow.holds Tryd.pinned (OpenSpec.ofChange showLinksSpec)

/-- ITS FALSE NEIGHBOUR: 'it returns false'. Refute it at one input. -/
def showLinksWrong : ChangeSpec := { name := "showLinks", fn := fun _ => fun
  | [d] => { results := [.lit (.bool false)], args := [d] }
  | _ => none }
def ShowLinksWrongFalsely : Prop := showLinksRow.holds Tryd.pinned (OpenSpec.ofChange showLinksWrong)

/- THE SECOND FORM. 'bulk': how many values and letters a reading holds, each counted each time it is reached (what is shared counts as often as it is met; a slice's spare places count too). A statement '..UptoSaid' is the law's where the arguments, and the package variables that the reading takes, are together of bulk at most 1048576: NARROWER than '..Said'. Prove '..Said' where nothing that the law and all that it calls make is longer than what came in: it says more and counts as full. Else prove '..UptoSaid'. A law counts once. -/
mutual
def uptoBulk {H : Type} : DataW H → Nat
  | .lit (.string bytes) => bytes.length + 1
  | .lit _ => 1
  | .nil => 1
  | .ptr d => uptoBulk d + 1
  | .slice elems spare => uptoBulkAll elems + uptoBulkAll spare + 1
  | .agg parts => uptoBulkAll parts + 1
  | .iface _ d => uptoBulk d + 1
  | .map entries => uptoBulkEntries entries + 1
  | .held _ => 1
def uptoBulkAll {H : Type} : List (DataW H) → Nat
  | [] => 0
  | d :: r => uptoBulk d + uptoBulkAll r
def uptoBulkEntries {H : Type} : List (Lit × DataW H) → Nat
  | [] => 0
  | x :: r => uptoBulkEntry x + uptoBulkEntries r
def uptoBulkEntry {H : Type} : Lit × DataW H → Nat
  | (.string bytes, d) => bytes.length + uptoBulk d + 1
  | (_, d) => uptoBulk d + 1
 end
def uptoSmall : (H : Type) → List (DataW H) → Bool := fun _ ds => decide (uptoBulkAll ds ≤ 1048576)
def OpenSpec.upto (s : _root_.Go.ChangeSpec) : _root_.Go.OpenSpec := { _root_.Go.OpenSpec.ofChange s with cond := some uptoSmall }

/-- 'intarsialaw14.LexPlain', WHERE WHAT IT READS IS OF BULK AT MOST 1048576: true; the input reads as it did. -/
def lexPlainUptoRow : OpenClaim := { program := "ytijpfcjlochahaadoor", sum := "58f932b1f207a21873f229037f8d165c0a2156795610d51b631212778828c55a", func := "intarsia/intarsialaw14.LexPlain", spec := "lexPlain", inPlace := ["internal/bytealg.CountString", "internal/bytealg.IndexByteString", "internal/bytealg.IndexString", "internal/abi.NoEscape", "internal/bytealg.MakeNoZero"], unfollowed := true, recurses := true, named := ["internal/bytealg.MaxLen", "unicode/utf8.first", "unicode/utf8.acceptRanges"], apart := false, laid := [("unicode/utf8.acceptRanges", laid_unicode_utf8_acceptRanges), ("unicode/utf8.first", laid_unicode_utf8_first)], narrowed := true }
def LexPlainUptoSaid : Prop := lexPlainUptoRow.holds Tryd.pinned (OpenSpec.upto lexPlainSpec)

/-- 'intarsialaw14.LexRemarks', WHERE WHAT IT READS IS OF BULK AT MOST 1048576: true; the input reads as it did. -/
def lexRemarksUptoRow : OpenClaim := { program := "ytijpfcjlochahaadoor", sum := "58f932b1f207a21873f229037f8d165c0a2156795610d51b631212778828c55a", func := "intarsia/intarsialaw14.LexRemarks", spec := "lexRemarks", inPlace := ["internal/bytealg.IndexByteString", "internal/bytealg.IndexString", "internal/bytealg.CountString", "internal/abi.NoEscape", "internal/bytealg.MakeNoZero"], unfollowed := true, recurses := true, named := ["internal/bytealg.MaxLen", "unicode/utf8.first", "unicode/utf8.acceptRanges"], apart := false, laid := [("unicode/utf8.acceptRanges", laid_unicode_utf8_acceptRanges), ("unicode/utf8.first", laid_unicode_utf8_first)], narrowed := true }
def LexRemarksUptoSaid : Prop := lexRemarksUptoRow.holds Tryd.pinned (OpenSpec.upto lexRemarksSpec)

/-- 'intarsialaw15.DocNests', WHERE WHAT IT READS IS OF BULK AT MOST 1048576: true; the input reads as it did. -/
def docNestsUptoRow : OpenClaim := { program := "ytijpfcjlochahaadoor", sum := "58f932b1f207a21873f229037f8d165c0a2156795610d51b631212778828c55a", func := "intarsia/intarsialaw15.DocNests", spec := "docNests", inPlace := ["internal/bytealg.IndexByteString", "internal/bytealg.IndexString"], unfollowed := true, recurses := true, named := ["unicode/utf8.first", "unicode/utf8.acceptRanges", "internal/bytealg.MaxLen"], apart := false, laid := [("unicode/utf8.acceptRanges", laid_unicode_utf8_acceptRanges), ("unicode/utf8.first", laid_unicode_utf8_first)], narrowed := true }
def DocNestsUptoSaid : Prop := docNestsUptoRow.holds Tryd.pinned (OpenSpec.upto docNestsSpec)

/-- 'intarsialaw15.DocWraps', WHERE WHAT IT READS IS OF BULK AT MOST 1048576: true; the input reads as it did. -/
def docWrapsUptoRow : OpenClaim := { program := "ytijpfcjlochahaadoor", sum := "58f932b1f207a21873f229037f8d165c0a2156795610d51b631212778828c55a", func := "intarsia/intarsialaw15.DocWraps", spec := "docWraps", inPlace := ["internal/bytealg.IndexByteString", "internal/bytealg.IndexString"], unfollowed := true, recurses := true, named := ["unicode/utf8.first", "unicode/utf8.acceptRanges", "internal/bytealg.MaxLen"], apart := false, laid := [("unicode/utf8.acceptRanges", laid_unicode_utf8_acceptRanges), ("unicode/utf8.first", laid_unicode_utf8_first)], narrowed := true }
def DocWrapsUptoSaid : Prop := docWrapsUptoRow.holds Tryd.pinned (OpenSpec.upto docWrapsSpec)

/-- 'intarsialaw15.DocJoins', WHERE WHAT IT READS IS OF BULK AT MOST 1048576: true; the input reads as it did. -/
def docJoinsUptoRow : OpenClaim := { program := "ytijpfcjlochahaadoor", sum := "58f932b1f207a21873f229037f8d165c0a2156795610d51b631212778828c55a", func := "intarsia/intarsialaw15.DocJoins", spec := "docJoins", inPlace := ["internal/bytealg.IndexByteString", "internal/bytealg.IndexString"], unfollowed := true, recurses := true, named := ["unicode/utf8.first", "unicode/utf8.acceptRanges", "internal/bytealg.MaxLen"], apart := false, laid := [("unicode/utf8.acceptRanges", laid_unicode_utf8_acceptRanges), ("unicode/utf8.first", laid_unicode_utf8_first)], narrowed := true }
def DocJoinsUptoSaid : Prop := docJoinsUptoRow.holds Tryd.pinned (OpenSpec.upto docJoinsSpec)

/-- 'intarsialaw15.DocLinks', WHERE WHAT IT READS IS OF BULK AT MOST 1048576: true; the input reads as it did. -/
def docLinksUptoRow : OpenClaim := { program := "ytijpfcjlochahaadoor", sum := "58f932b1f207a21873f229037f8d165c0a2156795610d51b631212778828c55a", func := "intarsia/intarsialaw15.DocLinks", spec := "docLinks", inPlace := ["internal/bytealg.IndexByteString", "internal/bytealg.IndexString"], unfollowed := true, recurses := true, named := ["unicode/utf8.first", "unicode/utf8.acceptRanges", "internal/bytealg.MaxLen"], loops := true, apart := false, laid := [("unicode/utf8.acceptRanges", laid_unicode_utf8_acceptRanges), ("unicode/utf8.first", laid_unicode_utf8_first)], narrowed := true }
def DocLinksUptoSaid : Prop := docLinksUptoRow.holds Tryd.pinned (OpenSpec.upto docLinksSpec)

/-- 'intarsialaw16.ShowParts', WHERE WHAT IT READS IS OF BULK AT MOST 1048576: true; the input reads as it did. -/
def showPartsUptoRow : OpenClaim := { program := "ytijpfcjlochahaadoor", sum := "58f932b1f207a21873f229037f8d165c0a2156795610d51b631212778828c55a", func := "intarsia/intarsialaw16.ShowParts", spec := "showParts", inPlace := ["internal/abi.NoEscape", "internal/bytealg.IndexByteString", "internal/bytealg.IndexString"], unfollowed := true, recurses := true, named := ["unicode/utf8.first", "unicode/utf8.acceptRanges", "internal/bytealg.MaxLen"], loops := true, apart := false, laid := [("unicode/utf8.acceptRanges", laid_unicode_utf8_acceptRanges), ("unicode/utf8.first", laid_unicode_utf8_first)], narrowed := true }
def ShowPartsUptoSaid : Prop := showPartsUptoRow.holds Tryd.pinned (OpenSpec.upto showPartsSpec)

/-- 'intarsialaw16.ShowBack', WHERE WHAT IT READS IS OF BULK AT MOST 1048576: true; the input reads as it did. -/
def showBackUptoRow : OpenClaim := { program := "ytijpfcjlochahaadoor", sum := "58f932b1f207a21873f229037f8d165c0a2156795610d51b631212778828c55a", func := "intarsia/intarsialaw16.ShowBack", spec := "showBack", inPlace := ["internal/abi.NoEscape", "internal/bytealg.IndexByteString", "internal/bytealg.IndexString"], unfollowed := true, recurses := true, named := ["unicode/utf8.first", "unicode/utf8.acceptRanges", "internal/bytealg.MaxLen"], loops := true, apart := false, laid := [("unicode/utf8.acceptRanges", laid_unicode_utf8_acceptRanges), ("unicode/utf8.first", laid_unicode_utf8_first)], narrowed := true }
def ShowBackUptoSaid : Prop := showBackUptoRow.holds Tryd.pinned (OpenSpec.upto showBackSpec)

/-- 'intarsialaw16.ShowLinks', WHERE WHAT IT READS IS OF BULK AT MOST 1048576: true; the input reads as it did. -/
def showLinksUptoRow : OpenClaim := { program := "ytijpfcjlochahaadoor", sum := "58f932b1f207a21873f229037f8d165c0a2156795610d51b631212778828c55a", func := "intarsia/intarsialaw16.ShowLinks", spec := "showLinks", inPlace := ["internal/abi.NoEscape", "internal/bytealg.IndexByteString", "internal/bytealg.IndexString"], unfollowed := true, recurses := true, named := ["unicode/utf8.first", "unicode/utf8.acceptRanges", "internal/bytealg.MaxLen"], loops := true, apart := false, laid := [("unicode/utf8.acceptRanges", laid_unicode_utf8_acceptRanges), ("unicode/utf8.first", laid_unicode_utf8_first)], narrowed := true }
def ShowLinksUptoSaid : Prop := showLinksUptoRow.holds Tryd.pinned (OpenSpec.upto showLinksSpec)

end Rows
end Go.Proofs.YtijpfcjlochahaaDoor
