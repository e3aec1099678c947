/-
  NARROWER THAN 'FOR EVERY INPUT', by the rows' own cells (each row's printed sentence says how): DistPaths: laid · DistMetric: laid · DistLeast: laid · DistBounds: laid · DistOf: laid · ScanTokens: laid · ScanJoins: laid · ScanParts: laid · ScanWords: laid · DistApplies: laid · DistBack: laid · ScanPieces: laid.
  DERIVED. THE GIVEN ROWS OF THIS SEAT. 12 by the template 'for every input the law returns true; each argument reads behind the call as it read before'; 0 by the template 'total and deterministic' (their statements: YtalogampkkjcdaaDoorTotals.lean).
  GIVEN WITH THE SEED: the statements are not yours to turn. If you find one false, say at which input.
  Laid BY PROGRAM, IN A SANDBOX (cutbox-rows.mjs): the forced cells as the released guide's own fill.sh prints them over the translation 21aeba1638633742… (all of the seat's roots in one cut). By AI agents, Wed Nov 11 2026. No macro, syntax, notation, axiom, sorry.
-/
import Derived.Test.YtalogampkkjcdaaDoorChecked
import GoSem.PinnedTables
import GoSem.Claim
import GoSem.ClaimJoined
import GoSem.ClaimMapViews
import Derived.JoinedTies
import Derived.KernelRfl
namespace Go.Proofs.YtalogampkkjcdaaDoor
/- THE CELL 'sum', in the pinned program and in every row, IS THE sha256 OF THE DUMP (.gsa) THAT YtalogampkkjcdaaDoorProg.lean LOADS. Nothing in Lean hashes anything: it is a label: what it is worth is what the hold of that sum in a sandbox is worth. -/
noncomputable def Tryd.pinned : Pinned := { name := "ytalogampkkjcdaadoor", sum := "21aeba16386337425e7d65584269bf34127cc2fc8eb9941f7d9094361ef51fff", checked := Tryd.checked }
namespace Rows
def none {H : Type} : Left H := { results := [], args := [] }

/- WHAT THE LISTED PACKAGE-LEVEL VARIABLES READ AS WHEN THE CALL BEGINS. Each datum BY PROGRAM (the guide's laid-datum.mjs) off the statement by which the dump's own 'gosem.cut.vars' lays the variable. In a bare row this is a premise. The card (YtalogampkkjcdaaDoorCards.lean) ties it to the program's text. -/
def laid_unicode_utf8_acceptRanges {H : Type} : DataW H := .agg [.agg [.lit (.int .u8 128), .lit (.int .u8 191)], .agg [.lit (.int .u8 160), .lit (.int .u8 191)], .agg [.lit (.int .u8 128), .lit (.int .u8 159)], .agg [.lit (.int .u8 144), .lit (.int .u8 191)], .agg [.lit (.int .u8 128), .lit (.int .u8 143)], .agg [.lit (.int .u8 0), .lit (.int .u8 0)], .agg [.lit (.int .u8 0), .lit (.int .u8 0)], .agg [.lit (.int .u8 0), .lit (.int .u8 0)], .agg [.lit (.int .u8 0), .lit (.int .u8 0)], .agg [.lit (.int .u8 0), .lit (.int .u8 0)], .agg [.lit (.int .u8 0), .lit (.int .u8 0)], .agg [.lit (.int .u8 0), .lit (.int .u8 0)], .agg [.lit (.int .u8 0), .lit (.int .u8 0)], .agg [.lit (.int .u8 0), .lit (.int .u8 0)], .agg [.lit (.int .u8 0), .lit (.int .u8 0)], .agg [.lit (.int .u8 0), .lit (.int .u8 0)]]
/-- One of Go's own tables, pinned by name: the form's constant. -/
def laid_unicode_utf8_first : DataW Unit := Go.Pinned.utf8First

/-- 'siglumlaw08.DistPaths': WHATEVER THE INPUT: true; the input reads as it did. -/
def distPathsSpec : ChangeSpec := { name := "distPaths", fn := fun _ => fun
  | [d1, d2] => { results := [.lit (.bool true)], args := [d1, d2] }
  | _ => none }
def distPathsRow : OpenClaim := { program := "ytalogampkkjcdaadoor", sum := "21aeba16386337425e7d65584269bf34127cc2fc8eb9941f7d9094361ef51fff", func := "siglum/siglumlaw08.DistPaths", spec := "distPaths", named := ["unicode/utf8.first", "unicode/utf8.acceptRanges"], apart := false, laid := [("unicode/utf8.acceptRanges", laid_unicode_utf8_acceptRanges), ("unicode/utf8.first", laid_unicode_utf8_first)] }
def DistPathsSaid : Prop := distPathsRow.holds Tryd.pinned (OpenSpec.ofChange distPathsSpec)

/-- ITS FALSE NEIGHBOUR: 'it returns false'. Refute it at one input. -/
def distPathsWrong : ChangeSpec := { name := "distPaths", fn := fun _ => fun
  | [d1, d2] => { results := [.lit (.bool false)], args := [d1, d2] }
  | _ => none }
def DistPathsWrongFalsely : Prop := distPathsRow.holds Tryd.pinned (OpenSpec.ofChange distPathsWrong)

/-- 'siglumlaw08.DistMetric': WHATEVER THE INPUT: true; the input reads as it did. -/
def distMetricSpec : ChangeSpec := { name := "distMetric", fn := fun _ => fun
  | [d1, d2, d3] => { results := [.lit (.bool true)], args := [d1, d2, d3] }
  | _ => none }
def distMetricRow : OpenClaim := { program := "ytalogampkkjcdaadoor", sum := "21aeba16386337425e7d65584269bf34127cc2fc8eb9941f7d9094361ef51fff", func := "siglum/siglumlaw08.DistMetric", spec := "distMetric", named := ["unicode/utf8.first", "unicode/utf8.acceptRanges"], apart := false, laid := [("unicode/utf8.acceptRanges", laid_unicode_utf8_acceptRanges), ("unicode/utf8.first", laid_unicode_utf8_first)] }
def DistMetricSaid : Prop := distMetricRow.holds Tryd.pinned (OpenSpec.ofChange distMetricSpec)

/-- ITS FALSE NEIGHBOUR: 'it returns false'. Refute it at one input. -/
def distMetricWrong : ChangeSpec := { name := "distMetric", fn := fun _ => fun
  | [d1, d2, d3] => { results := [.lit (.bool false)], args := [d1, d2, d3] }
  | _ => none }
def DistMetricWrongFalsely : Prop := distMetricRow.holds Tryd.pinned (OpenSpec.ofChange distMetricWrong)

/-- 'siglumlaw08.DistLeast': WHATEVER THE INPUT: true; the input reads as it did. -/
def distLeastSpec : ChangeSpec := { name := "distLeast", fn := fun _ => fun
  | [d1, d2] => { results := [.lit (.bool true)], args := [d1, d2] }
  | _ => none }
def distLeastRow : OpenClaim := { program := "ytalogampkkjcdaadoor", sum := "21aeba16386337425e7d65584269bf34127cc2fc8eb9941f7d9094361ef51fff", func := "siglum/siglumlaw08.DistLeast", spec := "distLeast", recurses := true, named := ["unicode/utf8.first", "unicode/utf8.acceptRanges"], apart := false, laid := [("unicode/utf8.acceptRanges", laid_unicode_utf8_acceptRanges), ("unicode/utf8.first", laid_unicode_utf8_first)] }
def DistLeastSaid : Prop := distLeastRow.holds Tryd.pinned (OpenSpec.ofChange distLeastSpec)

/-- ITS FALSE NEIGHBOUR: 'it returns false'. Refute it at one input. -/
def distLeastWrong : ChangeSpec := { name := "distLeast", fn := fun _ => fun
  | [d1, d2] => { results := [.lit (.bool false)], args := [d1, d2] }
  | _ => none }
def DistLeastWrongFalsely : Prop := distLeastRow.holds Tryd.pinned (OpenSpec.ofChange distLeastWrong)

/-- 'siglumlaw08.DistBounds': WHATEVER THE INPUT: true; the input reads as it did. -/
def distBoundsSpec : ChangeSpec := { name := "distBounds", fn := fun _ => fun
  | [d1, d2, d3] => { results := [.lit (.bool true)], args := [d1, d2, d3] }
  | _ => none }
def distBoundsRow : OpenClaim := { program := "ytalogampkkjcdaadoor", sum := "21aeba16386337425e7d65584269bf34127cc2fc8eb9941f7d9094361ef51fff", func := "siglum/siglumlaw08.DistBounds", spec := "distBounds", named := ["unicode/utf8.first", "unicode/utf8.acceptRanges"], apart := false, laid := [("unicode/utf8.acceptRanges", laid_unicode_utf8_acceptRanges), ("unicode/utf8.first", laid_unicode_utf8_first)] }
def DistBoundsSaid : Prop := distBoundsRow.holds Tryd.pinned (OpenSpec.ofChange distBoundsSpec)

/-- ITS FALSE NEIGHBOUR: 'it returns false'. Refute it at one input. -/
def distBoundsWrong : ChangeSpec := { name := "distBounds", fn := fun _ => fun
  | [d1, d2, d3] => { results := [.lit (.bool false)], args := [d1, d2, d3] }
  | _ => none }
def DistBoundsWrongFalsely : Prop := distBoundsRow.holds Tryd.pinned (OpenSpec.ofChange distBoundsWrong)

/-- 'siglumlaw08.DistOf': WHATEVER THE INPUT: true; the input reads as it did. -/
def distOfSpec : ChangeSpec := { name := "distOf", fn := fun _ => fun
  | [d1, d2, d3] => { results := [.lit (.bool true)], args := [d1, d2, d3] }
  | _ => none }
def distOfRow : OpenClaim := { program := "ytalogampkkjcdaadoor", sum := "21aeba16386337425e7d65584269bf34127cc2fc8eb9941f7d9094361ef51fff", func := "siglum/siglumlaw08.DistOf", spec := "distOf", named := ["unicode/utf8.first", "unicode/utf8.acceptRanges"], apart := false, laid := [("unicode/utf8.acceptRanges", laid_unicode_utf8_acceptRanges), ("unicode/utf8.first", laid_unicode_utf8_first)] }
def DistOfSaid : Prop := distOfRow.holds Tryd.pinned (OpenSpec.ofChange distOfSpec)

/-- ITS FALSE NEIGHBOUR: 'it returns false'. Refute it at one input. -/
def distOfWrong : ChangeSpec := { name := "distOf", fn := fun _ => fun
  | [d1, d2, d3] => { results := [.lit (.bool false)], args := [d1, d2, d3] }
  | _ => none }
def DistOfWrongFalsely : Prop := distOfRow.holds Tryd.pinned (OpenSpec.ofChange distOfWrong)

/-- 'siglumlaw04.ScanTokens': WHATEVER THE INPUT: true; the input reads as it did. -/
def scanTokensSpec : ChangeSpec := { name := "scanTokens", fn := fun _ => fun
  | [d] => { results := [.lit (.bool true)], args := [d] }
  | _ => none }
def scanTokensRow : OpenClaim := { program := "ytalogampkkjcdaadoor", sum := "21aeba16386337425e7d65584269bf34127cc2fc8eb9941f7d9094361ef51fff", func := "siglum/siglumlaw04.ScanTokens", spec := "scanTokens", named := ["unicode/utf8.first", "unicode/utf8.acceptRanges"], apart := false, laid := [("unicode/utf8.acceptRanges", laid_unicode_utf8_acceptRanges), ("unicode/utf8.first", laid_unicode_utf8_first)] }
def ScanTokensSaid : Prop := scanTokensRow.holds Tryd.pinned (OpenSpec.ofChange scanTokensSpec)

/-- ITS FALSE NEIGHBOUR: 'it returns false'. Refute it at one input. -/
def scanTokensWrong : ChangeSpec := { name := "scanTokens", fn := fun _ => fun
  | [d] => { results := [.lit (.bool false)], args := [d] }
  | _ => none }
def ScanTokensWrongFalsely : Prop := scanTokensRow.holds Tryd.pinned (OpenSpec.ofChange scanTokensWrong)

/-- 'siglumlaw04.ScanJoins': WHATEVER THE INPUT: true; the input reads as it did. -/
def scanJoinsSpec : ChangeSpec := { name := "scanJoins", fn := fun _ => fun
  | [d] => { results := [.lit (.bool true)], args := [d] }
  | _ => none }
def scanJoinsRow : OpenClaim := { program := "ytalogampkkjcdaadoor", sum := "21aeba16386337425e7d65584269bf34127cc2fc8eb9941f7d9094361ef51fff", func := "siglum/siglumlaw04.ScanJoins", spec := "scanJoins", named := ["unicode/utf8.first", "unicode/utf8.acceptRanges"], apart := false, laid := [("unicode/utf8.acceptRanges", laid_unicode_utf8_acceptRanges), ("unicode/utf8.first", laid_unicode_utf8_first)] }
def ScanJoinsSaid : Prop := scanJoinsRow.holds Tryd.pinned (OpenSpec.ofChange scanJoinsSpec)

/-- ITS FALSE NEIGHBOUR: 'it returns false'. Refute it at one input. -/
def scanJoinsWrong : ChangeSpec := { name := "scanJoins", fn := fun _ => fun
  | [d] => { results := [.lit (.bool false)], args := [d] }
  | _ => none }
def ScanJoinsWrongFalsely : Prop := scanJoinsRow.holds Tryd.pinned (OpenSpec.ofChange scanJoinsWrong)

/-- 'siglumlaw04.ScanParts': WHATEVER THE INPUT: true; the input reads as it did. -/
def scanPartsSpec : ChangeSpec := { name := "scanParts", fn := fun _ => fun
  | [d1, d2] => { results := [.lit (.bool true)], args := [d1, d2] }
  | _ => none }
def scanPartsRow : OpenClaim := { program := "ytalogampkkjcdaadoor", sum := "21aeba16386337425e7d65584269bf34127cc2fc8eb9941f7d9094361ef51fff", func := "siglum/siglumlaw04.ScanParts", spec := "scanParts", named := ["unicode/utf8.first", "unicode/utf8.acceptRanges"], apart := false, laid := [("unicode/utf8.acceptRanges", laid_unicode_utf8_acceptRanges), ("unicode/utf8.first", laid_unicode_utf8_first)] }
def ScanPartsSaid : Prop := scanPartsRow.holds Tryd.pinned (OpenSpec.ofChange scanPartsSpec)

/-- ITS FALSE NEIGHBOUR: 'it returns false'. Refute it at one input. -/
def scanPartsWrong : ChangeSpec := { name := "scanParts", fn := fun _ => fun
  | [d1, d2] => { results := [.lit (.bool false)], args := [d1, d2] }
  | _ => none }
def ScanPartsWrongFalsely : Prop := scanPartsRow.holds Tryd.pinned (OpenSpec.ofChange scanPartsWrong)

/-- 'siglumlaw04.ScanWords': WHATEVER THE INPUT: true; the input reads as it did. -/
def scanWordsSpec : ChangeSpec := { name := "scanWords", fn := fun _ => fun
  | [d] => { results := [.lit (.bool true)], args := [d] }
  | _ => none }
def scanWordsRow : OpenClaim := { program := "ytalogampkkjcdaadoor", sum := "21aeba16386337425e7d65584269bf34127cc2fc8eb9941f7d9094361ef51fff", func := "siglum/siglumlaw04.ScanWords", spec := "scanWords", named := ["unicode/utf8.first", "unicode/utf8.acceptRanges"], apart := false, laid := [("unicode/utf8.acceptRanges", laid_unicode_utf8_acceptRanges), ("unicode/utf8.first", laid_unicode_utf8_first)] }
def ScanWordsSaid : Prop := scanWordsRow.holds Tryd.pinned (OpenSpec.ofChange scanWordsSpec)

/-- ITS FALSE NEIGHBOUR: 'it returns false'. Refute it at one input. -/
def scanWordsWrong : ChangeSpec := { name := "scanWords", fn := fun _ => fun
  | [d] => { results := [.lit (.bool false)], args := [d] }
  | _ => none }
def ScanWordsWrongFalsely : Prop := scanWordsRow.holds Tryd.pinned (OpenSpec.ofChange scanWordsWrong)

/-- 'siglumlaw08.DistApplies': WHATEVER THE INPUT: true; the input reads as it did. -/
def distAppliesSpec : ChangeSpec := { name := "distApplies", fn := fun _ => fun
  | [d1, d2] => { results := [.lit (.bool true)], args := [d1, d2] }
  | _ => none }
def distAppliesRow : OpenClaim := { program := "ytalogampkkjcdaadoor", sum := "21aeba16386337425e7d65584269bf34127cc2fc8eb9941f7d9094361ef51fff", func := "siglum/siglumlaw08.DistApplies", spec := "distApplies", inPlace := ["internal/abi.NoEscape"], named := ["unicode/utf8.first", "unicode/utf8.acceptRanges"], apart := false, laid := [("unicode/utf8.acceptRanges", laid_unicode_utf8_acceptRanges), ("unicode/utf8.first", laid_unicode_utf8_first)] }
def DistAppliesSaid : Prop := distAppliesRow.holds Tryd.pinned (OpenSpec.ofChange distAppliesSpec)

/-- ITS FALSE NEIGHBOUR: 'it returns false'. Refute it at one input. -/
def distAppliesWrong : ChangeSpec := { name := "distApplies", fn := fun _ => fun
  | [d1, d2] => { results := [.lit (.bool false)], args := [d1, d2] }
  | _ => none }
def DistAppliesWrongFalsely : Prop := distAppliesRow.holds Tryd.pinned (OpenSpec.ofChange distAppliesWrong)

/-- 'siglumlaw08.DistBack': WHATEVER THE INPUT: true; the input reads as it did. -/
def distBackSpec : ChangeSpec := { name := "distBack", fn := fun _ => fun
  | [d1, d2] => { results := [.lit (.bool true)], args := [d1, d2] }
  | _ => none }
def distBackRow : OpenClaim := { program := "ytalogampkkjcdaadoor", sum := "21aeba16386337425e7d65584269bf34127cc2fc8eb9941f7d9094361ef51fff", func := "siglum/siglumlaw08.DistBack", spec := "distBack", inPlace := ["internal/abi.NoEscape"], named := ["unicode/utf8.first", "unicode/utf8.acceptRanges"], apart := false, laid := [("unicode/utf8.acceptRanges", laid_unicode_utf8_acceptRanges), ("unicode/utf8.first", laid_unicode_utf8_first)] }
def DistBackSaid : Prop := distBackRow.holds Tryd.pinned (OpenSpec.ofChange distBackSpec)

/-- ITS FALSE NEIGHBOUR: 'it returns false'. Refute it at one input. -/
def distBackWrong : ChangeSpec := { name := "distBack", fn := fun _ => fun
  | [d1, d2] => { results := [.lit (.bool false)], args := [d1, d2] }
  | _ => none }
def DistBackWrongFalsely : Prop := distBackRow.holds Tryd.pinned (OpenSpec.ofChange distBackWrong)

/-- 'siglumlaw04.ScanPieces': WHATEVER THE INPUT: true; the input reads as it did. -/
def scanPiecesSpec : ChangeSpec := { name := "scanPieces", fn := fun _ => fun
  | [d] => { results := [.lit (.bool true)], args := [d] }
  | _ => none }
def scanPiecesRow : OpenClaim := { program := "ytalogampkkjcdaadoor", sum := "21aeba16386337425e7d65584269bf34127cc2fc8eb9941f7d9094361ef51fff", func := "siglum/siglumlaw04.ScanPieces", spec := "scanPieces", named := ["unicode/utf8.first", "unicode/utf8.acceptRanges"], apart := false, laid := [("unicode/utf8.acceptRanges", laid_unicode_utf8_acceptRanges), ("unicode/utf8.first", laid_unicode_utf8_first)] }
def ScanPiecesSaid : Prop := scanPiecesRow.holds Tryd.pinned (OpenSpec.ofChange scanPiecesSpec)

/-- ITS FALSE NEIGHBOUR: 'it returns false'. Refute it at one input. -/
def scanPiecesWrong : ChangeSpec := { name := "scanPieces", fn := fun _ => fun
  | [d] => { results := [.lit (.bool false)], args := [d] }
  | _ => none }
def ScanPiecesWrongFalsely : Prop := scanPiecesRow.holds Tryd.pinned (OpenSpec.ofChange scanPiecesWrong)

/- THE SECOND FORM. 'bulk': how many values and letters a reading holds, each counted each time it is reached (what is shared counts as often as it is met; a slice's spare places count too). A statement '..UptoSaid' is the law's where the arguments, and the package variables that the reading takes, are together of bulk at most 1048576: NARROWER than '..Said'. Prove '..Said' where nothing that the law and all that it calls make is longer than what came in: it says more and counts as full. Else prove '..UptoSaid'. A law counts once. -/
mutual
def uptoBulk {H : Type} : DataW H → Nat
  | .lit (.string bytes) => bytes.length + 1
  | .lit _ => 1
  | .nil => 1
  | .ptr d => uptoBulk d + 1
  | .slice elems spare => uptoBulkAll elems + uptoBulkAll spare + 1
  | .agg parts => uptoBulkAll parts + 1
  | .iface _ d => uptoBulk d + 1
  | .map entries => uptoBulkEntries entries + 1
  | .held _ => 1
def uptoBulkAll {H : Type} : List (DataW H) → Nat
  | [] => 0
  | d :: r => uptoBulk d + uptoBulkAll r
def uptoBulkEntries {H : Type} : List (Lit × DataW H) → Nat
  | [] => 0
  | x :: r => uptoBulkEntry x + uptoBulkEntries r
def uptoBulkEntry {H : Type} : Lit × DataW H → Nat
  | (.string bytes, d) => bytes.length + uptoBulk d + 1
  | (_, d) => uptoBulk d + 1
 end
def uptoSmall : (H : Type) → List (DataW H) → Bool := fun _ ds => decide (uptoBulkAll ds ≤ 1048576)
def OpenSpec.upto (s : _root_.Go.ChangeSpec) : _root_.Go.OpenSpec := { _root_.Go.OpenSpec.ofChange s with cond := some uptoSmall }

/-- 'siglumlaw08.DistPaths', WHERE WHAT IT READS IS OF BULK AT MOST 1048576: true; the input reads as it did. -/
def distPathsUptoRow : OpenClaim := { program := "ytalogampkkjcdaadoor", sum := "21aeba16386337425e7d65584269bf34127cc2fc8eb9941f7d9094361ef51fff", func := "siglum/siglumlaw08.DistPaths", spec := "distPaths", named := ["unicode/utf8.first", "unicode/utf8.acceptRanges"], apart := false, laid := [("unicode/utf8.acceptRanges", laid_unicode_utf8_acceptRanges), ("unicode/utf8.first", laid_unicode_utf8_first)], narrowed := true }
def DistPathsUptoSaid : Prop := distPathsUptoRow.holds Tryd.pinned (OpenSpec.upto distPathsSpec)

/-- 'siglumlaw08.DistMetric', WHERE WHAT IT READS IS OF BULK AT MOST 1048576: true; the input reads as it did. -/
def distMetricUptoRow : OpenClaim := { program := "ytalogampkkjcdaadoor", sum := "21aeba16386337425e7d65584269bf34127cc2fc8eb9941f7d9094361ef51fff", func := "siglum/siglumlaw08.DistMetric", spec := "distMetric", named := ["unicode/utf8.first", "unicode/utf8.acceptRanges"], apart := false, laid := [("unicode/utf8.acceptRanges", laid_unicode_utf8_acceptRanges), ("unicode/utf8.first", laid_unicode_utf8_first)], narrowed := true }
def DistMetricUptoSaid : Prop := distMetricUptoRow.holds Tryd.pinned (OpenSpec.upto distMetricSpec)

/-- 'siglumlaw08.DistLeast', WHERE WHAT IT READS IS OF BULK AT MOST 1048576: true; the input reads as it did. -/
def distLeastUptoRow : OpenClaim := { program := "ytalogampkkjcdaadoor", sum := "21aeba16386337425e7d65584269bf34127cc2fc8eb9941f7d9094361ef51fff", func := "siglum/siglumlaw08.DistLeast", spec := "distLeast", recurses := true, named := ["unicode/utf8.first", "unicode/utf8.acceptRanges"], apart := false, laid := [("unicode/utf8.acceptRanges", laid_unicode_utf8_acceptRanges), ("unicode/utf8.first", laid_unicode_utf8_first)], narrowed := true }
def DistLeastUptoSaid : Prop := distLeastUptoRow.holds Tryd.pinned (OpenSpec.upto distLeastSpec)

/-- 'siglumlaw08.DistBounds', WHERE WHAT IT READS IS OF BULK AT MOST 1048576: true; the input reads as it did. -/
def distBoundsUptoRow : OpenClaim := { program := "ytalogampkkjcdaadoor", sum := "21aeba16386337425e7d65584269bf34127cc2fc8eb9941f7d9094361ef51fff", func := "siglum/siglumlaw08.DistBounds", spec := "distBounds", named := ["unicode/utf8.first", "unicode/utf8.acceptRanges"], apart := false, laid := [("unicode/utf8.acceptRanges", laid_unicode_utf8_acceptRanges), ("unicode/utf8.first", laid_unicode_utf8_first)], narrowed := true }
def DistBoundsUptoSaid : Prop := distBoundsUptoRow.holds Tryd.pinned (OpenSpec.upto distBoundsSpec)

/-- 'siglumlaw08.DistOf', WHERE WHAT IT READS IS OF BULK AT MOST 1048576: true; the input reads as it did. -/
def distOfUptoRow : OpenClaim := { program := "ytalogampkkjcdaadoor", sum := "21aeba16386337425e7d65584269bf34127cc2fc8eb9941f7d9094361ef51fff", func := "siglum/siglumlaw08.DistOf", spec := "distOf", named := ["unicode/utf8.first", "unicode/utf8.acceptRanges"], apart := false, laid := [("unicode/utf8.acceptRanges", laid_unicode_utf8_acceptRanges), ("unicode/utf8.first", laid_unicode_utf8_first)], narrowed := true }
def DistOfUptoSaid : Prop := distOfUptoRow.holds Tryd.pinned (OpenSpec.upto distOfSpec)

/-- 'siglumlaw04.ScanTokens', WHERE WHAT IT READS IS OF BULK AT MOST 1048576: true; the input reads as it did. -/
def scanTokensUptoRow : OpenClaim := { program := "ytalogampkkjcdaadoor", sum := "21aeba16386337425e7d65584269bf34127cc2fc8eb9941f7d9094361ef51fff", func := "siglum/siglumlaw04.ScanTokens", spec := "scanTokens", named := ["unicode/utf8.first", "unicode/utf8.acceptRanges"], apart := false, laid := [("unicode/utf8.acceptRanges", laid_unicode_utf8_acceptRanges), ("unicode/utf8.first", laid_unicode_utf8_first)], narrowed := true }
def ScanTokensUptoSaid : Prop := scanTokensUptoRow.holds Tryd.pinned (OpenSpec.upto scanTokensSpec)

/-- 'siglumlaw04.ScanJoins', WHERE WHAT IT READS IS OF BULK AT MOST 1048576: true; the input reads as it did. -/
def scanJoinsUptoRow : OpenClaim := { program := "ytalogampkkjcdaadoor", sum := "21aeba16386337425e7d65584269bf34127cc2fc8eb9941f7d9094361ef51fff", func := "siglum/siglumlaw04.ScanJoins", spec := "scanJoins", named := ["unicode/utf8.first", "unicode/utf8.acceptRanges"], apart := false, laid := [("unicode/utf8.acceptRanges", laid_unicode_utf8_acceptRanges), ("unicode/utf8.first", laid_unicode_utf8_first)], narrowed := true }
def ScanJoinsUptoSaid : Prop := scanJoinsUptoRow.holds Tryd.pinned (OpenSpec.upto scanJoinsSpec)

/-- 'siglumlaw04.ScanParts', WHERE WHAT IT READS IS OF BULK AT MOST 1048576: true; the input reads as it did. -/
def scanPartsUptoRow : OpenClaim := { program := "ytalogampkkjcdaadoor", sum := "21aeba16386337425e7d65584269bf34127cc2fc8eb9941f7d9094361ef51fff", func := "siglum/siglumlaw04.ScanParts", spec := "scanParts", named := ["unicode/utf8.first", "unicode/utf8.acceptRanges"], apart := false, laid := [("unicode/utf8.acceptRanges", laid_unicode_utf8_acceptRanges), ("unicode/utf8.first", laid_unicode_utf8_first)], narrowed := true }
def ScanPartsUptoSaid : Prop := scanPartsUptoRow.holds Tryd.pinned (OpenSpec.upto scanPartsSpec)

/-- 'siglumlaw04.ScanWords', WHERE WHAT IT READS IS OF BULK AT MOST 1048576: true; the input reads as it did. -/
def scanWordsUptoRow : OpenClaim := { program := "ytalogampkkjcdaadoor", sum := "21aeba16386337425e7d65584269bf34127cc2fc8eb9941f7d9094361ef51fff", func := "siglum/siglumlaw04.ScanWords", spec := "scanWords", named := ["unicode/utf8.first", "unicode/utf8.acceptRanges"], apart := false, laid := [("unicode/utf8.acceptRanges", laid_unicode_utf8_acceptRanges), ("unicode/utf8.first", laid_unicode_utf8_first)], narrowed := true }
def ScanWordsUptoSaid : Prop := scanWordsUptoRow.holds Tryd.pinned (OpenSpec.upto scanWordsSpec)

/-- 'siglumlaw08.DistApplies', WHERE WHAT IT READS IS OF BULK AT MOST 1048576: true; the input reads as it did. -/
def distAppliesUptoRow : OpenClaim := { program := "ytalogampkkjcdaadoor", sum := "21aeba16386337425e7d65584269bf34127cc2fc8eb9941f7d9094361ef51fff", func := "siglum/siglumlaw08.DistApplies", spec := "distApplies", inPlace := ["internal/abi.NoEscape"], named := ["unicode/utf8.first", "unicode/utf8.acceptRanges"], apart := false, laid := [("unicode/utf8.acceptRanges", laid_unicode_utf8_acceptRanges), ("unicode/utf8.first", laid_unicode_utf8_first)], narrowed := true }
def DistAppliesUptoSaid : Prop := distAppliesUptoRow.holds Tryd.pinned (OpenSpec.upto distAppliesSpec)

/-- 'siglumlaw08.DistBack', WHERE WHAT IT READS IS OF BULK AT MOST 1048576: true; the input reads as it did. -/
def distBackUptoRow : OpenClaim := { program := "ytalogampkkjcdaadoor", sum := "21aeba16386337425e7d65584269bf34127cc2fc8eb9941f7d9094361ef51fff", func := "siglum/siglumlaw08.DistBack", spec := "distBack", inPlace := ["internal/abi.NoEscape"], named := ["unicode/utf8.first", "unicode/utf8.acceptRanges"], apart := false, laid := [("unicode/utf8.acceptRanges", laid_unicode_utf8_acceptRanges), ("unicode/utf8.first", laid_unicode_utf8_first)], narrowed := true }
def DistBackUptoSaid : Prop := distBackUptoRow.holds Tryd.pinned (OpenSpec.upto distBackSpec)

/-- 'siglumlaw04.ScanPieces', WHERE WHAT IT READS IS OF BULK AT MOST 1048576: true; the input reads as it did. -/
def scanPiecesUptoRow : OpenClaim := { program := "ytalogampkkjcdaadoor", sum := "21aeba16386337425e7d65584269bf34127cc2fc8eb9941f7d9094361ef51fff", func := "siglum/siglumlaw04.ScanPieces", spec := "scanPieces", named := ["unicode/utf8.first", "unicode/utf8.acceptRanges"], apart := false, laid := [("unicode/utf8.acceptRanges", laid_unicode_utf8_acceptRanges), ("unicode/utf8.first", laid_unicode_utf8_first)], narrowed := true }
def ScanPiecesUptoSaid : Prop := scanPiecesUptoRow.holds Tryd.pinned (OpenSpec.upto scanPiecesSpec)

end Rows
end Go.Proofs.YtalogampkkjcdaaDoor
