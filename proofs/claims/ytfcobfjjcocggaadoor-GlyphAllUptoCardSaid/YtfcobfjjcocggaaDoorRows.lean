/-
  NARROWER THAN 'FOR EVERY INPUT', by the rows' own cells (each row's printed sentence says how): GlyphTexts: laid · GlyphRunes: laid · GlyphJoins: laid · GlyphAll: laid · KindRuns: laid · KindParts: laid · GlyphHalves: laid · GlyphWhole: laid · GlyphCuts: laid · GlyphCells: laid.
  DERIVED. THE GIVEN ROWS OF THIS SEAT. 10 by the template 'for every input the law returns true; each argument reads behind the call as it read before'; 0 by the template 'total and deterministic' (their statements: YtfcobfjjcocggaaDoorTotals.lean).
  GIVEN WITH THE SEED: the statements are not yours to turn. If you find one false, say at which input.
  Laid BY PROGRAM, IN A SANDBOX (cutbox-rows.mjs): the forced cells as the released guide's own fill.sh prints them over the translation e1c7999078ea2971… (all of the seat's roots in one cut). By AI agents, Wed Nov 11 2026. No macro, syntax, notation, axiom, sorry.
-/
import Derived.Test.YtfcobfjjcocggaaDoorChecked
import GoSem.PinnedTables
import GoSem.Claim
import GoSem.ClaimJoined
import GoSem.ClaimMapViews
import Derived.JoinedTies
import Derived.KernelRfl
namespace Go.Proofs.YtfcobfjjcocggaaDoor
/- THE CELL 'sum', in the pinned program and in every row, IS THE sha256 OF THE DUMP (.gsa) THAT YtfcobfjjcocggaaDoorProg.lean LOADS. Nothing in Lean hashes anything: it is a label: what it is worth is what the hold of that sum in a sandbox is worth. -/
noncomputable def Tryd.pinned : Pinned := { name := "ytfcobfjjcocggaadoor", sum := "e1c7999078ea2971aaa24878d0f3c811e50d07c5ea991e172e24bc31713a05b2", checked := Tryd.checked }
namespace Rows
def none {H : Type} : Left H := { results := [], args := [] }

/- WHAT THE LISTED PACKAGE-LEVEL VARIABLES READ AS WHEN THE CALL BEGINS. Each datum BY PROGRAM (the guide's laid-datum.mjs) off the statement by which the dump's own 'gosem.cut.vars' lays the variable. In a bare row this is a premise. The card (YtfcobfjjcocggaaDoorCards.lean) ties it to the program's text. -/
def laid_unicode_utf8_acceptRanges {H : Type} : DataW H := .agg [.agg [.lit (.int .u8 128), .lit (.int .u8 191)], .agg [.lit (.int .u8 160), .lit (.int .u8 191)], .agg [.lit (.int .u8 128), .lit (.int .u8 159)], .agg [.lit (.int .u8 144), .lit (.int .u8 191)], .agg [.lit (.int .u8 128), .lit (.int .u8 143)], .agg [.lit (.int .u8 0), .lit (.int .u8 0)], .agg [.lit (.int .u8 0), .lit (.int .u8 0)], .agg [.lit (.int .u8 0), .lit (.int .u8 0)], .agg [.lit (.int .u8 0), .lit (.int .u8 0)], .agg [.lit (.int .u8 0), .lit (.int .u8 0)], .agg [.lit (.int .u8 0), .lit (.int .u8 0)], .agg [.lit (.int .u8 0), .lit (.int .u8 0)], .agg [.lit (.int .u8 0), .lit (.int .u8 0)], .agg [.lit (.int .u8 0), .lit (.int .u8 0)], .agg [.lit (.int .u8 0), .lit (.int .u8 0)], .agg [.lit (.int .u8 0), .lit (.int .u8 0)]]
/-- One of Go's own tables, pinned by name: the form's constant. -/
def laid_unicode_utf8_first : DataW Unit := Go.Pinned.utf8First

/-- 'siglumlaw01.GlyphTexts': WHATEVER THE INPUT: true; the input reads as it did. -/
def glyphTextsSpec : ChangeSpec := { name := "glyphTexts", fn := fun _ => fun
  | [d] => { results := [.lit (.bool true)], args := [d] }
  | _ => none }
def glyphTextsRow : OpenClaim := { program := "ytfcobfjjcocggaadoor", sum := "e1c7999078ea2971aaa24878d0f3c811e50d07c5ea991e172e24bc31713a05b2", func := "siglum/siglumlaw01.GlyphTexts", spec := "glyphTexts", inPlace := ["internal/abi.NoEscape"], named := ["unicode/utf8.first", "unicode/utf8.acceptRanges"], apart := false, laid := [("unicode/utf8.acceptRanges", laid_unicode_utf8_acceptRanges), ("unicode/utf8.first", laid_unicode_utf8_first)] }
def GlyphTextsSaid : Prop := glyphTextsRow.holds Tryd.pinned (OpenSpec.ofChange glyphTextsSpec)

/-- ITS FALSE NEIGHBOUR: 'it returns false'. Refute it at one input. -/
def glyphTextsWrong : ChangeSpec := { name := "glyphTexts", fn := fun _ => fun
  | [d] => { results := [.lit (.bool false)], args := [d] }
  | _ => none }
def GlyphTextsWrongFalsely : Prop := glyphTextsRow.holds Tryd.pinned (OpenSpec.ofChange glyphTextsWrong)

/-- 'siglumlaw01.GlyphRunes': WHATEVER THE INPUT: true; the input reads as it did. -/
def glyphRunesSpec : ChangeSpec := { name := "glyphRunes", fn := fun _ => fun
  | [d1, d2] => { results := [.lit (.bool true)], args := [d1, d2] }
  | _ => none }
def glyphRunesRow : OpenClaim := { program := "ytfcobfjjcocggaadoor", sum := "e1c7999078ea2971aaa24878d0f3c811e50d07c5ea991e172e24bc31713a05b2", func := "siglum/siglumlaw01.GlyphRunes", spec := "glyphRunes", inPlace := ["internal/abi.NoEscape"], named := ["unicode/utf8.first", "unicode/utf8.acceptRanges"], apart := false, laid := [("unicode/utf8.acceptRanges", laid_unicode_utf8_acceptRanges), ("unicode/utf8.first", laid_unicode_utf8_first)] }
def GlyphRunesSaid : Prop := glyphRunesRow.holds Tryd.pinned (OpenSpec.ofChange glyphRunesSpec)

/-- ITS FALSE NEIGHBOUR: 'it returns false'. Refute it at one input. -/
def glyphRunesWrong : ChangeSpec := { name := "glyphRunes", fn := fun _ => fun
  | [d1, d2] => { results := [.lit (.bool false)], args := [d1, d2] }
  | _ => none }
def GlyphRunesWrongFalsely : Prop := glyphRunesRow.holds Tryd.pinned (OpenSpec.ofChange glyphRunesWrong)

/-- 'siglumlaw01.GlyphJoins': WHATEVER THE INPUT: true; the input reads as it did. -/
def glyphJoinsSpec : ChangeSpec := { name := "glyphJoins", fn := fun _ => fun
  | [d] => { results := [.lit (.bool true)], args := [d] }
  | _ => none }
def glyphJoinsRow : OpenClaim := { program := "ytfcobfjjcocggaadoor", sum := "e1c7999078ea2971aaa24878d0f3c811e50d07c5ea991e172e24bc31713a05b2", func := "siglum/siglumlaw01.GlyphJoins", spec := "glyphJoins", inPlace := ["internal/abi.NoEscape"], named := ["unicode/utf8.first", "unicode/utf8.acceptRanges"], apart := false, laid := [("unicode/utf8.acceptRanges", laid_unicode_utf8_acceptRanges), ("unicode/utf8.first", laid_unicode_utf8_first)] }
def GlyphJoinsSaid : Prop := glyphJoinsRow.holds Tryd.pinned (OpenSpec.ofChange glyphJoinsSpec)

/-- ITS FALSE NEIGHBOUR: 'it returns false'. Refute it at one input. -/
def glyphJoinsWrong : ChangeSpec := { name := "glyphJoins", fn := fun _ => fun
  | [d] => { results := [.lit (.bool false)], args := [d] }
  | _ => none }
def GlyphJoinsWrongFalsely : Prop := glyphJoinsRow.holds Tryd.pinned (OpenSpec.ofChange glyphJoinsWrong)

/-- 'siglumlaw01.GlyphAll': WHATEVER THE INPUT: true; the input reads as it did. -/
def glyphAllSpec : ChangeSpec := { name := "glyphAll", fn := fun _ => fun
  | [d1, d2] => { results := [.lit (.bool true)], args := [d1, d2] }
  | _ => none }
def glyphAllRow : OpenClaim := { program := "ytfcobfjjcocggaadoor", sum := "e1c7999078ea2971aaa24878d0f3c811e50d07c5ea991e172e24bc31713a05b2", func := "siglum/siglumlaw01.GlyphAll", spec := "glyphAll", inPlace := ["internal/abi.NoEscape"], unfollowed := true, recurses := true, named := ["unicode/utf8.first", "unicode/utf8.acceptRanges"], apart := false, laid := [("unicode/utf8.acceptRanges", laid_unicode_utf8_acceptRanges), ("unicode/utf8.first", laid_unicode_utf8_first)] }
def GlyphAllSaid : Prop := glyphAllRow.holds Tryd.pinned (OpenSpec.ofChange glyphAllSpec)

/-- ITS FALSE NEIGHBOUR: 'it returns false'. Refute it at one input. -/
def glyphAllWrong : ChangeSpec := { name := "glyphAll", fn := fun _ => fun
  | [d1, d2] => { results := [.lit (.bool false)], args := [d1, d2] }
  | _ => none }
def GlyphAllWrongFalsely : Prop := glyphAllRow.holds Tryd.pinned (OpenSpec.ofChange glyphAllWrong)

/-- 'siglumlaw02.KindRuns': WHATEVER THE INPUT: true; the input reads as it did. -/
def kindRunsSpec : ChangeSpec := { name := "kindRuns", fn := fun _ => fun
  | [d1, d2] => { results := [.lit (.bool true)], args := [d1, d2] }
  | _ => none }
def kindRunsRow : OpenClaim := { program := "ytfcobfjjcocggaadoor", sum := "e1c7999078ea2971aaa24878d0f3c811e50d07c5ea991e172e24bc31713a05b2", func := "siglum/siglumlaw02.KindRuns", spec := "kindRuns", named := ["unicode/utf8.first", "unicode/utf8.acceptRanges"], apart := false, laid := [("unicode/utf8.acceptRanges", laid_unicode_utf8_acceptRanges), ("unicode/utf8.first", laid_unicode_utf8_first)] }
def KindRunsSaid : Prop := kindRunsRow.holds Tryd.pinned (OpenSpec.ofChange kindRunsSpec)

/-- ITS FALSE NEIGHBOUR: 'it returns false'. Refute it at one input. -/
def kindRunsWrong : ChangeSpec := { name := "kindRuns", fn := fun _ => fun
  | [d1, d2] => { results := [.lit (.bool false)], args := [d1, d2] }
  | _ => none }
def KindRunsWrongFalsely : Prop := kindRunsRow.holds Tryd.pinned (OpenSpec.ofChange kindRunsWrong)

/-- 'siglumlaw02.KindParts': WHATEVER THE INPUT: true; the input reads as it did. -/
def kindPartsSpec : ChangeSpec := { name := "kindParts", fn := fun _ => fun
  | [d] => { results := [.lit (.bool true)], args := [d] }
  | _ => none }
def kindPartsRow : OpenClaim := { program := "ytfcobfjjcocggaadoor", sum := "e1c7999078ea2971aaa24878d0f3c811e50d07c5ea991e172e24bc31713a05b2", func := "siglum/siglumlaw02.KindParts", spec := "kindParts", named := ["unicode/utf8.first", "unicode/utf8.acceptRanges"], apart := false, laid := [("unicode/utf8.acceptRanges", laid_unicode_utf8_acceptRanges), ("unicode/utf8.first", laid_unicode_utf8_first)] }
def KindPartsSaid : Prop := kindPartsRow.holds Tryd.pinned (OpenSpec.ofChange kindPartsSpec)

/-- ITS FALSE NEIGHBOUR: 'it returns false'. Refute it at one input. -/
def kindPartsWrong : ChangeSpec := { name := "kindParts", fn := fun _ => fun
  | [d] => { results := [.lit (.bool false)], args := [d] }
  | _ => none }
def KindPartsWrongFalsely : Prop := kindPartsRow.holds Tryd.pinned (OpenSpec.ofChange kindPartsWrong)

/-- 'siglumlaw01.GlyphHalves': WHATEVER THE INPUT: true; the input reads as it did. -/
def glyphHalvesSpec : ChangeSpec := { name := "glyphHalves", fn := fun _ => fun
  | [d1, d2] => { results := [.lit (.bool true)], args := [d1, d2] }
  | _ => none }
def glyphHalvesRow : OpenClaim := { program := "ytfcobfjjcocggaadoor", sum := "e1c7999078ea2971aaa24878d0f3c811e50d07c5ea991e172e24bc31713a05b2", func := "siglum/siglumlaw01.GlyphHalves", spec := "glyphHalves", inPlace := ["internal/abi.NoEscape"], named := ["unicode/utf8.first", "unicode/utf8.acceptRanges"], apart := false, laid := [("unicode/utf8.acceptRanges", laid_unicode_utf8_acceptRanges), ("unicode/utf8.first", laid_unicode_utf8_first)] }
def GlyphHalvesSaid : Prop := glyphHalvesRow.holds Tryd.pinned (OpenSpec.ofChange glyphHalvesSpec)

/-- ITS FALSE NEIGHBOUR: 'it returns false'. Refute it at one input. -/
def glyphHalvesWrong : ChangeSpec := { name := "glyphHalves", fn := fun _ => fun
  | [d1, d2] => { results := [.lit (.bool false)], args := [d1, d2] }
  | _ => none }
def GlyphHalvesWrongFalsely : Prop := glyphHalvesRow.holds Tryd.pinned (OpenSpec.ofChange glyphHalvesWrong)

/-- 'siglumlaw01.GlyphWhole': WHATEVER THE INPUT: true; the input reads as it did. -/
def glyphWholeSpec : ChangeSpec := { name := "glyphWhole", fn := fun _ => fun
  | [d1, d2] => { results := [.lit (.bool true)], args := [d1, d2] }
  | _ => none }
def glyphWholeRow : OpenClaim := { program := "ytfcobfjjcocggaadoor", sum := "e1c7999078ea2971aaa24878d0f3c811e50d07c5ea991e172e24bc31713a05b2", func := "siglum/siglumlaw01.GlyphWhole", spec := "glyphWhole", inPlace := ["internal/abi.NoEscape"], named := ["unicode/utf8.first", "unicode/utf8.acceptRanges"], apart := false, laid := [("unicode/utf8.acceptRanges", laid_unicode_utf8_acceptRanges), ("unicode/utf8.first", laid_unicode_utf8_first)] }
def GlyphWholeSaid : Prop := glyphWholeRow.holds Tryd.pinned (OpenSpec.ofChange glyphWholeSpec)

/-- ITS FALSE NEIGHBOUR: 'it returns false'. Refute it at one input. -/
def glyphWholeWrong : ChangeSpec := { name := "glyphWhole", fn := fun _ => fun
  | [d1, d2] => { results := [.lit (.bool false)], args := [d1, d2] }
  | _ => none }
def GlyphWholeWrongFalsely : Prop := glyphWholeRow.holds Tryd.pinned (OpenSpec.ofChange glyphWholeWrong)

/-- 'siglumlaw01.GlyphCuts': WHATEVER THE INPUT: true; the input reads as it did. -/
def glyphCutsSpec : ChangeSpec := { name := "glyphCuts", fn := fun _ => fun
  | [d1, d2, d3] => { results := [.lit (.bool true)], args := [d1, d2, d3] }
  | _ => none }
def glyphCutsRow : OpenClaim := { program := "ytfcobfjjcocggaadoor", sum := "e1c7999078ea2971aaa24878d0f3c811e50d07c5ea991e172e24bc31713a05b2", func := "siglum/siglumlaw01.GlyphCuts", spec := "glyphCuts", inPlace := ["internal/abi.NoEscape"], unfollowed := true, recurses := true, named := ["unicode/utf8.first", "unicode/utf8.acceptRanges"], apart := false, laid := [("unicode/utf8.acceptRanges", laid_unicode_utf8_acceptRanges), ("unicode/utf8.first", laid_unicode_utf8_first)] }
def GlyphCutsSaid : Prop := glyphCutsRow.holds Tryd.pinned (OpenSpec.ofChange glyphCutsSpec)

/-- ITS FALSE NEIGHBOUR: 'it returns false'. Refute it at one input. -/
def glyphCutsWrong : ChangeSpec := { name := "glyphCuts", fn := fun _ => fun
  | [d1, d2, d3] => { results := [.lit (.bool false)], args := [d1, d2, d3] }
  | _ => none }
def GlyphCutsWrongFalsely : Prop := glyphCutsRow.holds Tryd.pinned (OpenSpec.ofChange glyphCutsWrong)

/-- 'siglumlaw01.GlyphCells': WHATEVER THE INPUT: true; the input reads as it did. -/
def glyphCellsSpec : ChangeSpec := { name := "glyphCells", fn := fun _ => fun
  | [d] => { results := [.lit (.bool true)], args := [d] }
  | _ => none }
def glyphCellsRow : OpenClaim := { program := "ytfcobfjjcocggaadoor", sum := "e1c7999078ea2971aaa24878d0f3c811e50d07c5ea991e172e24bc31713a05b2", func := "siglum/siglumlaw01.GlyphCells", spec := "glyphCells", inPlace := ["internal/abi.NoEscape"], named := ["unicode/utf8.first", "unicode/utf8.acceptRanges"], apart := false, laid := [("unicode/utf8.acceptRanges", laid_unicode_utf8_acceptRanges), ("unicode/utf8.first", laid_unicode_utf8_first)] }
def GlyphCellsSaid : Prop := glyphCellsRow.holds Tryd.pinned (OpenSpec.ofChange glyphCellsSpec)

/-- ITS FALSE NEIGHBOUR: 'it returns false'. Refute it at one input. -/
def glyphCellsWrong : ChangeSpec := { name := "glyphCells", fn := fun _ => fun
  | [d] => { results := [.lit (.bool false)], args := [d] }
  | _ => none }
def GlyphCellsWrongFalsely : Prop := glyphCellsRow.holds Tryd.pinned (OpenSpec.ofChange glyphCellsWrong)

/- THE SECOND FORM. 'bulk': how many values and letters a reading holds, each counted each time it is reached (what is shared counts as often as it is met; a slice's spare places count too). A statement '..UptoSaid' is the law's where the arguments, and the package variables that the reading takes, are together of bulk at most 1048576: NARROWER than '..Said'. Prove '..Said' where nothing that the law and all that it calls make is longer than what came in: it says more and counts as full. Else prove '..UptoSaid'. A law counts once. -/
mutual
def uptoBulk {H : Type} : DataW H → Nat
  | .lit (.string bytes) => bytes.length + 1
  | .lit _ => 1
  | .nil => 1
  | .ptr d => uptoBulk d + 1
  | .slice elems spare => uptoBulkAll elems + uptoBulkAll spare + 1
  | .agg parts => uptoBulkAll parts + 1
  | .iface _ d => uptoBulk d + 1
  | .map entries => uptoBulkEntries entries + 1
  | .held _ => 1
def uptoBulkAll {H : Type} : List (DataW H) → Nat
  | [] => 0
  | d :: r => uptoBulk d + uptoBulkAll r
def uptoBulkEntries {H : Type} : List (Lit × DataW H) → Nat
  | [] => 0
  | x :: r => uptoBulkEntry x + uptoBulkEntries r
def uptoBulkEntry {H : Type} : Lit × DataW H → Nat
  | (.string bytes, d) => bytes.length + uptoBulk d + 1
  | (_, d) => uptoBulk d + 1
 end
def uptoSmall : (H : Type) → List (DataW H) → Bool := fun _ ds => decide (uptoBulkAll ds ≤ 1048576)
def OpenSpec.upto (s : _root_.Go.ChangeSpec) : _root_.Go.OpenSpec := { _root_.Go.OpenSpec.ofChange s with cond := some uptoSmall }

/-- 'siglumlaw01.GlyphTexts', WHERE WHAT IT READS IS OF BULK AT MOST 1048576: true; the input reads as it did. -/
def glyphTextsUptoRow : OpenClaim := { program := "ytfcobfjjcocggaadoor", sum := "e1c7999078ea2971aaa24878d0f3c811e50d07c5ea991e172e24bc31713a05b2", func := "siglum/siglumlaw01.GlyphTexts", spec := "glyphTexts", inPlace := ["internal/abi.NoEscape"], named := ["unicode/utf8.first", "unicode/utf8.acceptRanges"], apart := false, laid := [("unicode/utf8.acceptRanges", laid_unicode_utf8_acceptRanges), ("unicode/utf8.first", laid_unicode_utf8_first)], narrowed := true }
def GlyphTextsUptoSaid : Prop := glyphTextsUptoRow.holds Tryd.pinned (OpenSpec.upto glyphTextsSpec)

/-- 'siglumlaw01.GlyphRunes', WHERE WHAT IT READS IS OF BULK AT MOST 1048576: true; the input reads as it did. -/
def glyphRunesUptoRow : OpenClaim := { program := "ytfcobfjjcocggaadoor", sum := "e1c7999078ea2971aaa24878d0f3c811e50d07c5ea991e172e24bc31713a05b2", func := "siglum/siglumlaw01.GlyphRunes", spec := "glyphRunes", inPlace := ["internal/abi.NoEscape"], named := ["unicode/utf8.first", "unicode/utf8.acceptRanges"], apart := false, laid := [("unicode/utf8.acceptRanges", laid_unicode_utf8_acceptRanges), ("unicode/utf8.first", laid_unicode_utf8_first)], narrowed := true }
def GlyphRunesUptoSaid : Prop := glyphRunesUptoRow.holds Tryd.pinned (OpenSpec.upto glyphRunesSpec)

/-- 'siglumlaw01.GlyphJoins', WHERE WHAT IT READS IS OF BULK AT MOST 1048576: true; the input reads as it did. -/
def glyphJoinsUptoRow : OpenClaim := { program := "ytfcobfjjcocggaadoor", sum := "e1c7999078ea2971aaa24878d0f3c811e50d07c5ea991e172e24bc31713a05b2", func := "siglum/siglumlaw01.GlyphJoins", spec := "glyphJoins", inPlace := ["internal/abi.NoEscape"], named := ["unicode/utf8.first", "unicode/utf8.acceptRanges"], apart := false, laid := [("unicode/utf8.acceptRanges", laid_unicode_utf8_acceptRanges), ("unicode/utf8.first", laid_unicode_utf8_first)], narrowed := true }
def GlyphJoinsUptoSaid : Prop := glyphJoinsUptoRow.holds Tryd.pinned (OpenSpec.upto glyphJoinsSpec)

/-- 'siglumlaw01.GlyphAll', WHERE WHAT IT READS IS OF BULK AT MOST 1048576: true; the input reads as it did. -/
def glyphAllUptoRow : OpenClaim := { program := "ytfcobfjjcocggaadoor", sum := "e1c7999078ea2971aaa24878d0f3c811e50d07c5ea991e172e24bc31713a05b2", func := "siglum/siglumlaw01.GlyphAll", spec := "glyphAll", inPlace := ["internal/abi.NoEscape"], unfollowed := true, recurses := true, named := ["unicode/utf8.first", "unicode/utf8.acceptRanges"], apart := false, laid := [("unicode/utf8.acceptRanges", laid_unicode_utf8_acceptRanges), ("unicode/utf8.first", laid_unicode_utf8_first)], narrowed := true }
def GlyphAllUptoSaid : Prop := glyphAllUptoRow.holds Tryd.pinned (OpenSpec.upto glyphAllSpec)

/-- 'siglumlaw02.KindRuns', WHERE WHAT IT READS IS OF BULK AT MOST 1048576: true; the input reads as it did. -/
def kindRunsUptoRow : OpenClaim := { program := "ytfcobfjjcocggaadoor", sum := "e1c7999078ea2971aaa24878d0f3c811e50d07c5ea991e172e24bc31713a05b2", func := "siglum/siglumlaw02.KindRuns", spec := "kindRuns", named := ["unicode/utf8.first", "unicode/utf8.acceptRanges"], apart := false, laid := [("unicode/utf8.acceptRanges", laid_unicode_utf8_acceptRanges), ("unicode/utf8.first", laid_unicode_utf8_first)], narrowed := true }
def KindRunsUptoSaid : Prop := kindRunsUptoRow.holds Tryd.pinned (OpenSpec.upto kindRunsSpec)

/-- 'siglumlaw02.KindParts', WHERE WHAT IT READS IS OF BULK AT MOST 1048576: true; the input reads as it did. -/
def kindPartsUptoRow : OpenClaim := { program := "ytfcobfjjcocggaadoor", sum := "e1c7999078ea2971aaa24878d0f3c811e50d07c5ea991e172e24bc31713a05b2", func := "siglum/siglumlaw02.KindParts", spec := "kindParts", named := ["unicode/utf8.first", "unicode/utf8.acceptRanges"], apart := false, laid := [("unicode/utf8.acceptRanges", laid_unicode_utf8_acceptRanges), ("unicode/utf8.first", laid_unicode_utf8_first)], narrowed := true }
def KindPartsUptoSaid : Prop := kindPartsUptoRow.holds Tryd.pinned (OpenSpec.upto kindPartsSpec)

/-- 'siglumlaw01.GlyphHalves', WHERE WHAT IT READS IS OF BULK AT MOST 1048576: true; the input reads as it did. -/
def glyphHalvesUptoRow : OpenClaim := { program := "ytfcobfjjcocggaadoor", sum := "e1c7999078ea2971aaa24878d0f3c811e50d07c5ea991e172e24bc31713a05b2", func := "siglum/siglumlaw01.GlyphHalves", spec := "glyphHalves", inPlace := ["internal/abi.NoEscape"], named := ["unicode/utf8.first", "unicode/utf8.acceptRanges"], apart := false, laid := [("unicode/utf8.acceptRanges", laid_unicode_utf8_acceptRanges), ("unicode/utf8.first", laid_unicode_utf8_first)], narrowed := true }
def GlyphHalvesUptoSaid : Prop := glyphHalvesUptoRow.holds Tryd.pinned (OpenSpec.upto glyphHalvesSpec)

/-- 'siglumlaw01.GlyphWhole', WHERE WHAT IT READS IS OF BULK AT MOST 1048576: true; the input reads as it did. -/
def glyphWholeUptoRow : OpenClaim := { program := "ytfcobfjjcocggaadoor", sum := "e1c7999078ea2971aaa24878d0f3c811e50d07c5ea991e172e24bc31713a05b2", func := "siglum/siglumlaw01.GlyphWhole", spec := "glyphWhole", inPlace := ["internal/abi.NoEscape"], named := ["unicode/utf8.first", "unicode/utf8.acceptRanges"], apart := false, laid := [("unicode/utf8.acceptRanges", laid_unicode_utf8_acceptRanges), ("unicode/utf8.first", laid_unicode_utf8_first)], narrowed := true }
def GlyphWholeUptoSaid : Prop := glyphWholeUptoRow.holds Tryd.pinned (OpenSpec.upto glyphWholeSpec)

/-- 'siglumlaw01.GlyphCuts', WHERE WHAT IT READS IS OF BULK AT MOST 1048576: true; the input reads as it did. -/
def glyphCutsUptoRow : OpenClaim := { program := "ytfcobfjjcocggaadoor", sum := "e1c7999078ea2971aaa24878d0f3c811e50d07c5ea991e172e24bc31713a05b2", func := "siglum/siglumlaw01.GlyphCuts", spec := "glyphCuts", inPlace := ["internal/abi.NoEscape"], unfollowed := true, recurses := true, named := ["unicode/utf8.first", "unicode/utf8.acceptRanges"], apart := false, laid := [("unicode/utf8.acceptRanges", laid_unicode_utf8_acceptRanges), ("unicode/utf8.first", laid_unicode_utf8_first)], narrowed := true }
def GlyphCutsUptoSaid : Prop := glyphCutsUptoRow.holds Tryd.pinned (OpenSpec.upto glyphCutsSpec)

/-- 'siglumlaw01.GlyphCells', WHERE WHAT IT READS IS OF BULK AT MOST 1048576: true; the input reads as it did. -/
def glyphCellsUptoRow : OpenClaim := { program := "ytfcobfjjcocggaadoor", sum := "e1c7999078ea2971aaa24878d0f3c811e50d07c5ea991e172e24bc31713a05b2", func := "siglum/siglumlaw01.GlyphCells", spec := "glyphCells", inPlace := ["internal/abi.NoEscape"], named := ["unicode/utf8.first", "unicode/utf8.acceptRanges"], apart := false, laid := [("unicode/utf8.acceptRanges", laid_unicode_utf8_acceptRanges), ("unicode/utf8.first", laid_unicode_utf8_first)], narrowed := true }
def GlyphCellsUptoSaid : Prop := glyphCellsUptoRow.holds Tryd.pinned (OpenSpec.upto glyphCellsSpec)

end Rows
end Go.Proofs.YtfcobfjjcocggaaDoor
