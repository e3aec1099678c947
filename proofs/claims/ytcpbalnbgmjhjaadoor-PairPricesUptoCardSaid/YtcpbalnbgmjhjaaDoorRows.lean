/-
  NARROWER THAN 'FOR EVERY INPUT', by the rows' own cells (each row's printed sentence says how): CostWords: laid · CostTriangle: laid · CostEven: laid · CostGrids: laid · CostApart: laid · CostFolded: laid · PairAligns: laid · PairParts: laid · PairRights: laid · PairEven: laid · PairPrices: laid · PairLeast: laid.
  DERIVED. THE GIVEN ROWS OF THIS SEAT. 12 by the template 'for every input the law returns true; each argument reads behind the call as it read before'; 0 by the template 'total and deterministic' (their statements: YtcpbalnbgmjhjaaDoorTotals.lean).
  GIVEN WITH THE SEED: the statements are not yours to turn. If you find one false, say at which input.
  Laid BY PROGRAM, IN A SANDBOX (cutbox-rows.mjs): the forced cells as the released guide's own fill.sh prints them over the translation 8d743f2dcc1ab8c9… (all of the seat's roots in one cut). By AI agents, Wed Nov 11 2026. No macro, syntax, notation, axiom, sorry.
-/
import Derived.Test.YtcpbalnbgmjhjaaDoorChecked
import GoSem.PinnedTables
import GoSem.Claim
import GoSem.ClaimJoined
import GoSem.ClaimMapViews
import Derived.JoinedTies
import Derived.KernelRfl
namespace Go.Proofs.YtcpbalnbgmjhjaaDoor
/- THE CELL 'sum', in the pinned program and in every row, IS THE sha256 OF THE DUMP (.gsa) THAT YtcpbalnbgmjhjaaDoorProg.lean LOADS. Nothing in Lean hashes anything: it is a label: what it is worth is what the hold of that sum in a sandbox is worth. -/
noncomputable def Tryd.pinned : Pinned := { name := "ytcpbalnbgmjhjaadoor", sum := "8d743f2dcc1ab8c957c9b549505902e6b9d8c73400a586070ea281e05e73f4ab", checked := Tryd.checked }
namespace Rows
def none {H : Type} : Left H := { results := [], args := [] }

/- WHAT THE LISTED PACKAGE-LEVEL VARIABLES READ AS WHEN THE CALL BEGINS. Each datum BY PROGRAM (the guide's laid-datum.mjs) off the statement by which the dump's own 'gosem.cut.vars' lays the variable. In a bare row this is a premise. The card (YtcpbalnbgmjhjaaDoorCards.lean) ties it to the program's text. -/
def laid_unicode_utf8_acceptRanges {H : Type} : DataW H := .agg [.agg [.lit (.int .u8 128), .lit (.int .u8 191)], .agg [.lit (.int .u8 160), .lit (.int .u8 191)], .agg [.lit (.int .u8 128), .lit (.int .u8 159)], .agg [.lit (.int .u8 144), .lit (.int .u8 191)], .agg [.lit (.int .u8 128), .lit (.int .u8 143)], .agg [.lit (.int .u8 0), .lit (.int .u8 0)], .agg [.lit (.int .u8 0), .lit (.int .u8 0)], .agg [.lit (.int .u8 0), .lit (.int .u8 0)], .agg [.lit (.int .u8 0), .lit (.int .u8 0)], .agg [.lit (.int .u8 0), .lit (.int .u8 0)], .agg [.lit (.int .u8 0), .lit (.int .u8 0)], .agg [.lit (.int .u8 0), .lit (.int .u8 0)], .agg [.lit (.int .u8 0), .lit (.int .u8 0)], .agg [.lit (.int .u8 0), .lit (.int .u8 0)], .agg [.lit (.int .u8 0), .lit (.int .u8 0)], .agg [.lit (.int .u8 0), .lit (.int .u8 0)]]
def laid_unicode_White_Space {H : Type} : DataW H := .ptr (.agg [.slice [.agg [.lit (.int .u16 9), .lit (.int .u16 13), .lit (.int .u16 1)], .agg [.lit (.int .u16 32), .lit (.int .u16 133), .lit (.int .u16 101)], .agg [.lit (.int .u16 160), .lit (.int .u16 5760), .lit (.int .u16 5600)], .agg [.lit (.int .u16 8192), .lit (.int .u16 8202), .lit (.int .u16 1)], .agg [.lit (.int .u16 8232), .lit (.int .u16 8233), .lit (.int .u16 1)], .agg [.lit (.int .u16 8239), .lit (.int .u16 8287), .lit (.int .u16 48)], .agg [.lit (.int .u16 12288), .lit (.int .u16 12288), .lit (.int .u16 1)]] [], .nil, .lit (.int .i64 2)])
def laid_strings_asciiSpace {H : Type} : DataW H := .agg [.lit (.int .u8 0), .lit (.int .u8 0), .lit (.int .u8 0), .lit (.int .u8 0), .lit (.int .u8 0), .lit (.int .u8 0), .lit (.int .u8 0), .lit (.int .u8 0), .lit (.int .u8 0), .lit (.int .u8 1), .lit (.int .u8 1), .lit (.int .u8 1), .lit (.int .u8 1), .lit (.int .u8 1), .lit (.int .u8 0), .lit (.int .u8 0), .lit (.int .u8 0), .lit (.int .u8 0), .lit (.int .u8 0), .lit (.int .u8 0), .lit (.int .u8 0), .lit (.int .u8 0), .lit (.int .u8 0), .lit (.int .u8 0), .lit (.int .u8 0), .lit (.int .u8 0), .lit (.int .u8 0), .lit (.int .u8 0), .lit (.int .u8 0), .lit (.int .u8 0), .lit (.int .u8 0), .lit (.int .u8 0), .lit (.int .u8 1), .lit (.int .u8 0), .lit (.int .u8 0), .lit (.int .u8 0), .lit (.int .u8 0), .lit (.int .u8 0), .lit (.int .u8 0), .lit (.int .u8 0), .lit (.int .u8 0), .lit (.int .u8 0), .lit (.int .u8 0), .lit (.int .u8 0), .lit (.int .u8 0), .lit (.int .u8 0), .lit (.int .u8 0), .lit (.int .u8 0), .lit (.int .u8 0), .lit (.int .u8 0), .lit (.int .u8 0), .lit (.int .u8 0), .lit (.int .u8 0), .lit (.int .u8 0), .lit (.int .u8 0), .lit (.int .u8 0), .lit (.int .u8 0), .lit (.int .u8 0), .lit (.int .u8 0), .lit (.int .u8 0), .lit (.int .u8 0), .lit (.int .u8 0), .lit (.int .u8 0), .lit (.int .u8 0), .lit (.int .u8 0), .lit (.int .u8 0), .lit (.int .u8 0), .lit (.int .u8 0), .lit (.int .u8 0), .lit (.int .u8 0), .lit (.int .u8 0), .lit (.int .u8 0), .lit (.int .u8 0), .lit (.int .u8 0), .lit (.int .u8 0), .lit (.int .u8 0), .lit (.int .u8 0), .lit (.int .u8 0), .lit (.int .u8 0), .lit (.int .u8 0), .lit (.int .u8 0), .lit (.int .u8 0), .lit (.int .u8 0), .lit (.int .u8 0), .lit (.int .u8 0), .lit (.int .u8 0), .lit (.int .u8 0), .lit (.int .u8 0), .lit (.int .u8 0), .lit (.int .u8 0), .lit (.int .u8 0), .lit (.int .u8 0), .lit (.int .u8 0), .lit (.int .u8 0), .lit (.int .u8 0), .lit (.int .u8 0), .lit (.int .u8 0), .lit (.int .u8 0), .lit (.int .u8 0), .lit (.int .u8 0), .lit (.int .u8 0), .lit (.int .u8 0), .lit (.int .u8 0), .lit (.int .u8 0), .lit (.int .u8 0), .lit (.int .u8 0), .lit (.int .u8 0), .lit (.int .u8 0), .lit (.int .u8 0), .lit (.int .u8 0), .lit (.int .u8 0), .lit (.int .u8 0), .lit (.int .u8 0), .lit (.int .u8 0), .lit (.int .u8 0), .lit (.int .u8 0), .lit (.int .u8 0), .lit (.int .u8 0), .lit (.int .u8 0), .lit (.int .u8 0), .lit (.int .u8 0), .lit (.int .u8 0), .lit (.int .u8 0), .lit (.int .u8 0), .lit (.int .u8 0), .lit (.int .u8 0), .lit (.int .u8 0), .lit (.int .u8 0), .lit (.int .u8 0), .lit (.int .u8 0), .lit (.int .u8 0), .lit (.int .u8 0), .lit (.int .u8 0), .lit (.int .u8 0), .lit (.int .u8 0), .lit (.int .u8 0), .lit (.int .u8 0), .lit (.int .u8 0), .lit (.int .u8 0), .lit (.int .u8 0), .lit (.int .u8 0), .lit (.int .u8 0), .lit (.int .u8 0), .lit (.int .u8 0), .lit (.int .u8 0), .lit (.int .u8 0), .lit (.int .u8 0), .lit (.int .u8 0), .lit (.int .u8 0), .lit (.int .u8 0), .lit (.int .u8 0), .lit (.int .u8 0), .lit (.int .u8 0), .lit (.int .u8 0), .lit (.int .u8 0), .lit (.int .u8 0), .lit (.int .u8 0), .lit (.int .u8 0), .lit (.int .u8 0), .lit (.int .u8 0), .lit (.int .u8 0), .lit (.int .u8 0), .lit (.int .u8 0), .lit (.int .u8 0), .lit (.int .u8 0), .lit (.int .u8 0), .lit (.int .u8 0), .lit (.int .u8 0), .lit (.int .u8 0), .lit (.int .u8 0), .lit (.int .u8 0), .lit (.int .u8 0), .lit (.int .u8 0), .lit (.int .u8 0), .lit (.int .u8 0), .lit (.int .u8 0), .lit (.int .u8 0), .lit (.int .u8 0), .lit (.int .u8 0), .lit (.int .u8 0), .lit (.int .u8 0), .lit (.int .u8 0), .lit (.int .u8 0), .lit (.int .u8 0), .lit (.int .u8 0), .lit (.int .u8 0), .lit (.int .u8 0), .lit (.int .u8 0), .lit (.int .u8 0), .lit (.int .u8 0), .lit (.int .u8 0), .lit (.int .u8 0), .lit (.int .u8 0), .lit (.int .u8 0), .lit (.int .u8 0), .lit (.int .u8 0), .lit (.int .u8 0), .lit (.int .u8 0), .lit (.int .u8 0), .lit (.int .u8 0), .lit (.int .u8 0), .lit (.int .u8 0), .lit (.int .u8 0), .lit (.int .u8 0), .lit (.int .u8 0), .lit (.int .u8 0), .lit (.int .u8 0), .lit (.int .u8 0), .lit (.int .u8 0), .lit (.int .u8 0), .lit (.int .u8 0), .lit (.int .u8 0), .lit (.int .u8 0), .lit (.int .u8 0), .lit (.int .u8 0), .lit (.int .u8 0), .lit (.int .u8 0), .lit (.int .u8 0), .lit (.int .u8 0), .lit (.int .u8 0), .lit (.int .u8 0), .lit (.int .u8 0), .lit (.int .u8 0), .lit (.int .u8 0), .lit (.int .u8 0), .lit (.int .u8 0), .lit (.int .u8 0), .lit (.int .u8 0), .lit (.int .u8 0), .lit (.int .u8 0), .lit (.int .u8 0), .lit (.int .u8 0), .lit (.int .u8 0), .lit (.int .u8 0), .lit (.int .u8 0), .lit (.int .u8 0), .lit (.int .u8 0), .lit (.int .u8 0), .lit (.int .u8 0), .lit (.int .u8 0), .lit (.int .u8 0), .lit (.int .u8 0), .lit (.int .u8 0), .lit (.int .u8 0), .lit (.int .u8 0), .lit (.int .u8 0), .lit (.int .u8 0), .lit (.int .u8 0), .lit (.int .u8 0), .lit (.int .u8 0), .lit (.int .u8 0), .lit (.int .u8 0), .lit (.int .u8 0), .lit (.int .u8 0), .lit (.int .u8 0), .lit (.int .u8 0)]
/-- One of Go's own tables, pinned by name: the form's constant. -/
def laid_unicode_utf8_first : DataW Unit := Go.Pinned.utf8First

/-- 'siglumlaw09.CostWords': WHATEVER THE INPUT: true; the input reads as it did. -/
def costWordsSpec : ChangeSpec := { name := "costWords", fn := fun _ => fun
  | [d1, d2, d3] => { results := [.lit (.bool true)], args := [d1, d2, d3] }
  | _ => none }
def costWordsRow : OpenClaim := { program := "ytcpbalnbgmjhjaadoor", sum := "8d743f2dcc1ab8c957c9b549505902e6b9d8c73400a586070ea281e05e73f4ab", func := "siglum/siglumlaw09.CostWords", spec := "costWords", inPlace := ["internal/abi.NoEscape"], unfollowed := true, recurses := true, named := ["unicode/utf8.first", "unicode/utf8.acceptRanges", "strings.asciiSpace", "unicode.White_Space"], apart := false, laid := [("unicode/utf8.acceptRanges", laid_unicode_utf8_acceptRanges), ("unicode.White_Space", laid_unicode_White_Space), ("strings.asciiSpace", laid_strings_asciiSpace), ("unicode/utf8.first", laid_unicode_utf8_first)] }
def CostWordsSaid : Prop := costWordsRow.holds Tryd.pinned (OpenSpec.ofChange costWordsSpec)

/-- ITS FALSE NEIGHBOUR: 'it returns false'. Refute it at one input. -/
def costWordsWrong : ChangeSpec := { name := "costWords", fn := fun _ => fun
  | [d1, d2, d3] => { results := [.lit (.bool false)], args := [d1, d2, d3] }
  | _ => none }
def CostWordsWrongFalsely : Prop := costWordsRow.holds Tryd.pinned (OpenSpec.ofChange costWordsWrong)

/-- 'siglumlaw09.CostTriangle': WHATEVER THE INPUT: true; the input reads as it did. -/
def costTriangleSpec : ChangeSpec := { name := "costTriangle", fn := fun _ => fun
  | [d] => { results := [.lit (.bool true)], args := [d] }
  | _ => none }
def costTriangleRow : OpenClaim := { program := "ytcpbalnbgmjhjaadoor", sum := "8d743f2dcc1ab8c957c9b549505902e6b9d8c73400a586070ea281e05e73f4ab", func := "siglum/siglumlaw09.CostTriangle", spec := "costTriangle", inPlace := ["internal/abi.NoEscape"], unfollowed := true, recurses := true, named := ["unicode/utf8.first", "unicode/utf8.acceptRanges", "strings.asciiSpace", "unicode.White_Space"], apart := false, laid := [("unicode/utf8.acceptRanges", laid_unicode_utf8_acceptRanges), ("unicode.White_Space", laid_unicode_White_Space), ("strings.asciiSpace", laid_strings_asciiSpace), ("unicode/utf8.first", laid_unicode_utf8_first)] }
def CostTriangleSaid : Prop := costTriangleRow.holds Tryd.pinned (OpenSpec.ofChange costTriangleSpec)

/-- ITS FALSE NEIGHBOUR: 'it returns false'. Refute it at one input. -/
def costTriangleWrong : ChangeSpec := { name := "costTriangle", fn := fun _ => fun
  | [d] => { results := [.lit (.bool false)], args := [d] }
  | _ => none }
def CostTriangleWrongFalsely : Prop := costTriangleRow.holds Tryd.pinned (OpenSpec.ofChange costTriangleWrong)

/-- 'siglumlaw09.CostEven': WHATEVER THE INPUT: true; the input reads as it did. -/
def costEvenSpec : ChangeSpec := { name := "costEven", fn := fun _ => fun
  | [d1, d2, d3] => { results := [.lit (.bool true)], args := [d1, d2, d3] }
  | _ => none }
def costEvenRow : OpenClaim := { program := "ytcpbalnbgmjhjaadoor", sum := "8d743f2dcc1ab8c957c9b549505902e6b9d8c73400a586070ea281e05e73f4ab", func := "siglum/siglumlaw09.CostEven", spec := "costEven", inPlace := ["internal/abi.NoEscape"], unfollowed := true, recurses := true, named := ["unicode/utf8.first", "unicode/utf8.acceptRanges", "strings.asciiSpace", "unicode.White_Space"], apart := false, laid := [("unicode/utf8.acceptRanges", laid_unicode_utf8_acceptRanges), ("unicode.White_Space", laid_unicode_White_Space), ("strings.asciiSpace", laid_strings_asciiSpace), ("unicode/utf8.first", laid_unicode_utf8_first)] }
def CostEvenSaid : Prop := costEvenRow.holds Tryd.pinned (OpenSpec.ofChange costEvenSpec)

/-- ITS FALSE NEIGHBOUR: 'it returns false'. Refute it at one input. -/
def costEvenWrong : ChangeSpec := { name := "costEven", fn := fun _ => fun
  | [d1, d2, d3] => { results := [.lit (.bool false)], args := [d1, d2, d3] }
  | _ => none }
def CostEvenWrongFalsely : Prop := costEvenRow.holds Tryd.pinned (OpenSpec.ofChange costEvenWrong)

/-- 'siglumlaw09.CostGrids': WHATEVER THE INPUT: true; the input reads as it did. -/
def costGridsSpec : ChangeSpec := { name := "costGrids", fn := fun _ => fun
  | [d1, d2, d3] => { results := [.lit (.bool true)], args := [d1, d2, d3] }
  | _ => none }
def costGridsRow : OpenClaim := { program := "ytcpbalnbgmjhjaadoor", sum := "8d743f2dcc1ab8c957c9b549505902e6b9d8c73400a586070ea281e05e73f4ab", func := "siglum/siglumlaw09.CostGrids", spec := "costGrids", inPlace := ["internal/abi.NoEscape"], unfollowed := true, recurses := true, named := ["unicode/utf8.first", "unicode/utf8.acceptRanges", "strings.asciiSpace", "unicode.White_Space"], apart := false, laid := [("unicode/utf8.acceptRanges", laid_unicode_utf8_acceptRanges), ("unicode.White_Space", laid_unicode_White_Space), ("strings.asciiSpace", laid_strings_asciiSpace), ("unicode/utf8.first", laid_unicode_utf8_first)] }
def CostGridsSaid : Prop := costGridsRow.holds Tryd.pinned (OpenSpec.ofChange costGridsSpec)

/-- ITS FALSE NEIGHBOUR: 'it returns false'. Refute it at one input. -/
def costGridsWrong : ChangeSpec := { name := "costGrids", fn := fun _ => fun
  | [d1, d2, d3] => { results := [.lit (.bool false)], args := [d1, d2, d3] }
  | _ => none }
def CostGridsWrongFalsely : Prop := costGridsRow.holds Tryd.pinned (OpenSpec.ofChange costGridsWrong)

/-- 'siglumlaw09.CostApart': WHATEVER THE INPUT: true; the input reads as it did. -/
def costApartSpec : ChangeSpec := { name := "costApart", fn := fun _ => fun
  | [d1, d2, d3] => { results := [.lit (.bool true)], args := [d1, d2, d3] }
  | _ => none }
def costApartRow : OpenClaim := { program := "ytcpbalnbgmjhjaadoor", sum := "8d743f2dcc1ab8c957c9b549505902e6b9d8c73400a586070ea281e05e73f4ab", func := "siglum/siglumlaw09.CostApart", spec := "costApart", inPlace := ["internal/abi.NoEscape"], unfollowed := true, recurses := true, named := ["unicode/utf8.first", "unicode/utf8.acceptRanges", "strings.asciiSpace", "unicode.White_Space"], apart := false, laid := [("unicode/utf8.acceptRanges", laid_unicode_utf8_acceptRanges), ("unicode.White_Space", laid_unicode_White_Space), ("strings.asciiSpace", laid_strings_asciiSpace), ("unicode/utf8.first", laid_unicode_utf8_first)] }
def CostApartSaid : Prop := costApartRow.holds Tryd.pinned (OpenSpec.ofChange costApartSpec)

/-- ITS FALSE NEIGHBOUR: 'it returns false'. Refute it at one input. -/
def costApartWrong : ChangeSpec := { name := "costApart", fn := fun _ => fun
  | [d1, d2, d3] => { results := [.lit (.bool false)], args := [d1, d2, d3] }
  | _ => none }
def CostApartWrongFalsely : Prop := costApartRow.holds Tryd.pinned (OpenSpec.ofChange costApartWrong)

/-- 'siglumlaw09.CostFolded': WHATEVER THE INPUT: true; the input reads as it did. -/
def costFoldedSpec : ChangeSpec := { name := "costFolded", fn := fun _ => fun
  | [d1, d2, d3] => { results := [.lit (.bool true)], args := [d1, d2, d3] }
  | _ => none }
def costFoldedRow : OpenClaim := { program := "ytcpbalnbgmjhjaadoor", sum := "8d743f2dcc1ab8c957c9b549505902e6b9d8c73400a586070ea281e05e73f4ab", func := "siglum/siglumlaw09.CostFolded", spec := "costFolded", inPlace := ["internal/abi.NoEscape"], unfollowed := true, recurses := true, named := ["unicode/utf8.first", "unicode/utf8.acceptRanges", "strings.asciiSpace", "unicode.White_Space"], apart := false, laid := [("unicode/utf8.acceptRanges", laid_unicode_utf8_acceptRanges), ("unicode.White_Space", laid_unicode_White_Space), ("strings.asciiSpace", laid_strings_asciiSpace), ("unicode/utf8.first", laid_unicode_utf8_first)] }
def CostFoldedSaid : Prop := costFoldedRow.holds Tryd.pinned (OpenSpec.ofChange costFoldedSpec)

/-- ITS FALSE NEIGHBOUR: 'it returns false'. Refute it at one input. -/
def costFoldedWrong : ChangeSpec := { name := "costFolded", fn := fun _ => fun
  | [d1, d2, d3] => { results := [.lit (.bool false)], args := [d1, d2, d3] }
  | _ => none }
def CostFoldedWrongFalsely : Prop := costFoldedRow.holds Tryd.pinned (OpenSpec.ofChange costFoldedWrong)

/-- 'siglumlaw10.PairAligns': WHATEVER THE INPUT: true; the input reads as it did. -/
def pairAlignsSpec : ChangeSpec := { name := "pairAligns", fn := fun _ => fun
  | [d1, d2, d3] => { results := [.lit (.bool true)], args := [d1, d2, d3] }
  | _ => none }
def pairAlignsRow : OpenClaim := { program := "ytcpbalnbgmjhjaadoor", sum := "8d743f2dcc1ab8c957c9b549505902e6b9d8c73400a586070ea281e05e73f4ab", func := "siglum/siglumlaw10.PairAligns", spec := "pairAligns", inPlace := ["internal/abi.NoEscape"], unfollowed := true, recurses := true, named := ["unicode/utf8.first", "unicode/utf8.acceptRanges", "strings.asciiSpace", "unicode.White_Space"], apart := false, laid := [("unicode/utf8.acceptRanges", laid_unicode_utf8_acceptRanges), ("unicode.White_Space", laid_unicode_White_Space), ("strings.asciiSpace", laid_strings_asciiSpace), ("unicode/utf8.first", laid_unicode_utf8_first)] }
def PairAlignsSaid : Prop := pairAlignsRow.holds Tryd.pinned (OpenSpec.ofChange pairAlignsSpec)

/-- ITS FALSE NEIGHBOUR: 'it returns false'. Refute it at one input. -/
def pairAlignsWrong : ChangeSpec := { name := "pairAligns", fn := fun _ => fun
  | [d1, d2, d3] => { results := [.lit (.bool false)], args := [d1, d2, d3] }
  | _ => none }
def PairAlignsWrongFalsely : Prop := pairAlignsRow.holds Tryd.pinned (OpenSpec.ofChange pairAlignsWrong)

/-- 'siglumlaw10.PairParts': WHATEVER THE INPUT: true; the input reads as it did. -/
def pairPartsSpec : ChangeSpec := { name := "pairParts", fn := fun _ => fun
  | [d] => { results := [.lit (.bool true)], args := [d] }
  | _ => none }
def pairPartsRow : OpenClaim := { program := "ytcpbalnbgmjhjaadoor", sum := "8d743f2dcc1ab8c957c9b549505902e6b9d8c73400a586070ea281e05e73f4ab", func := "siglum/siglumlaw10.PairParts", spec := "pairParts", inPlace := ["internal/abi.NoEscape"], unfollowed := true, recurses := true, named := ["unicode/utf8.first", "unicode/utf8.acceptRanges", "strings.asciiSpace", "unicode.White_Space"], apart := false, laid := [("unicode/utf8.acceptRanges", laid_unicode_utf8_acceptRanges), ("unicode.White_Space", laid_unicode_White_Space), ("strings.asciiSpace", laid_strings_asciiSpace), ("unicode/utf8.first", laid_unicode_utf8_first)] }
def PairPartsSaid : Prop := pairPartsRow.holds Tryd.pinned (OpenSpec.ofChange pairPartsSpec)

/-- ITS FALSE NEIGHBOUR: 'it returns false'. Refute it at one input. -/
def pairPartsWrong : ChangeSpec := { name := "pairParts", fn := fun _ => fun
  | [d] => { results := [.lit (.bool false)], args := [d] }
  | _ => none }
def PairPartsWrongFalsely : Prop := pairPartsRow.holds Tryd.pinned (OpenSpec.ofChange pairPartsWrong)

/-- 'siglumlaw10.PairRights': WHATEVER THE INPUT: true; the input reads as it did. -/
def pairRightsSpec : ChangeSpec := { name := "pairRights", fn := fun _ => fun
  | [d1, d2, d3] => { results := [.lit (.bool true)], args := [d1, d2, d3] }
  | _ => none }
def pairRightsRow : OpenClaim := { program := "ytcpbalnbgmjhjaadoor", sum := "8d743f2dcc1ab8c957c9b549505902e6b9d8c73400a586070ea281e05e73f4ab", func := "siglum/siglumlaw10.PairRights", spec := "pairRights", inPlace := ["internal/abi.NoEscape"], unfollowed := true, recurses := true, named := ["unicode/utf8.first", "unicode/utf8.acceptRanges", "strings.asciiSpace", "unicode.White_Space"], apart := false, laid := [("unicode/utf8.acceptRanges", laid_unicode_utf8_acceptRanges), ("unicode.White_Space", laid_unicode_White_Space), ("strings.asciiSpace", laid_strings_asciiSpace), ("unicode/utf8.first", laid_unicode_utf8_first)] }
def PairRightsSaid : Prop := pairRightsRow.holds Tryd.pinned (OpenSpec.ofChange pairRightsSpec)

/-- ITS FALSE NEIGHBOUR: 'it returns false'. Refute it at one input. -/
def pairRightsWrong : ChangeSpec := { name := "pairRights", fn := fun _ => fun
  | [d1, d2, d3] => { results := [.lit (.bool false)], args := [d1, d2, d3] }
  | _ => none }
def PairRightsWrongFalsely : Prop := pairRightsRow.holds Tryd.pinned (OpenSpec.ofChange pairRightsWrong)

/-- 'siglumlaw10.PairEven': WHATEVER THE INPUT: true; the input reads as it did. -/
def pairEvenSpec : ChangeSpec := { name := "pairEven", fn := fun _ => fun
  | [d1, d2, d3] => { results := [.lit (.bool true)], args := [d1, d2, d3] }
  | _ => none }
def pairEvenRow : OpenClaim := { program := "ytcpbalnbgmjhjaadoor", sum := "8d743f2dcc1ab8c957c9b549505902e6b9d8c73400a586070ea281e05e73f4ab", func := "siglum/siglumlaw10.PairEven", spec := "pairEven", inPlace := ["internal/abi.NoEscape"], unfollowed := true, recurses := true, named := ["unicode/utf8.first", "unicode/utf8.acceptRanges", "strings.asciiSpace", "unicode.White_Space"], apart := false, laid := [("unicode/utf8.acceptRanges", laid_unicode_utf8_acceptRanges), ("unicode.White_Space", laid_unicode_White_Space), ("strings.asciiSpace", laid_strings_asciiSpace), ("unicode/utf8.first", laid_unicode_utf8_first)] }
def PairEvenSaid : Prop := pairEvenRow.holds Tryd.pinned (OpenSpec.ofChange pairEvenSpec)

/-- ITS FALSE NEIGHBOUR: 'it returns false'. Refute it at one input. -/
def pairEvenWrong : ChangeSpec := { name := "pairEven", fn := fun _ => fun
  | [d1, d2, d3] => { results := [.lit (.bool false)], args := [d1, d2, d3] }
  | _ => none }
def PairEvenWrongFalsely : Prop := pairEvenRow.holds Tryd.pinned (OpenSpec.ofChange pairEvenWrong)

/-- 'siglumlaw10.PairPrices': WHATEVER THE INPUT: true; the input reads as it did. -/
def pairPricesSpec : ChangeSpec := { name := "pairPrices", fn := fun _ => fun
  | [d] => { results := [.lit (.bool true)], args := [d] }
  | _ => none }
def pairPricesRow : OpenClaim := { program := "ytcpbalnbgmjhjaadoor", sum := "8d743f2dcc1ab8c957c9b549505902e6b9d8c73400a586070ea281e05e73f4ab", func := "siglum/siglumlaw10.PairPrices", spec := "pairPrices", inPlace := ["internal/abi.NoEscape"], unfollowed := true, recurses := true, named := ["unicode/utf8.first", "unicode/utf8.acceptRanges", "strings.asciiSpace", "unicode.White_Space"], apart := false, laid := [("unicode/utf8.acceptRanges", laid_unicode_utf8_acceptRanges), ("unicode.White_Space", laid_unicode_White_Space), ("strings.asciiSpace", laid_strings_asciiSpace), ("unicode/utf8.first", laid_unicode_utf8_first)] }
def PairPricesSaid : Prop := pairPricesRow.holds Tryd.pinned (OpenSpec.ofChange pairPricesSpec)

/-- ITS FALSE NEIGHBOUR: 'it returns false'. Refute it at one input. -/
def pairPricesWrong : ChangeSpec := { name := "pairPrices", fn := fun _ => fun
  | [d] => { results := [.lit (.bool false)], args := [d] }
  | _ => none }
def PairPricesWrongFalsely : Prop := pairPricesRow.holds Tryd.pinned (OpenSpec.ofChange pairPricesWrong)

/-- 'siglumlaw10.PairLeast': WHATEVER THE INPUT: true; the input reads as it did. -/
def pairLeastSpec : ChangeSpec := { name := "pairLeast", fn := fun _ => fun
  | [d1, d2, d3] => { results := [.lit (.bool true)], args := [d1, d2, d3] }
  | _ => none }
def pairLeastRow : OpenClaim := { program := "ytcpbalnbgmjhjaadoor", sum := "8d743f2dcc1ab8c957c9b549505902e6b9d8c73400a586070ea281e05e73f4ab", func := "siglum/siglumlaw10.PairLeast", spec := "pairLeast", inPlace := ["internal/abi.NoEscape"], unfollowed := true, recurses := true, named := ["unicode/utf8.first", "unicode/utf8.acceptRanges", "strings.asciiSpace", "unicode.White_Space"], apart := false, laid := [("unicode/utf8.acceptRanges", laid_unicode_utf8_acceptRanges), ("unicode.White_Space", laid_unicode_White_Space), ("strings.asciiSpace", laid_strings_asciiSpace), ("unicode/utf8.first", laid_unicode_utf8_first)] }
def PairLeastSaid : Prop := pairLeastRow.holds Tryd.pinned (OpenSpec.ofChange pairLeastSpec)

/-- ITS FALSE NEIGHBOUR: 'it returns false'. Refute it at one input. -/
def pairLeastWrong : ChangeSpec := { name := "pairLeast", fn := fun _ => fun
  | [d1, d2, d3] => { results := [.lit (.bool false)], args := [d1, d2, d3] }
  | _ => none }
def PairLeastWrongFalsely : Prop := pairLeastRow.holds Tryd.pinned (OpenSpec.ofChange pairLeastWrong)

/- THE SECOND FORM. 'bulk': how many values and letters a reading holds, each counted each time it is reached (what is shared counts as often as it is met; a slice's spare places count too). A statement '..UptoSaid' is the law's where the arguments, and the package variables that the reading takes, are together of bulk at most 1048576: NARROWER than '..Said'. Prove '..Said' where nothing that the law and all that it calls make is longer than what came in: it says more and counts as full. Else prove '..UptoSaid'. A law counts once. -/
mutual
def uptoBulk {H : Type} : DataW H → Nat
  | .lit (.string bytes) => bytes.length + 1
  | .lit _ => 1
  | .nil => 1
  | .ptr d => uptoBulk d + 1
  | .slice elems spare => uptoBulkAll elems + uptoBulkAll spare + 1
  | .agg parts => uptoBulkAll parts + 1
  | .iface _ d => uptoBulk d + 1
  | .map entries => uptoBulkEntries entries + 1
  | .held _ => 1
def uptoBulkAll {H : Type} : List (DataW H) → Nat
  | [] => 0
  | d :: r => uptoBulk d + uptoBulkAll r
def uptoBulkEntries {H : Type} : List (Lit × DataW H) → Nat
  | [] => 0
  | x :: r => uptoBulkEntry x + uptoBulkEntries r
def uptoBulkEntry {H : Type} : Lit × DataW H → Nat
  | (.string bytes, d) => bytes.length + uptoBulk d + 1
  | (_, d) => uptoBulk d + 1
 end
def uptoSmall : (H : Type) → List (DataW H) → Bool := fun _ ds => decide (uptoBulkAll ds ≤ 1048576)
def OpenSpec.upto (s : _root_.Go.ChangeSpec) : _root_.Go.OpenSpec := { _root_.Go.OpenSpec.ofChange s with cond := some uptoSmall }

/-- 'siglumlaw09.CostWords', WHERE WHAT IT READS IS OF BULK AT MOST 1048576: true; the input reads as it did. -/
def costWordsUptoRow : OpenClaim := { program := "ytcpbalnbgmjhjaadoor", sum := "8d743f2dcc1ab8c957c9b549505902e6b9d8c73400a586070ea281e05e73f4ab", func := "siglum/siglumlaw09.CostWords", spec := "costWords", inPlace := ["internal/abi.NoEscape"], unfollowed := true, recurses := true, named := ["unicode/utf8.first", "unicode/utf8.acceptRanges", "strings.asciiSpace", "unicode.White_Space"], apart := false, laid := [("unicode/utf8.acceptRanges", laid_unicode_utf8_acceptRanges), ("unicode.White_Space", laid_unicode_White_Space), ("strings.asciiSpace", laid_strings_asciiSpace), ("unicode/utf8.first", laid_unicode_utf8_first)], narrowed := true }
def CostWordsUptoSaid : Prop := costWordsUptoRow.holds Tryd.pinned (OpenSpec.upto costWordsSpec)

/-- 'siglumlaw09.CostTriangle', WHERE WHAT IT READS IS OF BULK AT MOST 1048576: true; the input reads as it did. -/
def costTriangleUptoRow : OpenClaim := { program := "ytcpbalnbgmjhjaadoor", sum := "8d743f2dcc1ab8c957c9b549505902e6b9d8c73400a586070ea281e05e73f4ab", func := "siglum/siglumlaw09.CostTriangle", spec := "costTriangle", inPlace := ["internal/abi.NoEscape"], unfollowed := true, recurses := true, named := ["unicode/utf8.first", "unicode/utf8.acceptRanges", "strings.asciiSpace", "unicode.White_Space"], apart := false, laid := [("unicode/utf8.acceptRanges", laid_unicode_utf8_acceptRanges), ("unicode.White_Space", laid_unicode_White_Space), ("strings.asciiSpace", laid_strings_asciiSpace), ("unicode/utf8.first", laid_unicode_utf8_first)], narrowed := true }
def CostTriangleUptoSaid : Prop := costTriangleUptoRow.holds Tryd.pinned (OpenSpec.upto costTriangleSpec)

/-- 'siglumlaw09.CostEven', WHERE WHAT IT READS IS OF BULK AT MOST 1048576: true; the input reads as it did. -/
def costEvenUptoRow : OpenClaim := { program := "ytcpbalnbgmjhjaadoor", sum := "8d743f2dcc1ab8c957c9b549505902e6b9d8c73400a586070ea281e05e73f4ab", func := "siglum/siglumlaw09.CostEven", spec := "costEven", inPlace := ["internal/abi.NoEscape"], unfollowed := true, recurses := true, named := ["unicode/utf8.first", "unicode/utf8.acceptRanges", "strings.asciiSpace", "unicode.White_Space"], apart := false, laid := [("unicode/utf8.acceptRanges", laid_unicode_utf8_acceptRanges), ("unicode.White_Space", laid_unicode_White_Space), ("strings.asciiSpace", laid_strings_asciiSpace), ("unicode/utf8.first", laid_unicode_utf8_first)], narrowed := true }
def CostEvenUptoSaid : Prop := costEvenUptoRow.holds Tryd.pinned (OpenSpec.upto costEvenSpec)

/-- 'siglumlaw09.CostGrids', WHERE WHAT IT READS IS OF BULK AT MOST 1048576: true; the input reads as it did. -/
def costGridsUptoRow : OpenClaim := { program := "ytcpbalnbgmjhjaadoor", sum := "8d743f2dcc1ab8c957c9b549505902e6b9d8c73400a586070ea281e05e73f4ab", func := "siglum/siglumlaw09.CostGrids", spec := "costGrids", inPlace := ["internal/abi.NoEscape"], unfollowed := true, recurses := true, named := ["unicode/utf8.first", "unicode/utf8.acceptRanges", "strings.asciiSpace", "unicode.White_Space"], apart := false, laid := [("unicode/utf8.acceptRanges", laid_unicode_utf8_acceptRanges), ("unicode.White_Space", laid_unicode_White_Space), ("strings.asciiSpace", laid_strings_asciiSpace), ("unicode/utf8.first", laid_unicode_utf8_first)], narrowed := true }
def CostGridsUptoSaid : Prop := costGridsUptoRow.holds Tryd.pinned (OpenSpec.upto costGridsSpec)

/-- 'siglumlaw09.CostApart', WHERE WHAT IT READS IS OF BULK AT MOST 1048576: true; the input reads as it did. -/
def costApartUptoRow : OpenClaim := { program := "ytcpbalnbgmjhjaadoor", sum := "8d743f2dcc1ab8c957c9b549505902e6b9d8c73400a586070ea281e05e73f4ab", func := "siglum/siglumlaw09.CostApart", spec := "costApart", inPlace := ["internal/abi.NoEscape"], unfollowed := true, recurses := true, named := ["unicode/utf8.first", "unicode/utf8.acceptRanges", "strings.asciiSpace", "unicode.White_Space"], apart := false, laid := [("unicode/utf8.acceptRanges", laid_unicode_utf8_acceptRanges), ("unicode.White_Space", laid_unicode_White_Space), ("strings.asciiSpace", laid_strings_asciiSpace), ("unicode/utf8.first", laid_unicode_utf8_first)], narrowed := true }
def CostApartUptoSaid : Prop := costApartUptoRow.holds Tryd.pinned (OpenSpec.upto costApartSpec)

/-- 'siglumlaw09.CostFolded', WHERE WHAT IT READS IS OF BULK AT MOST 1048576: true; the input reads as it did. -/
def costFoldedUptoRow : OpenClaim := { program := "ytcpbalnbgmjhjaadoor", sum := "8d743f2dcc1ab8c957c9b549505902e6b9d8c73400a586070ea281e05e73f4ab", func := "siglum/siglumlaw09.CostFolded", spec := "costFolded", inPlace := ["internal/abi.NoEscape"], unfollowed := true, recurses := true, named := ["unicode/utf8.first", "unicode/utf8.acceptRanges", "strings.asciiSpace", "unicode.White_Space"], apart := false, laid := [("unicode/utf8.acceptRanges", laid_unicode_utf8_acceptRanges), ("unicode.White_Space", laid_unicode_White_Space), ("strings.asciiSpace", laid_strings_asciiSpace), ("unicode/utf8.first", laid_unicode_utf8_first)], narrowed := true }
def CostFoldedUptoSaid : Prop := costFoldedUptoRow.holds Tryd.pinned (OpenSpec.upto costFoldedSpec)

/-- 'siglumlaw10.PairAligns', WHERE WHAT IT READS IS OF BULK AT MOST 1048576: true; the input reads as it did. -/
def pairAlignsUptoRow : OpenClaim := { program := "ytcpbalnbgmjhjaadoor", sum := "8d743f2dcc1ab8c957c9b549505902e6b9d8c73400a586070ea281e05e73f4ab", func := "siglum/siglumlaw10.PairAligns", spec := "pairAligns", inPlace := ["internal/abi.NoEscape"], unfollowed := true, recurses := true, named := ["unicode/utf8.first", "unicode/utf8.acceptRanges", "strings.asciiSpace", "unicode.White_Space"], apart := false, laid := [("unicode/utf8.acceptRanges", laid_unicode_utf8_acceptRanges), ("unicode.White_Space", laid_unicode_White_Space), ("strings.asciiSpace", laid_strings_asciiSpace), ("unicode/utf8.first", laid_unicode_utf8_first)], narrowed := true }
def PairAlignsUptoSaid : Prop := pairAlignsUptoRow.holds Tryd.pinned (OpenSpec.upto pairAlignsSpec)

/-- 'siglumlaw10.PairParts', WHERE WHAT IT READS IS OF BULK AT MOST 1048576: true; the input reads as it did. -/
def pairPartsUptoRow : OpenClaim := { program := "ytcpbalnbgmjhjaadoor", sum := "8d743f2dcc1ab8c957c9b549505902e6b9d8c73400a586070ea281e05e73f4ab", func := "siglum/siglumlaw10.PairParts", spec := "pairParts", inPlace := ["internal/abi.NoEscape"], unfollowed := true, recurses := true, named := ["unicode/utf8.first", "unicode/utf8.acceptRanges", "strings.asciiSpace", "unicode.White_Space"], apart := false, laid := [("unicode/utf8.acceptRanges", laid_unicode_utf8_acceptRanges), ("unicode.White_Space", laid_unicode_White_Space), ("strings.asciiSpace", laid_strings_asciiSpace), ("unicode/utf8.first", laid_unicode_utf8_first)], narrowed := true }
def PairPartsUptoSaid : Prop := pairPartsUptoRow.holds Tryd.pinned (OpenSpec.upto pairPartsSpec)

/-- 'siglumlaw10.PairRights', WHERE WHAT IT READS IS OF BULK AT MOST 1048576: true; the input reads as it did. -/
def pairRightsUptoRow : OpenClaim := { program := "ytcpbalnbgmjhjaadoor", sum := "8d743f2dcc1ab8c957c9b549505902e6b9d8c73400a586070ea281e05e73f4ab", func := "siglum/siglumlaw10.PairRights", spec := "pairRights", inPlace := ["internal/abi.NoEscape"], unfollowed := true, recurses := true, named := ["unicode/utf8.first", "unicode/utf8.acceptRanges", "strings.asciiSpace", "unicode.White_Space"], apart := false, laid := [("unicode/utf8.acceptRanges", laid_unicode_utf8_acceptRanges), ("unicode.White_Space", laid_unicode_White_Space), ("strings.asciiSpace", laid_strings_asciiSpace), ("unicode/utf8.first", laid_unicode_utf8_first)], narrowed := true }
def PairRightsUptoSaid : Prop := pairRightsUptoRow.holds Tryd.pinned (OpenSpec.upto pairRightsSpec)

/-- 'siglumlaw10.PairEven', WHERE WHAT IT READS IS OF BULK AT MOST 1048576: true; the input reads as it did. -/
def pairEvenUptoRow : OpenClaim := { program := "ytcpbalnbgmjhjaadoor", sum := "8d743f2dcc1ab8c957c9b549505902e6b9d8c73400a586070ea281e05e73f4ab", func := "siglum/siglumlaw10.PairEven", spec := "pairEven", inPlace := ["internal/abi.NoEscape"], unfollowed := true, recurses := true, named := ["unicode/utf8.first", "unicode/utf8.acceptRanges", "strings.asciiSpace", "unicode.White_Space"], apart := false, laid := [("unicode/utf8.acceptRanges", laid_unicode_utf8_acceptRanges), ("unicode.White_Space", laid_unicode_White_Space), ("strings.asciiSpace", laid_strings_asciiSpace), ("unicode/utf8.first", laid_unicode_utf8_first)], narrowed := true }
def PairEvenUptoSaid : Prop := pairEvenUptoRow.holds Tryd.pinned (OpenSpec.upto pairEvenSpec)

/-- 'siglumlaw10.PairPrices', WHERE WHAT IT READS IS OF BULK AT MOST 1048576: true; the input reads as it did. -/
def pairPricesUptoRow : OpenClaim := { program := "ytcpbalnbgmjhjaadoor", sum := "8d743f2dcc1ab8c957c9b549505902e6b9d8c73400a586070ea281e05e73f4ab", func := "siglum/siglumlaw10.PairPrices", spec := "pairPrices", inPlace := ["internal/abi.NoEscape"], unfollowed := true, recurses := true, named := ["unicode/utf8.first", "unicode/utf8.acceptRanges", "strings.asciiSpace", "unicode.White_Space"], apart := false, laid := [("unicode/utf8.acceptRanges", laid_unicode_utf8_acceptRanges), ("unicode.White_Space", laid_unicode_White_Space), ("strings.asciiSpace", laid_strings_asciiSpace), ("unicode/utf8.first", laid_unicode_utf8_first)], narrowed := true }
def PairPricesUptoSaid : Prop := pairPricesUptoRow.holds Tryd.pinned (OpenSpec.upto pairPricesSpec)

/-- 'siglumlaw10.PairLeast', WHERE WHAT IT READS IS OF BULK AT MOST 1048576: true; the input reads as it did. -/
def pairLeastUptoRow : OpenClaim := { program := "ytcpbalnbgmjhjaadoor", sum := "8d743f2dcc1ab8c957c9b549505902e6b9d8c73400a586070ea281e05e73f4ab", func := "siglum/siglumlaw10.PairLeast", spec := "pairLeast", inPlace := ["internal/abi.NoEscape"], unfollowed := true, recurses := true, named := ["unicode/utf8.first", "unicode/utf8.acceptRanges", "strings.asciiSpace", "unicode.White_Space"], apart := false, laid := [("unicode/utf8.acceptRanges", laid_unicode_utf8_acceptRanges), ("unicode.White_Space", laid_unicode_White_Space), ("strings.asciiSpace", laid_strings_asciiSpace), ("unicode/utf8.first", laid_unicode_utf8_first)], narrowed := true }
def PairLeastUptoSaid : Prop := pairLeastUptoRow.holds Tryd.pinned (OpenSpec.upto pairLeastSpec)

end Rows
end Go.Proofs.YtcpbalnbgmjhjaaDoor
