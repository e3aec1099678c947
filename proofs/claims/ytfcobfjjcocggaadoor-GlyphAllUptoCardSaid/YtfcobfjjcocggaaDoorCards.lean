/-
  DERIVED. GIVEN WITH THE SEED: THE CARDS: each row of YtfcobfjjcocggaaDoorRows.lean that lists a variable, with what it lists TIED to the program's text (the seventh form; the later family's looks); each row that meets fmt, with fmt's text TOLD by the authors' own Lean function (tested against real Go, not proved from fmt's source: count such statements apart). THE CARD IS WHAT COUNTS. Prove the row's statement (the work); the ties are given (YtfcobfjjcocggaaDoorTie.lean); close each card by the builder's one call (the guide's Derived/Test/ToyasCard.lean, 'card_holds'). Laid BY PROGRAM, IN A SANDBOX (cutbox-door.mjs). By AI agents, Wed Nov 11 2026. No macro, syntax, notation, axiom, sorry.
-/
import Derived.Test.YtfcobfjjcocggaaDoorRows
import GoSem.ClaimSeven
namespace Go.Proofs.YtfcobfjjcocggaaDoor
namespace Rows

/-- THE TIED CARD OF 'siglumlaw01.GlyphTexts'. -/
def glyphTextsCard : Claim7 := { stood := { row := glyphTextsRow, standIns := [], harness := (true, "acf0c8dff9cb16009e60e457e73a032b3e76d02dbedd32b4083f066f4cff34d4"), looks := false }, kinds := [], alts := [], laidByText := true, laidKinds := [.data, .pinned], laidTests := true, laidLooks := .later }
def GlyphTextsCardSaid : Prop := Claim7.holds Tryd.pinned (.plain (OpenSpec.ofChange glyphTextsSpec)) glyphTextsCard

/-- THE TIED CARD OF 'siglumlaw01.GlyphRunes'. -/
def glyphRunesCard : Claim7 := { stood := { row := glyphRunesRow, standIns := [], harness := (true, "acf0c8dff9cb16009e60e457e73a032b3e76d02dbedd32b4083f066f4cff34d4"), looks := false }, kinds := [], alts := [], laidByText := true, laidKinds := [.data, .pinned], laidTests := true, laidLooks := .later }
def GlyphRunesCardSaid : Prop := Claim7.holds Tryd.pinned (.plain (OpenSpec.ofChange glyphRunesSpec)) glyphRunesCard

/-- THE TIED CARD OF 'siglumlaw01.GlyphJoins'. -/
def glyphJoinsCard : Claim7 := { stood := { row := glyphJoinsRow, standIns := [], harness := (true, "acf0c8dff9cb16009e60e457e73a032b3e76d02dbedd32b4083f066f4cff34d4"), looks := false }, kinds := [], alts := [], laidByText := true, laidKinds := [.data, .pinned], laidTests := true, laidLooks := .later }
def GlyphJoinsCardSaid : Prop := Claim7.holds Tryd.pinned (.plain (OpenSpec.ofChange glyphJoinsSpec)) glyphJoinsCard

/-- THE TIED CARD OF 'siglumlaw01.GlyphAll'. -/
def glyphAllCard : Claim7 := { stood := { row := glyphAllRow, standIns := [], harness := (true, "acf0c8dff9cb16009e60e457e73a032b3e76d02dbedd32b4083f066f4cff34d4"), looks := false }, kinds := [], alts := [], laidByText := true, laidKinds := [.data, .pinned], laidTests := true, laidLooks := .later }
def GlyphAllCardSaid : Prop := Claim7.holds Tryd.pinned (.plain (OpenSpec.ofChange glyphAllSpec)) glyphAllCard

/-- THE TIED CARD OF 'siglumlaw02.KindRuns'. -/
def kindRunsCard : Claim7 := { stood := { row := kindRunsRow, standIns := [], harness := (true, "acf0c8dff9cb16009e60e457e73a032b3e76d02dbedd32b4083f066f4cff34d4"), looks := false }, kinds := [], alts := [], laidByText := true, laidKinds := [.data, .pinned], laidTests := true, laidLooks := .later }
def KindRunsCardSaid : Prop := Claim7.holds Tryd.pinned (.plain (OpenSpec.ofChange kindRunsSpec)) kindRunsCard

/-- THE TIED CARD OF 'siglumlaw02.KindParts'. -/
def kindPartsCard : Claim7 := { stood := { row := kindPartsRow, standIns := [], harness := (true, "acf0c8dff9cb16009e60e457e73a032b3e76d02dbedd32b4083f066f4cff34d4"), looks := false }, kinds := [], alts := [], laidByText := true, laidKinds := [.data, .pinned], laidTests := true, laidLooks := .later }
def KindPartsCardSaid : Prop := Claim7.holds Tryd.pinned (.plain (OpenSpec.ofChange kindPartsSpec)) kindPartsCard

/-- THE TIED CARD OF 'siglumlaw01.GlyphHalves'. -/
def glyphHalvesCard : Claim7 := { stood := { row := glyphHalvesRow, standIns := [], harness := (true, "acf0c8dff9cb16009e60e457e73a032b3e76d02dbedd32b4083f066f4cff34d4"), looks := false }, kinds := [], alts := [], laidByText := true, laidKinds := [.data, .pinned], laidTests := true, laidLooks := .later }
def GlyphHalvesCardSaid : Prop := Claim7.holds Tryd.pinned (.plain (OpenSpec.ofChange glyphHalvesSpec)) glyphHalvesCard

/-- THE TIED CARD OF 'siglumlaw01.GlyphWhole'. -/
def glyphWholeCard : Claim7 := { stood := { row := glyphWholeRow, standIns := [], harness := (true, "acf0c8dff9cb16009e60e457e73a032b3e76d02dbedd32b4083f066f4cff34d4"), looks := false }, kinds := [], alts := [], laidByText := true, laidKinds := [.data, .pinned], laidTests := true, laidLooks := .later }
def GlyphWholeCardSaid : Prop := Claim7.holds Tryd.pinned (.plain (OpenSpec.ofChange glyphWholeSpec)) glyphWholeCard

/-- THE TIED CARD OF 'siglumlaw01.GlyphCuts'. -/
def glyphCutsCard : Claim7 := { stood := { row := glyphCutsRow, standIns := [], harness := (true, "acf0c8dff9cb16009e60e457e73a032b3e76d02dbedd32b4083f066f4cff34d4"), looks := false }, kinds := [], alts := [], laidByText := true, laidKinds := [.data, .pinned], laidTests := true, laidLooks := .later }
def GlyphCutsCardSaid : Prop := Claim7.holds Tryd.pinned (.plain (OpenSpec.ofChange glyphCutsSpec)) glyphCutsCard

/-- THE TIED CARD OF 'siglumlaw01.GlyphCells'. -/
def glyphCellsCard : Claim7 := { stood := { row := glyphCellsRow, standIns := [], harness := (true, "acf0c8dff9cb16009e60e457e73a032b3e76d02dbedd32b4083f066f4cff34d4"), looks := false }, kinds := [], alts := [], laidByText := true, laidKinds := [.data, .pinned], laidTests := true, laidLooks := .later }
def GlyphCellsCardSaid : Prop := Claim7.holds Tryd.pinned (.plain (OpenSpec.ofChange glyphCellsSpec)) glyphCellsCard

/-- THE SECOND FORM's CARD OF 'siglumlaw01.GlyphTexts'. -/
def glyphTextsUptoCard : Claim7 := { stood := { row := glyphTextsUptoRow, standIns := [], harness := (true, "acf0c8dff9cb16009e60e457e73a032b3e76d02dbedd32b4083f066f4cff34d4"), looks := false }, kinds := [], alts := [], laidByText := true, laidKinds := [.data, .pinned], laidTests := true, laidLooks := .later }
def GlyphTextsUptoCardSaid : Prop := Claim7.holds Tryd.pinned (.plain (OpenSpec.upto glyphTextsSpec)) glyphTextsUptoCard

/-- THE SECOND FORM's CARD OF 'siglumlaw01.GlyphRunes'. -/
def glyphRunesUptoCard : Claim7 := { stood := { row := glyphRunesUptoRow, standIns := [], harness := (true, "acf0c8dff9cb16009e60e457e73a032b3e76d02dbedd32b4083f066f4cff34d4"), looks := false }, kinds := [], alts := [], laidByText := true, laidKinds := [.data, .pinned], laidTests := true, laidLooks := .later }
def GlyphRunesUptoCardSaid : Prop := Claim7.holds Tryd.pinned (.plain (OpenSpec.upto glyphRunesSpec)) glyphRunesUptoCard

/-- THE SECOND FORM's CARD OF 'siglumlaw01.GlyphJoins'. -/
def glyphJoinsUptoCard : Claim7 := { stood := { row := glyphJoinsUptoRow, standIns := [], harness := (true, "acf0c8dff9cb16009e60e457e73a032b3e76d02dbedd32b4083f066f4cff34d4"), looks := false }, kinds := [], alts := [], laidByText := true, laidKinds := [.data, .pinned], laidTests := true, laidLooks := .later }
def GlyphJoinsUptoCardSaid : Prop := Claim7.holds Tryd.pinned (.plain (OpenSpec.upto glyphJoinsSpec)) glyphJoinsUptoCard

/-- THE SECOND FORM's CARD OF 'siglumlaw01.GlyphAll'. -/
def glyphAllUptoCard : Claim7 := { stood := { row := glyphAllUptoRow, standIns := [], harness := (true, "acf0c8dff9cb16009e60e457e73a032b3e76d02dbedd32b4083f066f4cff34d4"), looks := false }, kinds := [], alts := [], laidByText := true, laidKinds := [.data, .pinned], laidTests := true, laidLooks := .later }
def GlyphAllUptoCardSaid : Prop := Claim7.holds Tryd.pinned (.plain (OpenSpec.upto glyphAllSpec)) glyphAllUptoCard

/-- THE SECOND FORM's CARD OF 'siglumlaw02.KindRuns'. -/
def kindRunsUptoCard : Claim7 := { stood := { row := kindRunsUptoRow, standIns := [], harness := (true, "acf0c8dff9cb16009e60e457e73a032b3e76d02dbedd32b4083f066f4cff34d4"), looks := false }, kinds := [], alts := [], laidByText := true, laidKinds := [.data, .pinned], laidTests := true, laidLooks := .later }
def KindRunsUptoCardSaid : Prop := Claim7.holds Tryd.pinned (.plain (OpenSpec.upto kindRunsSpec)) kindRunsUptoCard

/-- THE SECOND FORM's CARD OF 'siglumlaw02.KindParts'. -/
def kindPartsUptoCard : Claim7 := { stood := { row := kindPartsUptoRow, standIns := [], harness := (true, "acf0c8dff9cb16009e60e457e73a032b3e76d02dbedd32b4083f066f4cff34d4"), looks := false }, kinds := [], alts := [], laidByText := true, laidKinds := [.data, .pinned], laidTests := true, laidLooks := .later }
def KindPartsUptoCardSaid : Prop := Claim7.holds Tryd.pinned (.plain (OpenSpec.upto kindPartsSpec)) kindPartsUptoCard

/-- THE SECOND FORM's CARD OF 'siglumlaw01.GlyphHalves'. -/
def glyphHalvesUptoCard : Claim7 := { stood := { row := glyphHalvesUptoRow, standIns := [], harness := (true, "acf0c8dff9cb16009e60e457e73a032b3e76d02dbedd32b4083f066f4cff34d4"), looks := false }, kinds := [], alts := [], laidByText := true, laidKinds := [.data, .pinned], laidTests := true, laidLooks := .later }
def GlyphHalvesUptoCardSaid : Prop := Claim7.holds Tryd.pinned (.plain (OpenSpec.upto glyphHalvesSpec)) glyphHalvesUptoCard

/-- THE SECOND FORM's CARD OF 'siglumlaw01.GlyphWhole'. -/
def glyphWholeUptoCard : Claim7 := { stood := { row := glyphWholeUptoRow, standIns := [], harness := (true, "acf0c8dff9cb16009e60e457e73a032b3e76d02dbedd32b4083f066f4cff34d4"), looks := false }, kinds := [], alts := [], laidByText := true, laidKinds := [.data, .pinned], laidTests := true, laidLooks := .later }
def GlyphWholeUptoCardSaid : Prop := Claim7.holds Tryd.pinned (.plain (OpenSpec.upto glyphWholeSpec)) glyphWholeUptoCard

/-- THE SECOND FORM's CARD OF 'siglumlaw01.GlyphCuts'. -/
def glyphCutsUptoCard : Claim7 := { stood := { row := glyphCutsUptoRow, standIns := [], harness := (true, "acf0c8dff9cb16009e60e457e73a032b3e76d02dbedd32b4083f066f4cff34d4"), looks := false }, kinds := [], alts := [], laidByText := true, laidKinds := [.data, .pinned], laidTests := true, laidLooks := .later }
def GlyphCutsUptoCardSaid : Prop := Claim7.holds Tryd.pinned (.plain (OpenSpec.upto glyphCutsSpec)) glyphCutsUptoCard

/-- THE SECOND FORM's CARD OF 'siglumlaw01.GlyphCells'. -/
def glyphCellsUptoCard : Claim7 := { stood := { row := glyphCellsUptoRow, standIns := [], harness := (true, "acf0c8dff9cb16009e60e457e73a032b3e76d02dbedd32b4083f066f4cff34d4"), looks := false }, kinds := [], alts := [], laidByText := true, laidKinds := [.data, .pinned], laidTests := true, laidLooks := .later }
def GlyphCellsUptoCardSaid : Prop := Claim7.holds Tryd.pinned (.plain (OpenSpec.upto glyphCellsSpec)) glyphCellsUptoCard
end Rows
end Go.Proofs.YtfcobfjjcocggaaDoor
