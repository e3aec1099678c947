/-
  DERIVED. GIVEN WITH THE SEED: THE CARDS: each row of YtcpbalnbgmjhjaaDoorRows.lean that lists a variable, with what it lists TIED to the program's text (the seventh form; the later family's looks); each row that meets fmt, with fmt's text TOLD by the authors' own Lean function (tested against real Go, not proved from fmt's source: count such statements apart). THE CARD IS WHAT COUNTS. Prove the row's statement (the work); the ties are given (YtcpbalnbgmjhjaaDoorTie.lean); close each card by the builder's one call (the guide's Derived/Test/ToyasCard.lean, 'card_holds'). Laid BY PROGRAM, IN A SANDBOX (cutbox-door.mjs). By AI agents, Wed Nov 11 2026. No macro, syntax, notation, axiom, sorry.
-/
import Derived.Test.YtcpbalnbgmjhjaaDoorRows
import GoSem.ClaimSeven
namespace Go.Proofs.YtcpbalnbgmjhjaaDoor
namespace Rows

/-- THE TIED CARD OF 'siglumlaw09.CostWords'. -/
def costWordsCard : Claim7 := { stood := { row := costWordsRow, standIns := [], harness := (true, "d28ada7feb0175b5709a46ffff8f237b11f82084d8ba0be662843a579ceb8e9d"), looks := false }, kinds := [], alts := [], laidByText := true, laidKinds := [.data, .listed, .data, .pinned], laidTests := true, laidLooks := .later }
def CostWordsCardSaid : Prop := Claim7.holds Tryd.pinned (.plain (OpenSpec.ofChange costWordsSpec)) costWordsCard

/-- THE TIED CARD OF 'siglumlaw09.CostTriangle'. -/
def costTriangleCard : Claim7 := { stood := { row := costTriangleRow, standIns := [], harness := (true, "d28ada7feb0175b5709a46ffff8f237b11f82084d8ba0be662843a579ceb8e9d"), looks := false }, kinds := [], alts := [], laidByText := true, laidKinds := [.data, .listed, .data, .pinned], laidTests := true, laidLooks := .later }
def CostTriangleCardSaid : Prop := Claim7.holds Tryd.pinned (.plain (OpenSpec.ofChange costTriangleSpec)) costTriangleCard

/-- THE TIED CARD OF 'siglumlaw09.CostEven'. -/
def costEvenCard : Claim7 := { stood := { row := costEvenRow, standIns := [], harness := (true, "d28ada7feb0175b5709a46ffff8f237b11f82084d8ba0be662843a579ceb8e9d"), looks := false }, kinds := [], alts := [], laidByText := true, laidKinds := [.data, .listed, .data, .pinned], laidTests := true, laidLooks := .later }
def CostEvenCardSaid : Prop := Claim7.holds Tryd.pinned (.plain (OpenSpec.ofChange costEvenSpec)) costEvenCard

/-- THE TIED CARD OF 'siglumlaw09.CostGrids'. -/
def costGridsCard : Claim7 := { stood := { row := costGridsRow, standIns := [], harness := (true, "d28ada7feb0175b5709a46ffff8f237b11f82084d8ba0be662843a579ceb8e9d"), looks := false }, kinds := [], alts := [], laidByText := true, laidKinds := [.data, .listed, .data, .pinned], laidTests := true, laidLooks := .later }
def CostGridsCardSaid : Prop := Claim7.holds Tryd.pinned (.plain (OpenSpec.ofChange costGridsSpec)) costGridsCard

/-- THE TIED CARD OF 'siglumlaw09.CostApart'. -/
def costApartCard : Claim7 := { stood := { row := costApartRow, standIns := [], harness := (true, "d28ada7feb0175b5709a46ffff8f237b11f82084d8ba0be662843a579ceb8e9d"), looks := false }, kinds := [], alts := [], laidByText := true, laidKinds := [.data, .listed, .data, .pinned], laidTests := true, laidLooks := .later }
def CostApartCardSaid : Prop := Claim7.holds Tryd.pinned (.plain (OpenSpec.ofChange costApartSpec)) costApartCard

/-- THE TIED CARD OF 'siglumlaw09.CostFolded'. -/
def costFoldedCard : Claim7 := { stood := { row := costFoldedRow, standIns := [], harness := (true, "d28ada7feb0175b5709a46ffff8f237b11f82084d8ba0be662843a579ceb8e9d"), looks := false }, kinds := [], alts := [], laidByText := true, laidKinds := [.data, .listed, .data, .pinned], laidTests := true, laidLooks := .later }
def CostFoldedCardSaid : Prop := Claim7.holds Tryd.pinned (.plain (OpenSpec.ofChange costFoldedSpec)) costFoldedCard

/-- THE TIED CARD OF 'siglumlaw10.PairAligns'. -/
def pairAlignsCard : Claim7 := { stood := { row := pairAlignsRow, standIns := [], harness := (true, "d28ada7feb0175b5709a46ffff8f237b11f82084d8ba0be662843a579ceb8e9d"), looks := false }, kinds := [], alts := [], laidByText := true, laidKinds := [.data, .listed, .data, .pinned], laidTests := true, laidLooks := .later }
def PairAlignsCardSaid : Prop := Claim7.holds Tryd.pinned (.plain (OpenSpec.ofChange pairAlignsSpec)) pairAlignsCard

/-- THE TIED CARD OF 'siglumlaw10.PairParts'. -/
def pairPartsCard : Claim7 := { stood := { row := pairPartsRow, standIns := [], harness := (true, "d28ada7feb0175b5709a46ffff8f237b11f82084d8ba0be662843a579ceb8e9d"), looks := false }, kinds := [], alts := [], laidByText := true, laidKinds := [.data, .listed, .data, .pinned], laidTests := true, laidLooks := .later }
def PairPartsCardSaid : Prop := Claim7.holds Tryd.pinned (.plain (OpenSpec.ofChange pairPartsSpec)) pairPartsCard

/-- THE TIED CARD OF 'siglumlaw10.PairRights'. -/
def pairRightsCard : Claim7 := { stood := { row := pairRightsRow, standIns := [], harness := (true, "d28ada7feb0175b5709a46ffff8f237b11f82084d8ba0be662843a579ceb8e9d"), looks := false }, kinds := [], alts := [], laidByText := true, laidKinds := [.data, .listed, .data, .pinned], laidTests := true, laidLooks := .later }
def PairRightsCardSaid : Prop := Claim7.holds Tryd.pinned (.plain (OpenSpec.ofChange pairRightsSpec)) pairRightsCard

/-- THE TIED CARD OF 'siglumlaw10.PairEven'. -/
def pairEvenCard : Claim7 := { stood := { row := pairEvenRow, standIns := [], harness := (true, "d28ada7feb0175b5709a46ffff8f237b11f82084d8ba0be662843a579ceb8e9d"), looks := false }, kinds := [], alts := [], laidByText := true, laidKinds := [.data, .listed, .data, .pinned], laidTests := true, laidLooks := .later }
def PairEvenCardSaid : Prop := Claim7.holds Tryd.pinned (.plain (OpenSpec.ofChange pairEvenSpec)) pairEvenCard

/-- THE TIED CARD OF 'siglumlaw10.PairPrices'. -/
def pairPricesCard : Claim7 := { stood := { row := pairPricesRow, standIns := [], harness := (true, "d28ada7feb0175b5709a46ffff8f237b11f82084d8ba0be662843a579ceb8e9d"), looks := false }, kinds := [], alts := [], laidByText := true, laidKinds := [.data, .listed, .data, .pinned], laidTests := true, laidLooks := .later }
def PairPricesCardSaid : Prop := Claim7.holds Tryd.pinned (.plain (OpenSpec.ofChange pairPricesSpec)) pairPricesCard

/-- THE TIED CARD OF 'siglumlaw10.PairLeast'. -/
def pairLeastCard : Claim7 := { stood := { row := pairLeastRow, standIns := [], harness := (true, "d28ada7feb0175b5709a46ffff8f237b11f82084d8ba0be662843a579ceb8e9d"), looks := false }, kinds := [], alts := [], laidByText := true, laidKinds := [.data, .listed, .data, .pinned], laidTests := true, laidLooks := .later }
def PairLeastCardSaid : Prop := Claim7.holds Tryd.pinned (.plain (OpenSpec.ofChange pairLeastSpec)) pairLeastCard

/-- THE SECOND FORM's CARD OF 'siglumlaw09.CostWords'. -/
def costWordsUptoCard : Claim7 := { stood := { row := costWordsUptoRow, standIns := [], harness := (true, "d28ada7feb0175b5709a46ffff8f237b11f82084d8ba0be662843a579ceb8e9d"), looks := false }, kinds := [], alts := [], laidByText := true, laidKinds := [.data, .listed, .data, .pinned], laidTests := true, laidLooks := .later }
def CostWordsUptoCardSaid : Prop := Claim7.holds Tryd.pinned (.plain (OpenSpec.upto costWordsSpec)) costWordsUptoCard

/-- THE SECOND FORM's CARD OF 'siglumlaw09.CostTriangle'. -/
def costTriangleUptoCard : Claim7 := { stood := { row := costTriangleUptoRow, standIns := [], harness := (true, "d28ada7feb0175b5709a46ffff8f237b11f82084d8ba0be662843a579ceb8e9d"), looks := false }, kinds := [], alts := [], laidByText := true, laidKinds := [.data, .listed, .data, .pinned], laidTests := true, laidLooks := .later }
def CostTriangleUptoCardSaid : Prop := Claim7.holds Tryd.pinned (.plain (OpenSpec.upto costTriangleSpec)) costTriangleUptoCard

/-- THE SECOND FORM's CARD OF 'siglumlaw09.CostEven'. -/
def costEvenUptoCard : Claim7 := { stood := { row := costEvenUptoRow, standIns := [], harness := (true, "d28ada7feb0175b5709a46ffff8f237b11f82084d8ba0be662843a579ceb8e9d"), looks := false }, kinds := [], alts := [], laidByText := true, laidKinds := [.data, .listed, .data, .pinned], laidTests := true, laidLooks := .later }
def CostEvenUptoCardSaid : Prop := Claim7.holds Tryd.pinned (.plain (OpenSpec.upto costEvenSpec)) costEvenUptoCard

/-- THE SECOND FORM's CARD OF 'siglumlaw09.CostGrids'. -/
def costGridsUptoCard : Claim7 := { stood := { row := costGridsUptoRow, standIns := [], harness := (true, "d28ada7feb0175b5709a46ffff8f237b11f82084d8ba0be662843a579ceb8e9d"), looks := false }, kinds := [], alts := [], laidByText := true, laidKinds := [.data, .listed, .data, .pinned], laidTests := true, laidLooks := .later }
def CostGridsUptoCardSaid : Prop := Claim7.holds Tryd.pinned (.plain (OpenSpec.upto costGridsSpec)) costGridsUptoCard

/-- THE SECOND FORM's CARD OF 'siglumlaw09.CostApart'. -/
def costApartUptoCard : Claim7 := { stood := { row := costApartUptoRow, standIns := [], harness := (true, "d28ada7feb0175b5709a46ffff8f237b11f82084d8ba0be662843a579ceb8e9d"), looks := false }, kinds := [], alts := [], laidByText := true, laidKinds := [.data, .listed, .data, .pinned], laidTests := true, laidLooks := .later }
def CostApartUptoCardSaid : Prop := Claim7.holds Tryd.pinned (.plain (OpenSpec.upto costApartSpec)) costApartUptoCard

/-- THE SECOND FORM's CARD OF 'siglumlaw09.CostFolded'. -/
def costFoldedUptoCard : Claim7 := { stood := { row := costFoldedUptoRow, standIns := [], harness := (true, "d28ada7feb0175b5709a46ffff8f237b11f82084d8ba0be662843a579ceb8e9d"), looks := false }, kinds := [], alts := [], laidByText := true, laidKinds := [.data, .listed, .data, .pinned], laidTests := true, laidLooks := .later }
def CostFoldedUptoCardSaid : Prop := Claim7.holds Tryd.pinned (.plain (OpenSpec.upto costFoldedSpec)) costFoldedUptoCard

/-- THE SECOND FORM's CARD OF 'siglumlaw10.PairAligns'. -/
def pairAlignsUptoCard : Claim7 := { stood := { row := pairAlignsUptoRow, standIns := [], harness := (true, "d28ada7feb0175b5709a46ffff8f237b11f82084d8ba0be662843a579ceb8e9d"), looks := false }, kinds := [], alts := [], laidByText := true, laidKinds := [.data, .listed, .data, .pinned], laidTests := true, laidLooks := .later }
def PairAlignsUptoCardSaid : Prop := Claim7.holds Tryd.pinned (.plain (OpenSpec.upto pairAlignsSpec)) pairAlignsUptoCard

/-- THE SECOND FORM's CARD OF 'siglumlaw10.PairParts'. -/
def pairPartsUptoCard : Claim7 := { stood := { row := pairPartsUptoRow, standIns := [], harness := (true, "d28ada7feb0175b5709a46ffff8f237b11f82084d8ba0be662843a579ceb8e9d"), looks := false }, kinds := [], alts := [], laidByText := true, laidKinds := [.data, .listed, .data, .pinned], laidTests := true, laidLooks := .later }
def PairPartsUptoCardSaid : Prop := Claim7.holds Tryd.pinned (.plain (OpenSpec.upto pairPartsSpec)) pairPartsUptoCard

/-- THE SECOND FORM's CARD OF 'siglumlaw10.PairRights'. -/
def pairRightsUptoCard : Claim7 := { stood := { row := pairRightsUptoRow, standIns := [], harness := (true, "d28ada7feb0175b5709a46ffff8f237b11f82084d8ba0be662843a579ceb8e9d"), looks := false }, kinds := [], alts := [], laidByText := true, laidKinds := [.data, .listed, .data, .pinned], laidTests := true, laidLooks := .later }
def PairRightsUptoCardSaid : Prop := Claim7.holds Tryd.pinned (.plain (OpenSpec.upto pairRightsSpec)) pairRightsUptoCard

/-- THE SECOND FORM's CARD OF 'siglumlaw10.PairEven'. -/
def pairEvenUptoCard : Claim7 := { stood := { row := pairEvenUptoRow, standIns := [], harness := (true, "d28ada7feb0175b5709a46ffff8f237b11f82084d8ba0be662843a579ceb8e9d"), looks := false }, kinds := [], alts := [], laidByText := true, laidKinds := [.data, .listed, .data, .pinned], laidTests := true, laidLooks := .later }
def PairEvenUptoCardSaid : Prop := Claim7.holds Tryd.pinned (.plain (OpenSpec.upto pairEvenSpec)) pairEvenUptoCard

/-- THE SECOND FORM's CARD OF 'siglumlaw10.PairPrices'. -/
def pairPricesUptoCard : Claim7 := { stood := { row := pairPricesUptoRow, standIns := [], harness := (true, "d28ada7feb0175b5709a46ffff8f237b11f82084d8ba0be662843a579ceb8e9d"), looks := false }, kinds := [], alts := [], laidByText := true, laidKinds := [.data, .listed, .data, .pinned], laidTests := true, laidLooks := .later }
def PairPricesUptoCardSaid : Prop := Claim7.holds Tryd.pinned (.plain (OpenSpec.upto pairPricesSpec)) pairPricesUptoCard

/-- THE SECOND FORM's CARD OF 'siglumlaw10.PairLeast'. -/
def pairLeastUptoCard : Claim7 := { stood := { row := pairLeastUptoRow, standIns := [], harness := (true, "d28ada7feb0175b5709a46ffff8f237b11f82084d8ba0be662843a579ceb8e9d"), looks := false }, kinds := [], alts := [], laidByText := true, laidKinds := [.data, .listed, .data, .pinned], laidTests := true, laidLooks := .later }
def PairLeastUptoCardSaid : Prop := Claim7.holds Tryd.pinned (.plain (OpenSpec.upto pairLeastSpec)) pairLeastUptoCard
end Rows
end Go.Proofs.YtcpbalnbgmjhjaaDoor
