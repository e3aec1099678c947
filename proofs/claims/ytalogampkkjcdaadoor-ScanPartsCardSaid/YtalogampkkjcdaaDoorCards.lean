/-
  DERIVED. GIVEN WITH THE SEED: THE CARDS: each row of YtalogampkkjcdaaDoorRows.lean that lists a variable, with what it lists TIED to the program's text (the seventh form; the later family's looks); each row that meets fmt, with fmt's text TOLD by the authors' own Lean function (tested against real Go, not proved from fmt's source: count such statements apart). THE CARD IS WHAT COUNTS. Prove the row's statement (the work); the ties are given (YtalogampkkjcdaaDoorTie.lean); close each card by the builder's one call (the guide's Derived/Test/ToyasCard.lean, 'card_holds'). Laid BY PROGRAM, IN A SANDBOX (cutbox-door.mjs). By AI agents, Wed Nov 11 2026. No macro, syntax, notation, axiom, sorry.
-/
import Derived.Test.YtalogampkkjcdaaDoorRows
import GoSem.ClaimSeven
namespace Go.Proofs.YtalogampkkjcdaaDoor
namespace Rows

/-- THE TIED CARD OF 'siglumlaw08.DistPaths'. -/
def distPathsCard : Claim7 := { stood := { row := distPathsRow, standIns := [], harness := (true, "6b72303474c1a6419be493b8502d27b476579e3519ede41d8d0057ffe57168c6"), looks := false }, kinds := [], alts := [], laidByText := true, laidKinds := [.data, .pinned], laidTests := true, laidLooks := .later }
def DistPathsCardSaid : Prop := Claim7.holds Tryd.pinned (.plain (OpenSpec.ofChange distPathsSpec)) distPathsCard

/-- THE TIED CARD OF 'siglumlaw08.DistMetric'. -/
def distMetricCard : Claim7 := { stood := { row := distMetricRow, standIns := [], harness := (true, "6b72303474c1a6419be493b8502d27b476579e3519ede41d8d0057ffe57168c6"), looks := false }, kinds := [], alts := [], laidByText := true, laidKinds := [.data, .pinned], laidTests := true, laidLooks := .later }
def DistMetricCardSaid : Prop := Claim7.holds Tryd.pinned (.plain (OpenSpec.ofChange distMetricSpec)) distMetricCard

/-- THE TIED CARD OF 'siglumlaw08.DistLeast'. -/
def distLeastCard : Claim7 := { stood := { row := distLeastRow, standIns := [], harness := (true, "6b72303474c1a6419be493b8502d27b476579e3519ede41d8d0057ffe57168c6"), looks := false }, kinds := [], alts := [], laidByText := true, laidKinds := [.data, .pinned], laidTests := true, laidLooks := .later }
def DistLeastCardSaid : Prop := Claim7.holds Tryd.pinned (.plain (OpenSpec.ofChange distLeastSpec)) distLeastCard

/-- THE TIED CARD OF 'siglumlaw08.DistBounds'. -/
def distBoundsCard : Claim7 := { stood := { row := distBoundsRow, standIns := [], harness := (true, "6b72303474c1a6419be493b8502d27b476579e3519ede41d8d0057ffe57168c6"), looks := false }, kinds := [], alts := [], laidByText := true, laidKinds := [.data, .pinned], laidTests := true, laidLooks := .later }
def DistBoundsCardSaid : Prop := Claim7.holds Tryd.pinned (.plain (OpenSpec.ofChange distBoundsSpec)) distBoundsCard

/-- THE TIED CARD OF 'siglumlaw08.DistOf'. -/
def distOfCard : Claim7 := { stood := { row := distOfRow, standIns := [], harness := (true, "6b72303474c1a6419be493b8502d27b476579e3519ede41d8d0057ffe57168c6"), looks := false }, kinds := [], alts := [], laidByText := true, laidKinds := [.data, .pinned], laidTests := true, laidLooks := .later }
def DistOfCardSaid : Prop := Claim7.holds Tryd.pinned (.plain (OpenSpec.ofChange distOfSpec)) distOfCard

/-- THE TIED CARD OF 'siglumlaw04.ScanTokens'. -/
def scanTokensCard : Claim7 := { stood := { row := scanTokensRow, standIns := [], harness := (true, "6b72303474c1a6419be493b8502d27b476579e3519ede41d8d0057ffe57168c6"), looks := false }, kinds := [], alts := [], laidByText := true, laidKinds := [.data, .pinned], laidTests := true, laidLooks := .later }
def ScanTokensCardSaid : Prop := Claim7.holds Tryd.pinned (.plain (OpenSpec.ofChange scanTokensSpec)) scanTokensCard

/-- THE TIED CARD OF 'siglumlaw04.ScanJoins'. -/
def scanJoinsCard : Claim7 := { stood := { row := scanJoinsRow, standIns := [], harness := (true, "6b72303474c1a6419be493b8502d27b476579e3519ede41d8d0057ffe57168c6"), looks := false }, kinds := [], alts := [], laidByText := true, laidKinds := [.data, .pinned], laidTests := true, laidLooks := .later }
def ScanJoinsCardSaid : Prop := Claim7.holds Tryd.pinned (.plain (OpenSpec.ofChange scanJoinsSpec)) scanJoinsCard

/-- THE TIED CARD OF 'siglumlaw04.ScanParts'. -/
def scanPartsCard : Claim7 := { stood := { row := scanPartsRow, standIns := [], harness := (true, "6b72303474c1a6419be493b8502d27b476579e3519ede41d8d0057ffe57168c6"), looks := false }, kinds := [], alts := [], laidByText := true, laidKinds := [.data, .pinned], laidTests := true, laidLooks := .later }
def ScanPartsCardSaid : Prop := Claim7.holds Tryd.pinned (.plain (OpenSpec.ofChange scanPartsSpec)) scanPartsCard

/-- THE TIED CARD OF 'siglumlaw04.ScanWords'. -/
def scanWordsCard : Claim7 := { stood := { row := scanWordsRow, standIns := [], harness := (true, "6b72303474c1a6419be493b8502d27b476579e3519ede41d8d0057ffe57168c6"), looks := false }, kinds := [], alts := [], laidByText := true, laidKinds := [.data, .pinned], laidTests := true, laidLooks := .later }
def ScanWordsCardSaid : Prop := Claim7.holds Tryd.pinned (.plain (OpenSpec.ofChange scanWordsSpec)) scanWordsCard

/-- THE TIED CARD OF 'siglumlaw08.DistApplies'. -/
def distAppliesCard : Claim7 := { stood := { row := distAppliesRow, standIns := [], harness := (true, "6b72303474c1a6419be493b8502d27b476579e3519ede41d8d0057ffe57168c6"), looks := false }, kinds := [], alts := [], laidByText := true, laidKinds := [.data, .pinned], laidTests := true, laidLooks := .later }
def DistAppliesCardSaid : Prop := Claim7.holds Tryd.pinned (.plain (OpenSpec.ofChange distAppliesSpec)) distAppliesCard

/-- THE TIED CARD OF 'siglumlaw08.DistBack'. -/
def distBackCard : Claim7 := { stood := { row := distBackRow, standIns := [], harness := (true, "6b72303474c1a6419be493b8502d27b476579e3519ede41d8d0057ffe57168c6"), looks := false }, kinds := [], alts := [], laidByText := true, laidKinds := [.data, .pinned], laidTests := true, laidLooks := .later }
def DistBackCardSaid : Prop := Claim7.holds Tryd.pinned (.plain (OpenSpec.ofChange distBackSpec)) distBackCard

/-- THE TIED CARD OF 'siglumlaw04.ScanPieces'. -/
def scanPiecesCard : Claim7 := { stood := { row := scanPiecesRow, standIns := [], harness := (true, "6b72303474c1a6419be493b8502d27b476579e3519ede41d8d0057ffe57168c6"), looks := false }, kinds := [], alts := [], laidByText := true, laidKinds := [.data, .pinned], laidTests := true, laidLooks := .later }
def ScanPiecesCardSaid : Prop := Claim7.holds Tryd.pinned (.plain (OpenSpec.ofChange scanPiecesSpec)) scanPiecesCard

/-- THE SECOND FORM's CARD OF 'siglumlaw08.DistPaths'. -/
def distPathsUptoCard : Claim7 := { stood := { row := distPathsUptoRow, standIns := [], harness := (true, "6b72303474c1a6419be493b8502d27b476579e3519ede41d8d0057ffe57168c6"), looks := false }, kinds := [], alts := [], laidByText := true, laidKinds := [.data, .pinned], laidTests := true, laidLooks := .later }
def DistPathsUptoCardSaid : Prop := Claim7.holds Tryd.pinned (.plain (OpenSpec.upto distPathsSpec)) distPathsUptoCard

/-- THE SECOND FORM's CARD OF 'siglumlaw08.DistMetric'. -/
def distMetricUptoCard : Claim7 := { stood := { row := distMetricUptoRow, standIns := [], harness := (true, "6b72303474c1a6419be493b8502d27b476579e3519ede41d8d0057ffe57168c6"), looks := false }, kinds := [], alts := [], laidByText := true, laidKinds := [.data, .pinned], laidTests := true, laidLooks := .later }
def DistMetricUptoCardSaid : Prop := Claim7.holds Tryd.pinned (.plain (OpenSpec.upto distMetricSpec)) distMetricUptoCard

/-- THE SECOND FORM's CARD OF 'siglumlaw08.DistLeast'. -/
def distLeastUptoCard : Claim7 := { stood := { row := distLeastUptoRow, standIns := [], harness := (true, "6b72303474c1a6419be493b8502d27b476579e3519ede41d8d0057ffe57168c6"), looks := false }, kinds := [], alts := [], laidByText := true, laidKinds := [.data, .pinned], laidTests := true, laidLooks := .later }
def DistLeastUptoCardSaid : Prop := Claim7.holds Tryd.pinned (.plain (OpenSpec.upto distLeastSpec)) distLeastUptoCard

/-- THE SECOND FORM's CARD OF 'siglumlaw08.DistBounds'. -/
def distBoundsUptoCard : Claim7 := { stood := { row := distBoundsUptoRow, standIns := [], harness := (true, "6b72303474c1a6419be493b8502d27b476579e3519ede41d8d0057ffe57168c6"), looks := false }, kinds := [], alts := [], laidByText := true, laidKinds := [.data, .pinned], laidTests := true, laidLooks := .later }
def DistBoundsUptoCardSaid : Prop := Claim7.holds Tryd.pinned (.plain (OpenSpec.upto distBoundsSpec)) distBoundsUptoCard

/-- THE SECOND FORM's CARD OF 'siglumlaw08.DistOf'. -/
def distOfUptoCard : Claim7 := { stood := { row := distOfUptoRow, standIns := [], harness := (true, "6b72303474c1a6419be493b8502d27b476579e3519ede41d8d0057ffe57168c6"), looks := false }, kinds := [], alts := [], laidByText := true, laidKinds := [.data, .pinned], laidTests := true, laidLooks := .later }
def DistOfUptoCardSaid : Prop := Claim7.holds Tryd.pinned (.plain (OpenSpec.upto distOfSpec)) distOfUptoCard

/-- THE SECOND FORM's CARD OF 'siglumlaw04.ScanTokens'. -/
def scanTokensUptoCard : Claim7 := { stood := { row := scanTokensUptoRow, standIns := [], harness := (true, "6b72303474c1a6419be493b8502d27b476579e3519ede41d8d0057ffe57168c6"), looks := false }, kinds := [], alts := [], laidByText := true, laidKinds := [.data, .pinned], laidTests := true, laidLooks := .later }
def ScanTokensUptoCardSaid : Prop := Claim7.holds Tryd.pinned (.plain (OpenSpec.upto scanTokensSpec)) scanTokensUptoCard

/-- THE SECOND FORM's CARD OF 'siglumlaw04.ScanJoins'. -/
def scanJoinsUptoCard : Claim7 := { stood := { row := scanJoinsUptoRow, standIns := [], harness := (true, "6b72303474c1a6419be493b8502d27b476579e3519ede41d8d0057ffe57168c6"), looks := false }, kinds := [], alts := [], laidByText := true, laidKinds := [.data, .pinned], laidTests := true, laidLooks := .later }
def ScanJoinsUptoCardSaid : Prop := Claim7.holds Tryd.pinned (.plain (OpenSpec.upto scanJoinsSpec)) scanJoinsUptoCard

/-- THE SECOND FORM's CARD OF 'siglumlaw04.ScanParts'. -/
def scanPartsUptoCard : Claim7 := { stood := { row := scanPartsUptoRow, standIns := [], harness := (true, "6b72303474c1a6419be493b8502d27b476579e3519ede41d8d0057ffe57168c6"), looks := false }, kinds := [], alts := [], laidByText := true, laidKinds := [.data, .pinned], laidTests := true, laidLooks := .later }
def ScanPartsUptoCardSaid : Prop := Claim7.holds Tryd.pinned (.plain (OpenSpec.upto scanPartsSpec)) scanPartsUptoCard

/-- THE SECOND FORM's CARD OF 'siglumlaw04.ScanWords'. -/
def scanWordsUptoCard : Claim7 := { stood := { row := scanWordsUptoRow, standIns := [], harness := (true, "6b72303474c1a6419be493b8502d27b476579e3519ede41d8d0057ffe57168c6"), looks := false }, kinds := [], alts := [], laidByText := true, laidKinds := [.data, .pinned], laidTests := true, laidLooks := .later }
def ScanWordsUptoCardSaid : Prop := Claim7.holds Tryd.pinned (.plain (OpenSpec.upto scanWordsSpec)) scanWordsUptoCard

/-- THE SECOND FORM's CARD OF 'siglumlaw08.DistApplies'. -/
def distAppliesUptoCard : Claim7 := { stood := { row := distAppliesUptoRow, standIns := [], harness := (true, "6b72303474c1a6419be493b8502d27b476579e3519ede41d8d0057ffe57168c6"), looks := false }, kinds := [], alts := [], laidByText := true, laidKinds := [.data, .pinned], laidTests := true, laidLooks := .later }
def DistAppliesUptoCardSaid : Prop := Claim7.holds Tryd.pinned (.plain (OpenSpec.upto distAppliesSpec)) distAppliesUptoCard

/-- THE SECOND FORM's CARD OF 'siglumlaw08.DistBack'. -/
def distBackUptoCard : Claim7 := { stood := { row := distBackUptoRow, standIns := [], harness := (true, "6b72303474c1a6419be493b8502d27b476579e3519ede41d8d0057ffe57168c6"), looks := false }, kinds := [], alts := [], laidByText := true, laidKinds := [.data, .pinned], laidTests := true, laidLooks := .later }
def DistBackUptoCardSaid : Prop := Claim7.holds Tryd.pinned (.plain (OpenSpec.upto distBackSpec)) distBackUptoCard

/-- THE SECOND FORM's CARD OF 'siglumlaw04.ScanPieces'. -/
def scanPiecesUptoCard : Claim7 := { stood := { row := scanPiecesUptoRow, standIns := [], harness := (true, "6b72303474c1a6419be493b8502d27b476579e3519ede41d8d0057ffe57168c6"), looks := false }, kinds := [], alts := [], laidByText := true, laidKinds := [.data, .pinned], laidTests := true, laidLooks := .later }
def ScanPiecesUptoCardSaid : Prop := Claim7.holds Tryd.pinned (.plain (OpenSpec.upto scanPiecesSpec)) scanPiecesUptoCard
end Rows
end Go.Proofs.YtalogampkkjcdaaDoor
