/-
  DERIVED. GIVEN WITH THE SEED: THE CARDS: each row of YtbpinnanfanaaaaDoorRows.lean that lists a variable, with what it lists TIED to the program's text (the seventh form; the later family's looks); each row that meets fmt, with fmt's text TOLD by the authors' own Lean function (tested against real Go, not proved from fmt's source: count such statements apart). THE CARD IS WHAT COUNTS. Prove the row's statement (the work); the ties are given (YtbpinnanfanaaaaDoorTie.lean); close each card by the builder's one call (the guide's Derived/Test/ToyasCard.lean, 'card_holds'). Laid BY PROGRAM, IN A SANDBOX (cutbox-door.mjs). By AI agents, Wed Nov 11 2026. No macro, syntax, notation, axiom, sorry.
-/
import Derived.Test.YtbpinnanfanaaaaDoorRows
import GoSem.ClaimSeven
namespace Go.Proofs.YtbpinnanfanaaaaDoor
namespace Rows

/-- THE TIED CARD OF 'siglumlaw11.SlimLeast'. -/
def slimLeastCard : Claim7 := { stood := { row := slimLeastRow, standIns := [], harness := (true, "1becd38fde8dbea9eba22ced9d96245459bb872ed0403c954817504e9ad2e24e"), looks := false }, kinds := [], alts := [], laidByText := true, laidKinds := [.data, .listed, .data, .pinned], laidTests := true, laidLooks := .later }
def SlimLeastCardSaid : Prop := Claim7.holds Tryd.pinned (.plain (OpenSpec.ofChange slimLeastSpec)) slimLeastCard

/-- THE TIED CARD OF 'siglumlaw11.SlimMore'. -/
def slimMoreCard : Claim7 := { stood := { row := slimMoreRow, standIns := [], harness := (true, "1becd38fde8dbea9eba22ced9d96245459bb872ed0403c954817504e9ad2e24e"), looks := false }, kinds := [], alts := [], laidByText := true, laidKinds := [.data, .listed, .data, .pinned], laidTests := true, laidLooks := .later }
def SlimMoreCardSaid : Prop := Claim7.holds Tryd.pinned (.plain (OpenSpec.ofChange slimMoreSpec)) slimMoreCard

/-- THE TIED CARD OF 'siglumlaw11.SlimSome'. -/
def slimSomeCard : Claim7 := { stood := { row := slimSomeRow, standIns := [], harness := (true, "1becd38fde8dbea9eba22ced9d96245459bb872ed0403c954817504e9ad2e24e"), looks := false }, kinds := [], alts := [], laidByText := true, laidKinds := [.data, .listed, .data, .pinned], laidTests := true, laidLooks := .later }
def SlimSomeCardSaid : Prop := Claim7.holds Tryd.pinned (.plain (OpenSpec.ofChange slimSomeSpec)) slimSomeCard

/-- THE TIED CARD OF 'siglumlaw11.SlimAgrees'. -/
def slimAgreesCard : Claim7 := { stood := { row := slimAgreesRow, standIns := [], harness := (true, "1becd38fde8dbea9eba22ced9d96245459bb872ed0403c954817504e9ad2e24e"), looks := false }, kinds := [], alts := [], laidByText := true, laidKinds := [.data, .listed, .data, .pinned], laidTests := true, laidLooks := .later }
def SlimAgreesCardSaid : Prop := Claim7.holds Tryd.pinned (.plain (OpenSpec.ofChange slimAgreesSpec)) slimAgreesCard

/-- THE SECOND FORM's CARD OF 'siglumlaw11.SlimLeast'. -/
def slimLeastUptoCard : Claim7 := { stood := { row := slimLeastUptoRow, standIns := [], harness := (true, "1becd38fde8dbea9eba22ced9d96245459bb872ed0403c954817504e9ad2e24e"), looks := false }, kinds := [], alts := [], laidByText := true, laidKinds := [.data, .listed, .data, .pinned], laidTests := true, laidLooks := .later }
def SlimLeastUptoCardSaid : Prop := Claim7.holds Tryd.pinned (.plain (OpenSpec.upto slimLeastSpec)) slimLeastUptoCard

/-- THE SECOND FORM's CARD OF 'siglumlaw11.SlimMore'. -/
def slimMoreUptoCard : Claim7 := { stood := { row := slimMoreUptoRow, standIns := [], harness := (true, "1becd38fde8dbea9eba22ced9d96245459bb872ed0403c954817504e9ad2e24e"), looks := false }, kinds := [], alts := [], laidByText := true, laidKinds := [.data, .listed, .data, .pinned], laidTests := true, laidLooks := .later }
def SlimMoreUptoCardSaid : Prop := Claim7.holds Tryd.pinned (.plain (OpenSpec.upto slimMoreSpec)) slimMoreUptoCard

/-- THE SECOND FORM's CARD OF 'siglumlaw11.SlimSome'. -/
def slimSomeUptoCard : Claim7 := { stood := { row := slimSomeUptoRow, standIns := [], harness := (true, "1becd38fde8dbea9eba22ced9d96245459bb872ed0403c954817504e9ad2e24e"), looks := false }, kinds := [], alts := [], laidByText := true, laidKinds := [.data, .listed, .data, .pinned], laidTests := true, laidLooks := .later }
def SlimSomeUptoCardSaid : Prop := Claim7.holds Tryd.pinned (.plain (OpenSpec.upto slimSomeSpec)) slimSomeUptoCard

/-- THE SECOND FORM's CARD OF 'siglumlaw11.SlimAgrees'. -/
def slimAgreesUptoCard : Claim7 := { stood := { row := slimAgreesUptoRow, standIns := [], harness := (true, "1becd38fde8dbea9eba22ced9d96245459bb872ed0403c954817504e9ad2e24e"), looks := false }, kinds := [], alts := [], laidByText := true, laidKinds := [.data, .listed, .data, .pinned], laidTests := true, laidLooks := .later }
def SlimAgreesUptoCardSaid : Prop := Claim7.holds Tryd.pinned (.plain (OpenSpec.upto slimAgreesSpec)) slimAgreesUptoCard
end Rows
end Go.Proofs.YtbpinnanfanaaaaDoor
