/-
  No cell of these rows narrows 'for every input' (looked for: loops, veiled, ifaces, maps, wideKeys, modest, calm, conditions, laid).
  DERIVED. THE GIVEN ROWS OF THIS SEAT. 6 by the template 'for every input the law returns true; each argument reads behind the call as it read before'; 0 by the template 'total and deterministic' (their statements: YtpmiaaphmgoapaaTotals.lean).
  GIVEN WITH THE SEED: the statements are not yours to turn. If you find one false, say at which input.
  Laid BY PROGRAM, IN A SANDBOX (cutbox-rows.mjs): the forced cells as the released guide's own fill.sh prints them over the translation 7c5e291869f1494b… (all of the seat's roots in one cut). By AI agents, Wed Nov 11 2026. No macro, syntax, notation, axiom, sorry.
-/
import Derived.Test.YtpmiaaphmgoapaaChecked
import GoSem.Claim
import GoSem.ClaimJoined
import GoSem.ClaimMapViews
import Derived.JoinedTies
import Derived.KernelRfl
namespace Go.Proofs.Ytpmiaaphmgoapaa
/- THE CELL 'sum', in the pinned program and in every row, IS THE sha256 OF THE DUMP (.gsa) THAT YtpmiaaphmgoapaaProg.lean LOADS. Nothing in Lean hashes anything: it is a label: what it is worth is what the hold of that sum in a sandbox is worth. -/
noncomputable def Try.pinned : Pinned := { name := "ytpmiaaphmgoapaa", sum := "7c5e291869f1494bbc06d1db58ddb4a8b4151706411fb4b7f2287fc1939a9693", checked := Try.checked }
namespace Rows
def none {H : Type} : Left H := { results := [], args := [] }

/-- 'siglumlaw06.HandSpans': WHATEVER THE INPUT: true; the input reads as it did. -/
def handSpansSpec : ChangeSpec := { name := "handSpans", fn := fun _ => fun
  | [d1, d2] => { results := [.lit (.bool true)], args := [d1, d2] }
  | _ => none }
def handSpansRow : OpenClaim := { program := "ytpmiaaphmgoapaa", sum := "7c5e291869f1494bbc06d1db58ddb4a8b4151706411fb4b7f2287fc1939a9693", func := "siglum/siglumlaw06.HandSpans", spec := "handSpans", inPlace := ["internal/abi.NoEscape", "internal/bytealg.MakeNoZero"], apart := false }
def HandSpansSaid : Prop := handSpansRow.holds Try.pinned (OpenSpec.ofChange handSpansSpec)

/-- ITS FALSE NEIGHBOUR: 'it returns false'. Refute it at one input. -/
def handSpansWrong : ChangeSpec := { name := "handSpans", fn := fun _ => fun
  | [d1, d2] => { results := [.lit (.bool false)], args := [d1, d2] }
  | _ => none }
def HandSpansWrongFalsely : Prop := handSpansRow.holds Try.pinned (OpenSpec.ofChange handSpansWrong)

/-- 'siglumlaw06.HandCovers': WHATEVER THE INPUT: true; the input reads as it did. -/
def handCoversSpec : ChangeSpec := { name := "handCovers", fn := fun _ => fun
  | [d1, d2] => { results := [.lit (.bool true)], args := [d1, d2] }
  | _ => none }
def handCoversRow : OpenClaim := { program := "ytpmiaaphmgoapaa", sum := "7c5e291869f1494bbc06d1db58ddb4a8b4151706411fb4b7f2287fc1939a9693", func := "siglum/siglumlaw06.HandCovers", spec := "handCovers", inPlace := ["internal/abi.NoEscape", "internal/bytealg.MakeNoZero"], apart := false }
def HandCoversSaid : Prop := handCoversRow.holds Try.pinned (OpenSpec.ofChange handCoversSpec)

/-- ITS FALSE NEIGHBOUR: 'it returns false'. Refute it at one input. -/
def handCoversWrong : ChangeSpec := { name := "handCovers", fn := fun _ => fun
  | [d1, d2] => { results := [.lit (.bool false)], args := [d1, d2] }
  | _ => none }
def HandCoversWrongFalsely : Prop := handCoversRow.holds Try.pinned (OpenSpec.ofChange handCoversWrong)

/-- 'siglumlaw06.HandReads': WHATEVER THE INPUT: true; the input reads as it did. -/
def handReadsSpec : ChangeSpec := { name := "handReads", fn := fun _ => fun
  | [d1, d2] => { results := [.lit (.bool true)], args := [d1, d2] }
  | _ => none }
def handReadsRow : OpenClaim := { program := "ytpmiaaphmgoapaa", sum := "7c5e291869f1494bbc06d1db58ddb4a8b4151706411fb4b7f2287fc1939a9693", func := "siglum/siglumlaw06.HandReads", spec := "handReads", inPlace := ["internal/abi.NoEscape", "internal/bytealg.MakeNoZero"], apart := false }
def HandReadsSaid : Prop := handReadsRow.holds Try.pinned (OpenSpec.ofChange handReadsSpec)

/-- ITS FALSE NEIGHBOUR: 'it returns false'. Refute it at one input. -/
def handReadsWrong : ChangeSpec := { name := "handReads", fn := fun _ => fun
  | [d1, d2] => { results := [.lit (.bool false)], args := [d1, d2] }
  | _ => none }
def HandReadsWrongFalsely : Prop := handReadsRow.holds Try.pinned (OpenSpec.ofChange handReadsWrong)

/-- 'siglumlaw06.HandJoins': WHATEVER THE INPUT: true; the input reads as it did. -/
def handJoinsSpec : ChangeSpec := { name := "handJoins", fn := fun _ => fun
  | [d1, d2, d3] => { results := [.lit (.bool true)], args := [d1, d2, d3] }
  | _ => none }
def handJoinsRow : OpenClaim := { program := "ytpmiaaphmgoapaa", sum := "7c5e291869f1494bbc06d1db58ddb4a8b4151706411fb4b7f2287fc1939a9693", func := "siglum/siglumlaw06.HandJoins", spec := "handJoins", inPlace := ["internal/abi.NoEscape", "internal/bytealg.MakeNoZero"], apart := false }
def HandJoinsSaid : Prop := handJoinsRow.holds Try.pinned (OpenSpec.ofChange handJoinsSpec)

/-- ITS FALSE NEIGHBOUR: 'it returns false'. Refute it at one input. -/
def handJoinsWrong : ChangeSpec := { name := "handJoins", fn := fun _ => fun
  | [d1, d2, d3] => { results := [.lit (.bool false)], args := [d1, d2, d3] }
  | _ => none }
def HandJoinsWrongFalsely : Prop := handJoinsRow.holds Try.pinned (OpenSpec.ofChange handJoinsWrong)

/-- 'siglumlaw06.HandChanges': WHATEVER THE INPUT: true; the input reads as it did. -/
def handChangesSpec : ChangeSpec := { name := "handChanges", fn := fun _ => fun
  | [d1, d2, d3] => { results := [.lit (.bool true)], args := [d1, d2, d3] }
  | _ => none }
def handChangesRow : OpenClaim := { program := "ytpmiaaphmgoapaa", sum := "7c5e291869f1494bbc06d1db58ddb4a8b4151706411fb4b7f2287fc1939a9693", func := "siglum/siglumlaw06.HandChanges", spec := "handChanges", inPlace := ["internal/abi.NoEscape", "internal/bytealg.MakeNoZero"], apart := false }
def HandChangesSaid : Prop := handChangesRow.holds Try.pinned (OpenSpec.ofChange handChangesSpec)

/-- ITS FALSE NEIGHBOUR: 'it returns false'. Refute it at one input. -/
def handChangesWrong : ChangeSpec := { name := "handChanges", fn := fun _ => fun
  | [d1, d2, d3] => { results := [.lit (.bool false)], args := [d1, d2, d3] }
  | _ => none }
def HandChangesWrongFalsely : Prop := handChangesRow.holds Try.pinned (OpenSpec.ofChange handChangesWrong)

/-- 'siglumlaw06.HandLater': WHATEVER THE INPUT: true; the input reads as it did. -/
def handLaterSpec : ChangeSpec := { name := "handLater", fn := fun _ => fun
  | [d1, d2, d3] => { results := [.lit (.bool true)], args := [d1, d2, d3] }
  | _ => none }
def handLaterRow : OpenClaim := { program := "ytpmiaaphmgoapaa", sum := "7c5e291869f1494bbc06d1db58ddb4a8b4151706411fb4b7f2287fc1939a9693", func := "siglum/siglumlaw06.HandLater", spec := "handLater", inPlace := ["internal/abi.NoEscape", "internal/bytealg.MakeNoZero"], apart := false }
def HandLaterSaid : Prop := handLaterRow.holds Try.pinned (OpenSpec.ofChange handLaterSpec)

/-- ITS FALSE NEIGHBOUR: 'it returns false'. Refute it at one input. -/
def handLaterWrong : ChangeSpec := { name := "handLater", fn := fun _ => fun
  | [d1, d2, d3] => { results := [.lit (.bool false)], args := [d1, d2, d3] }
  | _ => none }
def HandLaterWrongFalsely : Prop := handLaterRow.holds Try.pinned (OpenSpec.ofChange handLaterWrong)

/- THE SECOND FORM. 'bulk': how many values and letters a reading holds, each counted each time it is reached (what is shared counts as often as it is met; a slice's spare places count too). A statement '..UptoSaid' is the law's where the arguments, and the package variables that the reading takes, are together of bulk at most 1048576: NARROWER than '..Said'. Prove '..Said' where nothing that the law and all that it calls make is longer than what came in: it says more and counts as full. Else prove '..UptoSaid'. A law counts once. -/
mutual
def uptoBulk {H : Type} : DataW H → Nat
  | .lit (.string bytes) => bytes.length + 1
  | .lit _ => 1
  | .nil => 1
  | .ptr d => uptoBulk d + 1
  | .slice elems spare => uptoBulkAll elems + uptoBulkAll spare + 1
  | .agg parts => uptoBulkAll parts + 1
  | .iface _ d => uptoBulk d + 1
  | .map entries => uptoBulkEntries entries + 1
  | .held _ => 1
def uptoBulkAll {H : Type} : List (DataW H) → Nat
  | [] => 0
  | d :: r => uptoBulk d + uptoBulkAll r
def uptoBulkEntries {H : Type} : List (Lit × DataW H) → Nat
  | [] => 0
  | x :: r => uptoBulkEntry x + uptoBulkEntries r
def uptoBulkEntry {H : Type} : Lit × DataW H → Nat
  | (.string bytes, d) => bytes.length + uptoBulk d + 1
  | (_, d) => uptoBulk d + 1
 end
def uptoSmall : (H : Type) → List (DataW H) → Bool := fun _ ds => decide (uptoBulkAll ds ≤ 1048576)
def OpenSpec.upto (s : _root_.Go.ChangeSpec) : _root_.Go.OpenSpec := { _root_.Go.OpenSpec.ofChange s with cond := some uptoSmall }

/-- 'siglumlaw06.HandSpans', WHERE WHAT IT READS IS OF BULK AT MOST 1048576: true; the input reads as it did. -/
def handSpansUptoRow : OpenClaim := { program := "ytpmiaaphmgoapaa", sum := "7c5e291869f1494bbc06d1db58ddb4a8b4151706411fb4b7f2287fc1939a9693", func := "siglum/siglumlaw06.HandSpans", spec := "handSpans", inPlace := ["internal/abi.NoEscape", "internal/bytealg.MakeNoZero"], apart := false, narrowed := true }
def HandSpansUptoSaid : Prop := handSpansUptoRow.holds Try.pinned (OpenSpec.upto handSpansSpec)

/-- 'siglumlaw06.HandCovers', WHERE WHAT IT READS IS OF BULK AT MOST 1048576: true; the input reads as it did. -/
def handCoversUptoRow : OpenClaim := { program := "ytpmiaaphmgoapaa", sum := "7c5e291869f1494bbc06d1db58ddb4a8b4151706411fb4b7f2287fc1939a9693", func := "siglum/siglumlaw06.HandCovers", spec := "handCovers", inPlace := ["internal/abi.NoEscape", "internal/bytealg.MakeNoZero"], apart := false, narrowed := true }
def HandCoversUptoSaid : Prop := handCoversUptoRow.holds Try.pinned (OpenSpec.upto handCoversSpec)

/-- 'siglumlaw06.HandReads', WHERE WHAT IT READS IS OF BULK AT MOST 1048576: true; the input reads as it did. -/
def handReadsUptoRow : OpenClaim := { program := "ytpmiaaphmgoapaa", sum := "7c5e291869f1494bbc06d1db58ddb4a8b4151706411fb4b7f2287fc1939a9693", func := "siglum/siglumlaw06.HandReads", spec := "handReads", inPlace := ["internal/abi.NoEscape", "internal/bytealg.MakeNoZero"], apart := false, narrowed := true }
def HandReadsUptoSaid : Prop := handReadsUptoRow.holds Try.pinned (OpenSpec.upto handReadsSpec)

/-- 'siglumlaw06.HandJoins', WHERE WHAT IT READS IS OF BULK AT MOST 1048576: true; the input reads as it did. -/
def handJoinsUptoRow : OpenClaim := { program := "ytpmiaaphmgoapaa", sum := "7c5e291869f1494bbc06d1db58ddb4a8b4151706411fb4b7f2287fc1939a9693", func := "siglum/siglumlaw06.HandJoins", spec := "handJoins", inPlace := ["internal/abi.NoEscape", "internal/bytealg.MakeNoZero"], apart := false, narrowed := true }
def HandJoinsUptoSaid : Prop := handJoinsUptoRow.holds Try.pinned (OpenSpec.upto handJoinsSpec)

/-- 'siglumlaw06.HandChanges', WHERE WHAT IT READS IS OF BULK AT MOST 1048576: true; the input reads as it did. -/
def handChangesUptoRow : OpenClaim := { program := "ytpmiaaphmgoapaa", sum := "7c5e291869f1494bbc06d1db58ddb4a8b4151706411fb4b7f2287fc1939a9693", func := "siglum/siglumlaw06.HandChanges", spec := "handChanges", inPlace := ["internal/abi.NoEscape", "internal/bytealg.MakeNoZero"], apart := false, narrowed := true }
def HandChangesUptoSaid : Prop := handChangesUptoRow.holds Try.pinned (OpenSpec.upto handChangesSpec)

/-- 'siglumlaw06.HandLater', WHERE WHAT IT READS IS OF BULK AT MOST 1048576: true; the input reads as it did. -/
def handLaterUptoRow : OpenClaim := { program := "ytpmiaaphmgoapaa", sum := "7c5e291869f1494bbc06d1db58ddb4a8b4151706411fb4b7f2287fc1939a9693", func := "siglum/siglumlaw06.HandLater", spec := "handLater", inPlace := ["internal/abi.NoEscape", "internal/bytealg.MakeNoZero"], apart := false, narrowed := true }
def HandLaterUptoSaid : Prop := handLaterUptoRow.holds Try.pinned (OpenSpec.upto handLaterSpec)

end Rows
end Go.Proofs.Ytpmiaaphmgoapaa
