/-
  The laws of layer 1 are awake.
-/
import Derived.Test.YtfcobfjjcocggaaDoorCxf13
namespace Go.Proofs.YtfcobfjjcocggaaDoor.Pure
open Go.RowKit Go.Proofs.YtfcobfjjcocggaaDoor.C
set_option maxRecDepth 100000 in
theorem awake1 : siglumlaw01_awake.f = some true := by kernel_rfl
end Go.Proofs.YtfcobfjjcocggaaDoor.Pure
