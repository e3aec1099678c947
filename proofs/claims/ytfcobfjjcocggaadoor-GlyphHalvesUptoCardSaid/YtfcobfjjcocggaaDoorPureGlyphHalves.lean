/-
  The law GlyphHalves answers true at every text and number.
-/
import Derived.Test.YtfcobfjjcocggaaDoorVHalves
namespace Go.Proofs.YtfcobfjjcocggaaDoor.Pure
open Go.RowKit Go.Proofs.YtfcobfjjcocggaaDoor.V
theorem GlyphHalves (a0 : ByteArray) (a1 : Int) (_ : a0.size ≤ maxLen) (_ : (Lit.int .i64 a1).wf = true) (hb : (a0.size + 1) + 1 ≤ 1048576) : siglumlaw01_GlyphHalves.f a0 a1 = some true := by
  unfold siglumlaw01_GlyphHalves.f
  rw [if_pos (by omega)]
end Go.Proofs.YtfcobfjjcocggaaDoor.Pure
