/-
  The law GlyphAll answers true at every text and number.
-/
import Derived.Test.YtfcobfjjcocggaaDoorCAll
namespace Go.Proofs.YtfcobfjjcocggaaDoor.Pure
open Go.RowKit Go.Proofs.YtfcobfjjcocggaaDoor.C
theorem GlyphAll (a0 : ByteArray) (a1 : Int) (_ : a0.size ≤ maxLen) (_ : (Lit.int .i64 a1).wf = true) (hb : (a0.size + 1) + 1 ≤ 1048576) : siglumlaw01_GlyphAll.f a0 a1 = some true := by
  unfold siglumlaw01_GlyphAll.f
  rw [if_pos (by omega)]
end Go.Proofs.YtfcobfjjcocggaaDoor.Pure
