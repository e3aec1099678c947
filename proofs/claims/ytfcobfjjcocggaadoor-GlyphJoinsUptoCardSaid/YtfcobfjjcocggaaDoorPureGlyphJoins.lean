/-
  The law GlyphJoins answers true at every text.
-/
import Derived.Test.YtfcobfjjcocggaaDoorQJoins
namespace Go.Proofs.YtfcobfjjcocggaaDoor.Pure
open Go.RowKit Go.Proofs.YtfcobfjjcocggaaDoor.Q
theorem GlyphJoins (a0 : ByteArray) (_ : a0.size ≤ maxLen) (hb : (a0.size + 1) ≤ 1048576) : siglumlaw01_GlyphJoins.f a0 = some true := by
  unfold siglumlaw01_GlyphJoins.f
  rw [if_pos (by omega)]
end Go.Proofs.YtfcobfjjcocggaaDoor.Pure
