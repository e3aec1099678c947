/-
  Every text's tokens.
-/
import Derived.Test.YtalogampkkjcdaaDoorPureScan
import Derived.Test.YtalogampkkjcdaaDoorCx10
namespace Go.Proofs.YtalogampkkjcdaaDoor.Pure
open Go.RowKit Go.Proofs.YtalogampkkjcdaaDoor.C Go.Proofs.YtalogampkkjcdaaDoorW.PrintWords Go.Proofs.YtalogampkkjcdaaDoorW.PrintLast
theorem ScanTokens (a0 : ByteArray) (_ : a0.size ≤ maxLen) (_ : a0.size ≤ 140737488351232) : ∃ k, siglumlaw04_ScanTokens.f k a0 = some true := by
  refine ⟨2 * a0.size + 200, ?_⟩
  unfold siglumlaw04_ScanTokens.f
  rw [scan_awake, Option.bind_some, if_pos rfl]
  by_cases h : a0.size ≤ 65536
  · have hl := gCells_len a0 a0.size 0
    have h2 := toks_len a0
    rw [scan_some a0 h, ref_some a0 (2 * a0.size + 200) h (by omega), Option.bind_some, Option.bind_some, if_pos rfl, same_eq (toks a0) (2 * a0.size + 200) (by omega) (by omega)]
    rfl
  · rw [scan_long a0 h, ref_long a0 (2 * a0.size + 200) h, Option.bind_some, Option.bind_some, if_pos rfl, same_eq [] (2 * a0.size + 200) (by decide) (by simp)]
    rfl
end Go.Proofs.YtalogampkkjcdaaDoor.Pure
