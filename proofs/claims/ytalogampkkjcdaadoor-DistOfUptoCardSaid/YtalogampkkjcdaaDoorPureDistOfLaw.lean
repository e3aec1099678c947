/-
  Every distance, and whether it is within: as the document says.
-/
import Derived.Test.YtalogampkkjcdaaDoorPureDistAwake
import Derived.Test.YtalogampkkjcdaaDoorPureDistRef
import Derived.Test.YtalogampkkjcdaaDoorVx9
namespace Go.Proofs.YtalogampkkjcdaaDoor.Pure
open Go.RowKit Go.Proofs.YtalogampkkjcdaaDoor.V Go.Proofs.YtalogampkkjcdaaDoorW.PrintWords Go.Proofs.YtalogampkkjcdaaDoorW.PrintLast Go.Proofs.YtalogampkkjcdaaDoorW.PrintMore
theorem DistOf (a0 a1 : ByteArray) (a2 : Int) (_ : a0.size ≤ maxLen) (_ : a1.size ≤ maxLen) (_ : (Lit.int .i64 a2).wf = true) (hb : (a0.size + 1) + (a1.size + 1) + 1 ≤ 1048576) : ∃ k, siglumlaw08_DistOf.f k a0 a1 a2 = some true := by
  have h0 : a0.size ≤ 4294967296 := by omega
  have h1 : a1.size ≤ 4294967296 := by omega
  have hk : kOf a0 a1 ≤ 3000000 := by unfold kOf; omega
  refine ⟨3000000, ?_⟩
  unfold siglumlaw08_DistOf.f dist_Within.f
  rw [awake8 _ (by decide), Option.bind_some, if_pos rfl, of_eq a0 a1 h0 h1 _ hk, refof_eq a0 a1 h0 h1 _ hk]
  simp only [Option.bind_some]
  by_cases h : (dOf a0 a1).2 = 0
  · simp [h]
  · simp [h]
end Go.Proofs.YtalogampkkjcdaaDoor.Pure
