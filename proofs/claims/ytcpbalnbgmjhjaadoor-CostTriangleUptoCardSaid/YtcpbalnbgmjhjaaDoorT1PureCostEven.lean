/-
  The same both ways, at most Far, 0 just for the same.
-/
import Derived.Test.YtcpbalnbgmjhjaaDoorT1PureCost
import Derived.Test.YtcpbalnbgmjhjaaDoorT1Ex13
namespace Go.Proofs.YtcpbalnbgmjhjaaDoor.Pure
open Go.RowKit Go.Proofs.YtcpbalnbgmjhjaaDoor.E Go.Proofs.YtcpbalnbgmjhjaaDoorW.PrintWords Go.Proofs.YtcpbalnbgmjhjaaDoorW.PrintLast Go.Proofs.YtcpbalnbgmjhjaaDoorW.PrintMore
theorem aw9a : wP ⟨#[67, 97, 116]⟩ ⟨#[114, 97, 116]⟩ 2 1 3 31 = (1, 0) := by decide +kernel
theorem aw9b : wP ⟨#[99, 97, 116]⟩ ⟨#[100, 111, 103, 115]⟩ 2 1 3 31 = (3, 0) := by decide +kernel
theorem awake9 (k : Nat) (hk : 30000000 ≤ k) : siglumlaw09_awake.f k = some true := by
  unfold siglumlaw09_awake.f
  rw [words_eq _ _ (by decide) (by decide) _ _ _ _ k hk, Option.bind_some, words_eq _ _ (by decide) (by decide) _ _ _ _ k hk, Option.bind_some, aw9a, aw9b, check_eq]
  rfl
end Go.Proofs.YtcpbalnbgmjhjaaDoor.Pure
