/-
  The same both ways, at most Far, 0 just for the same.
-/
import Derived.Test.YtcpbalnbgmjhjaaDoorPureCost
import Derived.Test.YtcpbalnbgmjhjaaDoorEx13
namespace Go.Proofs.YtcpbalnbgmjhjaaDoor.Pure
open Go.RowKit Go.Proofs.YtcpbalnbgmjhjaaDoor.E Go.Proofs.YtcpbalnbgmjhjaaDoorW.PrintWords Go.Proofs.YtcpbalnbgmjhjaaDoorW.PrintLast Go.Proofs.YtcpbalnbgmjhjaaDoorW.PrintMore
theorem aw9a : wP ⟨#[67, 97, 116]⟩ ⟨#[114, 97, 116]⟩ 2 1 3 31 = (1, 0) := by decide +kernel
theorem aw9b : wP ⟨#[99, 97, 116]⟩ ⟨#[100, 111, 103, 115]⟩ 2 1 3 31 = (3, 0) := by decide +kernel
theorem awake9 (k : Nat) (hk : 30000000 ≤ k) : siglumlaw09_awake.f k = some true := by
  unfold siglumlaw09_awake.f
  rw [words_eq _ _ (by decide) (by decide) _ _ _ _ k hk, Option.bind_some, words_eq _ _ (by decide) (by decide) _ _ _ _ k hk, Option.bind_some, aw9a, aw9b, check_eq]
  rfl
theorem same_eq (a b : ByteArray) (o : Int) (ha : a.size ≤ 1048576) (hb : b.size ≤ 1048576) (ho : 0 ≤ o ∧ o ≤ 31) : fold_Same.f a b o = some ((fd a o).data.toList == (fd b o).data.toList, 0) := by
  unfold fold_Same.f
  rw [fold_eq a o ha ho, Option.bind_some]
  dsimp only
  rw [if_pos rfl, fold_eq b o hb ho, Option.bind_some]
  dsimp only
  rw [toList_data, toList_data]
theorem CostEven (a0 a1 : ByteArray) (g n f o : Int) (_ : a0.size ≤ maxLen) (_ : a1.size ≤ maxLen) (_ : (Lit.int .i64 g).wf = true ∧ (Lit.int .i64 n).wf = true ∧ (Lit.int .i64 f).wf = true ∧ (Lit.int .i64 o).wf = true) (hb : (a0.size + 1) + (a1.size + 1) + (1 + 1 + 1 + 1 + 1) ≤ 1048576) : ∃ k, siglumlaw09_CostEven.f k a0 a1 g n f o = some true := by
  have h0 : a0.size ≤ 1048576 := by omega
  have h1 : a1.size ≤ 1048576 := by omega
  refine ⟨30000000, ?_⟩
  unfold siglumlaw09_CostEven.f
  rw [awake9 _ (Nat.le_refl _), Option.bind_some, if_pos rfl, words_eq a0 a1 h0 h1 g n f o _ (Nat.le_refl _), Option.bind_some, words_eq a1 a0 h1 h0 g n f o _ (Nat.le_refl _), Option.bind_some, wP_symm a1 a0]
  by_cases hs : scaleOk g n f o
  · have hs' := hs
    unfold scaleOk at hs'
    obtain ⟨_, hn, hf, ho⟩ := hs'
    by_cases hl : longW a0 o = true ∨ longW a1 o = true
    · have hW : wP a0 a1 g n f o = (0, 1) := by unfold wP; rw [if_pos hs, if_pos hl]
      rw [hW]
      rfl
    · have hW : wP a0 a1 g n f o = (twoP a0 (fd a0 o) a1 (fd a1 o) n f, 0) := by unfold wP; rw [if_pos hs, if_neg hl]
      obtain ⟨r1, r2, r3⟩ := two_range a0 (fd a0 o) a1 (fd a1 o) n f hn.1 hf.1
      rw [hW]
      dsimp only
      rw [if_pos rfl, same_eq a0 a1 o h0 h1 ho, Option.bind_some]
      dsimp only
      rw [if_pos rfl, if_pos rfl, if_pos rfl, if_pos r1, if_pos r2]
      congr 1
      by_cases e : (fd a0 o).data.toList = (fd a1 o).data.toList
      · rw [r3.2 e, beq_iff_eq.2 e]; rfl
      · rw [beq_eq_false_iff_ne.2 e, show (twoP a0 (fd a0 o) a1 (fd a1 o) n f == 0) = false from beq_eq_false_iff_ne.2 (fun h => e (r3.1 h))]; rfl
  · have hW : wP a0 a1 g n f o = (0, 90) := by unfold wP; rw [if_neg hs]
    rw [hW]
    rfl
end Go.Proofs.YtcpbalnbgmjhjaaDoor.Pure
