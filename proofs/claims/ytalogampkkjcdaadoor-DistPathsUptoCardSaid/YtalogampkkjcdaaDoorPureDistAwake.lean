/-
  The laws of layer 8 are awake.
-/
import Derived.Test.YtalogampkkjcdaaDoorPureDistOf
import Derived.Test.YtalogampkkjcdaaDoorPx4
import Derived.Test.YtalogampkkjcdaaDoorPx5
namespace Go.Proofs.YtalogampkkjcdaaDoor.Pure
open Go.RowKit Go.Proofs.YtalogampkkjcdaaDoor.P Go.Proofs.YtalogampkkjcdaaDoorW.PrintWords Go.Proofs.YtalogampkkjcdaaDoorW.PrintLast Go.Proofs.YtalogampkkjcdaaDoorW.PrintMore
theorem path_eq (a b : ByteArray) (ha : a.size ≤ 4294967296) (hb : b.size ≤ 4294967296) (k : Nat) (hk : kOf a b ≤ k) :
    dist_Path.f k a b = some (if (cb a).length ≤ 256 ∧ (cb b).length ≤ 256 then (pathL (pcs a) (pcs b) ((pcs a).length + (pcs b).length) 0 0, 0) else ([], 1)) := by
  unfold kOf at hk
  unfold dist_Path.f
  rw [both_eq a b ha hb k (by omega) (by omega), cb_pcs, cb_pcs]
  by_cases h : (pcs a).length ≤ 256 ∧ (pcs b).length ≤ 256
  · rw [if_pos h, if_pos h, Option.bind_some]
    dsimp only
    rw [if_pos rfl, if_pos h]
  · rw [if_neg h, if_neg h, Option.bind_some]
    rfl
theorem aw1 : dOf (⟨#[195, 169, 255]⟩ : ByteArray) (⟨#[101, 239, 191, 189]⟩ : ByteArray) = (2, 0) := by decide +kernel
theorem aw2 : (cb ⟨#[99, 97, 116]⟩).length ≤ 256 ∧ (cb ⟨#[99, 97, 114, 116]⟩).length ≤ 256 := by decide +kernel
theorem aw3 : (pathL (pcs ⟨#[99, 97, 116]⟩) (pcs ⟨#[99, 97, 114, 116]⟩) ((pcs ⟨#[99, 97, 116]⟩).length + (pcs ⟨#[99, 97, 114, 116]⟩).length) 0 0).map (fun e => (e.f0, e.f1.toList)) = [(1, [99]), (1, [97]), (4, [114]), (1, [116])] := by decide +kernel
theorem awake8 (k : Nat) (hk : 80000 ≤ k) : siglumlaw08_awake.f k = some true := by
  unfold siglumlaw08_awake.f
  rw [of_eq _ _ (by decide) (by decide) k (Nat.le_trans (by decide) hk), Option.bind_some, aw1, path_eq _ _ (by decide) (by decide) k (Nat.le_trans (by decide) hk), Option.bind_some, if_pos aw2]
  dsimp only
  have h := aw3
  obtain ⟨l, hl⟩ : ∃ l, pathL (pcs ⟨#[99, 97, 116]⟩) (pcs ⟨#[99, 97, 114, 116]⟩) ((pcs ⟨#[99, 97, 116]⟩).length + (pcs ⟨#[99, 97, 114, 116]⟩).length) 0 0 = l := ⟨_, rfl⟩
  rw [hl] at h ⊢
  rcases l with _ | ⟨x0, _ | ⟨x1, _ | ⟨x2, _ | ⟨x3, l⟩⟩⟩⟩
  · simp at h
  · simp at h
  · simp at h
  · simp at h
  · simp only [List.map_cons, List.cons.injEq, Prod.mk.injEq, List.map_eq_nil_iff] at h
    obtain ⟨_, _, ⟨h1, h2⟩, _, rfl⟩ := h
    show (if (2 : Int) = 2 then if (0 : Int) = 0 then if (0 : Int) = 0 then if ((4 : Nat) : Int) = 4 then if (2 : Int) < ((4 : Nat) : Int) then some (x2.f0 == 4 && (x2.f1.toList == [114])) else none else some false else some false else some false else some false) = some true
    rw [h1, h2]
    rfl
end Go.Proofs.YtalogampkkjcdaaDoor.Pure
