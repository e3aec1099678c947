/-
  The distance is one: 0 just for the same text, both ways alike, no more than by way of a third.
-/
import Derived.Test.YtalogampkkjcdaaDoorPureDistAwake
import Derived.Test.YtalogampkkjcdaaDoorUx7
namespace Go.Proofs.YtalogampkkjcdaaDoor.Pure
open Go.RowKit Go.Proofs.YtalogampkkjcdaaDoor.U Go.Proofs.YtalogampkkjcdaaDoorW.PrintWords Go.Proofs.YtalogampkkjcdaaDoorW.PrintLast Go.Proofs.YtalogampkkjcdaaDoorW.PrintMore
theorem long_eq (a : ByteArray) (ha : a.size ≤ 4294967296) (k : Nat) (hk : a.size + 12 ≤ k) : siglumlaw08_long.f k a = some (decide (256 < (cb a).length)) := by
  have hl := Pl.cells_le a
  unfold siglumlaw08_long.f
  rw [cb_len]
  by_cases h : (a.size : Int) > 256
  · rw [if_pos h, Pl.cells_eq k a ha hk, Option.bind_some]
    congr 1
    rw [Bool.eq_iff_iff]
    simp only [decide_eq_true_eq]
    omega
  · rw [if_neg h]
    congr 1
    symm
    rw [decide_eq_false_iff_not]
    omega
theorem dOf_short (a b : ByteArray) (ha : (cb a).length ≤ 256) (hb : (cb b).length ≤ 256) : dOf a b = (((Lv.lev (cb a) (cb b) : Nat) : Int), 0) := by
  unfold dOf
  rw [if_pos ⟨ha, hb⟩]
theorem DistMetric (a0 a1 a2 : ByteArray) (_ : a0.size ≤ maxLen) (_ : a1.size ≤ maxLen) (_ : a2.size ≤ maxLen) (hb : (a0.size + 1) + (a1.size + 1) + (a2.size + 1) ≤ 1048576) : ∃ k, siglumlaw08_DistMetric.f k a0 a1 a2 = some true := by
  have h0 : a0.size ≤ 4294967296 := by omega
  have h1 : a1.size ≤ 4294967296 := by omega
  have h2 : a2.size ≤ 4294967296 := by omega
  have k01 : kOf a0 a1 ≤ 2999999 := by unfold kOf; omega
  have k10 : kOf a1 a0 ≤ 2999999 := by unfold kOf; omega
  have k12 : kOf a1 a2 ≤ 2999999 := by unfold kOf; omega
  have k02 : kOf a0 a2 ≤ 2999999 := by unfold kOf; omega
  have k00 : kOf a0 a0 ≤ 2999999 := by unfold kOf; omega
  refine ⟨2999999 + 1, ?_⟩
  unfold siglumlaw08_DistMetric.f
  rw [awake8 _ (by decide), Option.bind_some, if_pos rfl, long_eq a0 h0 _ (by omega), long_eq a1 h1 _ (by omega), long_eq a2 h2 _ (by omega)]
  simp only [Option.bind_some]
  have ht : siglumlaw08_DistMetric.j0 (2999999 + 1) a0 a1 a2 true = some true := by rw [siglumlaw08_DistMetric.j0, if_pos rfl]
  by_cases l0 : 256 < (cb a0).length
  · rw [if_pos (decide_eq_true l0)]; exact ht
  · rw [if_neg (by rw [decide_eq_false l0]; simp)]
    by_cases l1 : 256 < (cb a1).length
    · rw [if_pos (decide_eq_true l1)]; exact ht
    · rw [if_neg (by rw [decide_eq_false l1]; simp)]
      by_cases l2 : 256 < (cb a2).length
      · rw [decide_eq_true l2]; exact ht
      · rw [decide_eq_false l2, siglumlaw08_DistMetric.j0, if_neg (by simp), of_eq a0 a1 h0 h1 _ k01, of_eq a1 a0 h1 h0 _ k10, of_eq a1 a2 h1 h2 _ k12, of_eq a0 a2 h0 h2 _ k02, of_eq a0 a0 h0 h0 _ k00]
        simp only [Option.bind_some]
        have m0 : (cb a0).length ≤ 256 := by omega
        have m1 : (cb a1).length ≤ 256 := by omega
        have m2 : (cb a2).length ≤ 256 := by omega
        rw [dOf_short a0 a1 m0 m1, dOf_short a1 a0 m1 m0, dOf_short a1 a2 m1 m2, dOf_short a0 a2 m0 m2, dOf_short a0 a0 m0 m0]
        dsimp only
        have s1 := Lv.lev_max (cb a0) (cb a1)
        have s2 := Lv.lev_max (cb a1) (cb a2)
        have tr := Lv.lev_trans (cb a0) (cb a1) (cb a2)
        have hz : ((((Lv.lev (cb a0) (cb a1) : Nat) : Int) == 0) == (a0.toList == a1.toList)) = true := by
          have hz0 : (Lv.lev (cb a0) (cb a1) = 0) ↔ a0.toList = a1.toList := Lv.lev_zero.trans (cb_inj a0 a1)
          rw [beq_iff_eq, Bool.eq_iff_iff, beq_iff_eq, beq_iff_eq, ← hz0]
          exact Int.natCast_eq_zero
        have hself := Lv.lev_self (cb a0)
        have hsy := Lv.lev_symm (cb a1) (cb a0)
        obtain ⟨x, hx⟩ : ∃ x, Lv.lev (cb a0) (cb a1) = x := ⟨_, rfl⟩
        obtain ⟨z, hz2⟩ : ∃ x, Lv.lev (cb a1) (cb a2) = x := ⟨_, rfl⟩
        obtain ⟨v, hv⟩ : ∃ x, Lv.lev (cb a0) (cb a2) = x := ⟨_, rfl⟩
        rw [hx] at s1 tr hz hsy
        rw [hz2] at s2 tr
        rw [hv] at tr
        rw [hx, hz2, hv, hsy, hself]
        clear hx hz2 hv hsy hself l0 l1 l2 ht
        have hw : Aside0 (wrap64 ((x : Int) + (z : Int)) = (x : Int) + (z : Int)) := ⟨ws _ (by omega) (by omega)⟩
        rw [if_pos rfl, if_pos rfl, if_pos rfl, if_pos rfl, if_pos rfl, if_pos rfl, if_pos hz, if_pos (by rfl), hw.out, if_pos (by omega)]
        rw [decide_eq_true (by omega)]
end Go.Proofs.YtalogampkkjcdaaDoor.Pure
