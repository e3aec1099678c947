/-
  Of short texts no way is cheaper: all are gone through.
-/
import Derived.Test.YtalogampkkjcdaaDoorPureDistAwake
import Derived.Test.YtalogampkkjcdaaDoorUx9
import Derived.Test.YtalogampkkjcdaaDoorUx10
namespace Go.Proofs.YtalogampkkjcdaaDoor.Pure
open Go.RowKit Go.Proofs.YtalogampkkjcdaaDoor.U Go.Proofs.YtalogampkkjcdaaDoorW.PrintWords Go.Proofs.YtalogampkkjcdaaDoorW.PrintLast Go.Proofs.YtalogampkkjcdaaDoorW.PrintMore

theorem mn_nat (a b : Nat) : mn (a : Int) (b : Int) = ((min a b : Nat) : Int) := by
  rw [mn_eq]
  omega
/-- All ways are gone through: the least is the edit distance (of cells told apart as A's and B's are). -/
theorem least_ok : ∀ (n : Nat) (L M : List S75) (A B : List (List UInt8)) (k : Nat), L.length = A.length → M.length = B.length → A.length ≤ 5 → B.length ≤ 5 → A.length + B.length ≤ n → 2 * n + 2 ≤ k →
    (∀ (i j : Nat) (hi : i < A.length) (hj : j < B.length), siglumref08_Same.f (rd_T75 L (i : Int)).f0 (rd_T75 L (i : Int)).f1 (rd_T75 L (i : Int)).f2 (rd_T75 L (i : Int)).f3 (rd_T75 L (i : Int)).f4 (rd_T75 M (j : Int)).f0 (rd_T75 M (j : Int)).f1 (rd_T75 M (j : Int)).f2 (rd_T75 M (j : Int)).f3 (rd_T75 M (j : Int)).f4 = some (decide (A[i] = B[j]))) →
    siglumlaw08_least.f k L M = some ((Lv.lev A B : Nat) : Int) := by
  have rdt : ∀ (x : S75) (l : List S75) (i : Nat), rd_T75 (x :: l) ((i + 1 : Nat) : Int) = rd_T75 l (i : Int) := by
    intro x l i
    unfold rd_T75
    rw [Int.toNat_natCast, Int.toNat_natCast, List.getD_cons_succ]
  intro n
  induction n with
  | zero =>
    intro L M A B k hL hM hA hB hn hk hS
    obtain ⟨k, rfl⟩ : ∃ m, k = m + 2 := ⟨k - 2, by omega⟩
    obtain rfl : A = [] := List.eq_nil_of_length_eq_zero (by omega)
    obtain rfl : B = [] := List.eq_nil_of_length_eq_zero (by omega)
    obtain rfl : L = [] := List.eq_nil_of_length_eq_zero (by rw [hL]; rfl)
    obtain rfl : M = [] := List.eq_nil_of_length_eq_zero (by rw [hM]; rfl)
    rw [siglumlaw08_least.f, if_pos (by rfl), siglumlaw08_least.j0, if_pos rfl]
    show some (wrap64 0) = some 0
    rw [ws 0 (by decide) (by decide)]
  | succ n ih =>
    intro L M A B k hL hM hA hB hn hk hS
    obtain ⟨k, rfl⟩ : ∃ m, k = m + 2 := ⟨k - 2, by omega⟩
    have hend : (A = [] ∨ B = []) → siglumlaw08_least.j0 (k + 1) L M true = some ((Lv.lev A B : Nat) : Int) := by
      intro h
      have hw : Aside0 (wrap64 ((L.length : Int) + (M.length : Int)) = (L.length : Int) + (M.length : Int)) := ⟨ws _ (by omega) (by omega)⟩
      rw [siglumlaw08_least.j0, if_pos rfl, hw.out, hL, hM]
      rcases h with rfl | rfl
      · rw [Lv.lev_nil]; simp
      · rw [Lv.lev_nil']; simp
    rw [siglumlaw08_least.f]
    cases A with
    | nil => rw [if_pos (by rw [hL]; rfl)]; exact hend (.inl rfl)
    | cons a A =>
      rw [if_neg (by rw [hL, List.length_cons]; omega)]
      cases B with
      | nil =>
        have : ((M.length : Int) == 0) = true := by rw [hM]; rfl
        rw [this]; exact hend (.inr rfl)
      | cons b B =>
        have hm0 : ((M.length : Int) == 0) = false := by rw [hM]; exact beq_eq_false_iff_ne.2 (by rw [List.length_cons]; omega)
        rw [hm0]
        clear hend hm0
        rcases L with _ | ⟨x, L⟩
        · simp at hL
        rcases M with _ | ⟨y, M⟩
        · simp at hM
        have hL2 : L.length = A.length := by simpa using hL
        have hM2 : M.length = B.length := by simpa using hM
        rw [List.length_cons] at hA hB
        rw [List.length_cons, List.length_cons] at hn
        have r1 := ih L M A B k hL2 hM2 (by omega) (by omega) (by omega) (by omega) (fun i j hi hj => by have := hS (i + 1) (j + 1) (by rw [List.length_cons]; omega) (by rw [List.length_cons]; omega); rw [rdt, rdt] at this; exact this)
        have r2 := ih L (y :: M) A (b :: B) k hL2 hM (by omega) (by rw [List.length_cons]; omega) (by rw [List.length_cons]; omega) (by omega) (fun i j hi hj => by have := hS (i + 1) j (by rw [List.length_cons]; omega) hj; rw [rdt] at this; exact this)
        have r3 := ih (x :: L) M (a :: A) B k hL hM2 (by rw [List.length_cons]; omega) (by omega) (by rw [List.length_cons]; omega) (by omega) (fun i j hi hj => by have := hS i (j + 1) hi (by rw [List.length_cons]; omega); rw [rdt] at this; exact this)
        have s0 := hS 0 0 (by rw [List.length_cons]; omega) (by rw [List.length_cons]; omega)
        have d1 : (x :: L).drop 1 = L := rfl
        have d2 : (y :: M).drop 1 = M := rfl
        have b1 := Lv.lev_max A B
        have b2 := Lv.lev_max A (b :: B)
        have b3 := Lv.lev_max (a :: A) B
        rw [List.length_cons] at b2 b3
        have hc := Lv.lev_cons a b A B
        obtain ⟨u1, h1⟩ : ∃ u, Lv.lev A B = u := ⟨_, rfl⟩
        obtain ⟨u2, h2⟩ : ∃ u, Lv.lev A (b :: B) = u := ⟨_, rfl⟩
        obtain ⟨u3, h3⟩ : ∃ u, Lv.lev (a :: A) B = u := ⟨_, rfl⟩
        rw [h1] at r1 b1 hc
        rw [h2] at r2 b2 hc
        rw [h3] at r3 b3 hc
        clear h1 h2 h3 hS ih
        have e1 : Aside0 (wrap64 ((u1 : Int) + 1) = ((u1 + 1 : Nat) : Int)) := ⟨by rw [ws _ (by omega) (by omega)]; rfl⟩
        have e2 : Aside0 (wrap64 ((u2 : Int) + 1) = ((u2 + 1 : Nat) : Int)) := ⟨by rw [ws _ (by omega) (by omega)]; rfl⟩
        have e3 : Aside0 (wrap64 ((u3 : Int) + 1) = ((u3 + 1 : Nat) : Int)) := ⟨by rw [ws _ (by omega) (by omega)]; rfl⟩
        have s1 : siglumref08_Same.f (rd_T75 (x :: L) 0).f0 (rd_T75 (x :: L) 0).f1 (rd_T75 (x :: L) 0).f2 (rd_T75 (x :: L) 0).f3 (rd_T75 (x :: L) 0).f4 (rd_T75 (y :: M) 0).f0 (rd_T75 (y :: M) 0).f1 (rd_T75 (y :: M) 0).f2 (rd_T75 (y :: M) 0).f3 (rd_T75 (y :: M) 0).f4 = some (decide (a = b)) := s0
        have lx : 0 < ((x :: L).length : Int) := by rw [List.length_cons]; omega
        have ly : 0 < ((y :: M).length : Int) := by rw [List.length_cons]; omega
        rw [siglumlaw08_least.j0, if_neg (by simp), if_pos (by omega), if_pos (by omega), d1, d2, r1, Option.bind_some, if_pos lx, if_pos ly, s1, Option.bind_some, r2, r3]
        by_cases hab : a = b
        · rw [if_pos (decide_eq_true hab)]
          simp only [Option.bind_some]
          rw [e2.out, e3.out, mn_nat, mn_nat, hc, if_pos hab]
          congr 2
          omega
        · rw [if_neg (by rw [decide_eq_false hab]; simp)]
          simp only [Option.bind_some]
          rw [e1.out, e2.out, e3.out, mn_nat, mn_nat, hc, if_neg hab]
          congr 2
          omega
theorem DistLeast (a0 a1 : ByteArray) (_ : a0.size ≤ maxLen) (_ : a1.size ≤ maxLen) (hb : (a0.size + 1) + (a1.size + 1) ≤ 1048576) : ∃ k, siglumlaw08_DistLeast.f k a0 a1 = some true := by
  have h0 : a0.size ≤ 4294967296 := by omega
  have h1 : a1.size ≤ 4294967296 := by omega
  have k01 : kOf a0 a1 ≤ 2999999 := by unfold kOf; omega
  have c0 := cb_len a0
  have c1 := cb_len a1
  refine ⟨2999999 + 1, ?_⟩
  unfold siglumlaw08_DistLeast.f
  rw [awake8 _ (by decide), Option.bind_some, if_pos rfl, Pl.cells_eq _ a0 h0 (by omega), Option.bind_some, Pl.cells_eq _ a1 h1 (by omega), Option.bind_some]
  have ht : siglumlaw08_DistLeast.j0 (2999999 + 1) a0 a1 (gCells a0 a0.size 0) (gCells a1 a1.size 0) true = some true := by rw [siglumlaw08_DistLeast.j0, if_pos rfl]
  by_cases l0 : 5 < (cb a0).length
  · rw [if_pos (by omega)]; exact ht
  · rw [if_neg (by omega)]
    by_cases l1 : 5 < (cb a1).length
    · rw [decide_eq_true (by omega)]; exact ht
    · rw [decide_eq_false (by omega), siglumlaw08_DistLeast.j0, if_neg (by simp), of_eq a0 a1 h0 h1 _ k01, Option.bind_some]
      have hd : dOf a0 a1 = (((Lv.lev (cb a0) (cb a1) : Nat) : Int), 0) := by unfold dOf; rw [if_pos ⟨by omega, by omega⟩]
      rw [hd]
      dsimp only
      rw [if_pos rfl, least_ok 10 _ _ (cb a0) (cb a1) _ c0.symm c1.symm (by omega) (by omega) (by omega) (by omega) (fun i j hi hj => same_cells a0 a1 i j hi hj), Option.bind_some, beq_self_eq_true]
end Go.Proofs.YtalogampkkjcdaaDoor.Pure
