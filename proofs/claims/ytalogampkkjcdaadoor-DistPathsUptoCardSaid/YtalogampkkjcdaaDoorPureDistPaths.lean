/-
  Every way is the document's.
-/
import Derived.Test.YtalogampkkjcdaaDoorPureDistAwake
import Derived.Test.YtalogampkkjcdaaDoorPureDistRef
import Derived.Test.YtalogampkkjcdaaDoorPx10
import Derived.Test.YtalogampkkjcdaaDoorPx11
set_option linter.unusedVariables false
namespace Go.Proofs.YtalogampkkjcdaaDoor.Pure
open Go.RowKit Go.Proofs.YtalogampkkjcdaaDoor.P Go.Proofs.YtalogampkkjcdaaDoorW.PrintWords Go.Proofs.YtalogampkkjcdaaDoorW.PrintLast Go.Proofs.YtalogampkkjcdaaDoorW.PrintMore

theorem piece_at (a : ByteArray) (ha : a.size ≤ 4294967296) (i : Nat) (hi : i < (pcs a).length) :
    siglumref08_bytes.f a (rd_T75 (gCells a a.size 0) (i : Int)).f0 (rd_T75 (gCells a a.size 0) (i : Int)).f1 (rd_T75 (gCells a a.size 0) (i : Int)).f2 (rd_T75 (gCells a a.size 0) (i : Int)).f3 (rd_T75 (gCells a a.size 0) (i : Int)).f4 = some ((pcs a).getD i ByteArray.empty) := by
  have hl := pcs_len a
  obtain ⟨p, hp, e⟩ := cell_at a i (by omega)
  have e2 := (Pl.get_rd (gCells a a.size 0) i (by omega)).trans e
  rw [bytes_eq a p hp ha _ e2, e2]
  have e3 : (pcs a)[i] = pc a (gCells a a.size 0)[i] := by simp only [pcs, List.getElem_map]
  rw [List.getD_eq_getElem?_getD, List.getElem?_eq_getElem hi, Option.getD_some, e3, e]
theorem path_cell (a b : ByteArray) (X Y : List ByteArray) (hX : X = pcs a) (hY : Y = pcs b) (T : List (List Int)) (hT : goodTab (cb a) (cb b) T) (i j : Nat) (hi : i ≤ X.length) (hj : j ≤ Y.length) : (i : Int) < (T.length : Int) ∧ (j : Int) < ((rd_L7 T (i : Int)).length : Int) ∧ rd (rd_L7 T (i : Int)) (j : Int) = pD X Y i j := by
  have h1 : (cb a).length = X.length := by rw [hX, cb_pcs]
  have h2 : (cb b).length = Y.length := by rw [hY, cb_pcs]
  have g := hT.2 i (by omega)
  have hl := hT.1
  refine ⟨by omega, by have := g.1; omega, ?_⟩
  rw [g.2 j (Nat.zero_le _) (by omega), hX, hY]
  rfl
section
variable (a b : ByteArray) (ha : a.size ≤ 4294967296) (hb : b.size ≤ 4294967296) (X Y : List ByteArray) (hX : X = pcs a) (hY : Y = pcs b) (hXl : X.length ≤ 256) (hYl : Y.length ≤ 256) (L M : List S75) (hL : L = gCells a a.size 0) (hM : M = gCells b b.size 0)
  (T : List (List Int)) (hT : goodTab (cb a) (cb b) T)
include ha hb hX hY hXl hYl hL hM hT
theorem refpath_loop : ∀ (f i j k : Nat) (acc : List S30), i ≤ X.length → j ≤ Y.length → X.length + Y.length ≤ f + i + j → acc.length ≤ i + j → 6 * f + 6 ≤ k →
    siglumref08_Path.l0 k a b L M T acc (i : Int) (j : Int) = some (acc ++ pathL X Y f i j, 0) := by
  have hLl : (L.length : Int) = (X.length : Int) := by rw [hL, hX, pcs_len]
  have hMl : (M.length : Int) = (Y.length : Int) := by rw [hM, hY, pcs_len]
  intro f
  induction f with
  | zero =>
    intro i j k acc hi hj hf hacc hk
    obtain ⟨k, rfl⟩ : ∃ m, k = m + 2 := ⟨k - 2, by omega⟩
    rw [siglumref08_Path.l0, hLl, hMl, if_neg (by omega), decide_eq_false (by omega), siglumref08_Path.j1, if_neg (by simp)]
    simp [pathL]
  | succ f ih =>
    intro i j k acc hi hj hf hacc hk
    obtain ⟨k, rfl⟩ : ∃ m, k = m + 6 := ⟨k - 6, by omega⟩
    by_cases hij : i < X.length ∨ j < Y.length
    · have e1 : siglumref08_Path.l0 (k + 6) a b L M T acc (i : Int) (j : Int) = siglumref08_Path.j1 (k + 5) a b L M T acc (i : Int) (j : Int) true := by
        rw [siglumref08_Path.l0, hLl, hMl]
        by_cases h : i < X.length
        · rw [if_pos (by omega)]
        · rw [if_neg (by omega), decide_eq_true (by omega)]
      rw [e1, siglumref08_Path.j1, if_pos rfl, hLl, hMl]
      clear e1
      have wi : Aside0 (wrap64 ((i : Int) + 1) = ((i + 1 : Nat) : Int)) := ⟨by rw [ws _ (by omega) (by omega)]; rfl⟩
      have wj : Aside0 (wrap64 ((j : Int) + 1) = ((j + 1 : Nat) : Int)) := ⟨by rw [ws _ (by omega) (by omega)]; rfl⟩
      obtain ⟨t1, t2, t3⟩ := path_cell a b X Y hX hY T hT i j hi hj
      have bx := fun h : i < X.length => piece_at a ha i (by rw [← hX]; exact h)
      have by' := fun h : j < Y.length => piece_at b hb j (by rw [← hY]; exact h)
      rw [← hL, ← hX] at bx
      rw [← hM, ← hY] at by'
      have small : ∀ p q, 0 ≤ pD X Y p q ∧ pD X Y p q ≤ 256 := fun p q => pD_small X Y hXl hYl p q
      have w1 : ∀ p q, wrap64 (pD X Y p q + 1) = pD X Y p q + 1 := fun p q => ws _ (by have := small p q; omega) (by have := small p q; omega)
      have W1 := Aside0.mk w1
      clear small w1
      by_cases h1 : i < X.length
      · obtain ⟨u1, u2, u3⟩ := path_cell a b X Y hX hY T hT (i + 1) j h1 hj
        rw [if_pos (by omega)]
        by_cases h2 : j < Y.length
        · obtain ⟨v1, v2, v3⟩ := path_cell a b X Y hX hY T hT (i + 1) (j + 1) h1 h2
          have hs := same_cells a b i j (by rw [cb_pcs, ← hX]; exact h1) (by rw [cb_pcs, ← hY]; exact h2)
          rw [← hL, ← hM] at hs
          have hxi : (cb a)[i]'(by rw [cb_pcs, ← hX]; exact h1) = X[i].toList := by subst hX; unfold cb; rw [List.getElem_map]
          have hyj : (cb b)[j]'(by rw [cb_pcs, ← hY]; exact h2) = Y[j].toList := by subst hY; unfold cb; rw [List.getElem_map]
          rw [hxi, hyj] at hs
          have gx : X.getD i ByteArray.empty = X[i] := by rw [List.getD_eq_getElem?_getD, List.getElem?_eq_getElem h1]; rfl
          have gy : Y.getD j ByteArray.empty = Y[j] := by rw [List.getD_eq_getElem?_getD, List.getElem?_eq_getElem h2]; rfl
          rw [decide_eq_true (by omega), siglumref08_Path.j2, if_pos rfl, hLl, hMl, if_pos (by omega), if_pos (by omega), if_pos (by omega), if_pos (by omega), hs, Option.bind_some, wi.out, wj.out]
          by_cases hsame : X[i].toList = Y[j].toList
          · have hk2 := pD_keep X Y i j h1 h2 hsame
            rw [if_pos (decide_eq_true hsame), if_pos (by omega), if_pos v1, if_pos (by omega), if_pos v2, if_pos t1, if_pos t2, v3, t3, hk2, beq_self_eq_true, siglumref08_Path.j3, if_pos rfl, hLl, if_pos (by omega), if_pos (by omega), bx h1, Option.bind_some, if_pos (by omega), wi.out, wj.out]
            rw [ih (i + 1) (j + 1) _ _ h1 h2 (by omega) (by rw [List.length_append]; simp; omega) (by omega), pathL, if_pos ⟨h1, h2, by rw [gx, gy]; exact hsame⟩]
            simp
          · have n1 : ¬ (i < X.length ∧ j < Y.length ∧ (X.getD i ByteArray.empty).toList = (Y.getD j ByteArray.empty).toList) := fun h => hsame (by rw [← gx, ← gy]; exact h.2.2)
            rw [if_neg (by rw [decide_eq_false hsame]; simp), siglumref08_Path.j3, if_neg (by simp), if_pos rfl, hLl, hMl, if_pos (by omega), if_pos (by omega), if_pos (by omega), if_pos (by omega), hs, Option.bind_some, if_neg (by rw [decide_eq_false hsame]; simp), wi.out, wj.out, if_pos (by omega), if_pos v1, if_pos (by omega), if_pos v2, if_pos t1, if_pos t2, v3, t3, W1.out]
            by_cases hsw : pD X Y i j = pD X Y (i + 1) (j + 1) + 1
            · rw [show ((pD X Y (i + 1) (j + 1) + 1) == pD X Y i j) = true from beq_iff_eq.2 hsw.symm, siglumref08_Path.j4, if_pos rfl, hMl, if_pos (by omega), if_pos (by omega), by' h2, Option.bind_some, if_pos (by omega), wi.out, wj.out]
              rw [ih (i + 1) (j + 1) _ _ h1 h2 (by omega) (by rw [List.length_append]; simp; omega) (by omega), pathL, if_neg n1, if_pos ⟨h1, h2, hsw⟩]
              simp
            · have n2 : ¬ (i < X.length ∧ j < Y.length ∧ pD X Y i j = pD X Y (i + 1) (j + 1) + 1) := fun h => hsw h.2.2
              rw [show ((pD X Y (i + 1) (j + 1) + 1) == pD X Y i j) = false from beq_eq_false_iff_ne.2 (fun h => hsw h.symm), siglumref08_Path.j4, if_neg (by simp), hLl, if_pos (by omega), wi.out, if_pos (by omega), if_pos u1, if_pos (by omega), if_pos u2, if_pos (by omega), if_pos t1, if_pos t2, u3, t3, W1.out]
              by_cases hc : pD X Y i j = pD X Y (i + 1) j + 1
              · rw [show ((pD X Y (i + 1) j + 1) == pD X Y i j) = true from beq_iff_eq.2 hc.symm, siglumref08_Path.j5, if_pos rfl, hLl, if_pos (by omega), if_pos (by omega), bx h1, Option.bind_some, if_pos (by omega), wi.out]
                rw [ih (i + 1) j _ _ h1 hj (by omega) (by rw [List.length_append]; simp; omega) (by omega), pathL, if_neg n1, if_neg n2, if_pos ⟨h1, hc⟩]
                simp
              · rw [show ((pD X Y (i + 1) j + 1) == pD X Y i j) = false from beq_eq_false_iff_ne.2 (fun h => hc h.symm), siglumref08_Path.j5, if_neg (by simp), hMl, if_pos (by omega), if_pos (by omega), by' h2, Option.bind_some, if_pos (by omega), wj.out]
                rw [ih i (j + 1) _ _ hi h2 (by omega) (by rw [List.length_append]; simp; omega) (by omega), pathL, if_neg n1, if_neg n2, if_neg (fun h => hc h.2), if_pos h2]
                simp
        · have hjm : j = Y.length := by omega
          have hc : pD X Y i j = pD X Y (i + 1) j + 1 := by
            rw [hjm, pD_endr X Y i hi, pD_endr X Y (i + 1) h1]; omega
          rw [decide_eq_false (by omega), siglumref08_Path.j2, if_neg (by simp), siglumref08_Path.j3, if_neg (by simp), if_neg (by simp), siglumref08_Path.j4, if_neg (by simp), hLl, if_pos (by omega), wi.out, if_pos (by omega), if_pos u1, if_pos (by omega), if_pos u2, if_pos (by omega), if_pos t1, if_pos t2, u3, t3, W1.out]
          rw [show ((pD X Y (i + 1) j + 1) == pD X Y i j) = true from beq_iff_eq.2 hc.symm, siglumref08_Path.j5, if_pos rfl, hLl, if_pos (by omega), if_pos (by omega), bx h1, Option.bind_some, if_pos (by omega), wi.out]
          rw [ih (i + 1) j _ _ h1 hj (by omega) (by rw [List.length_append]; simp; omega) (by omega), pathL, if_neg (fun h => h2 h.2.1), if_neg (fun h => h2 h.2.1), if_pos ⟨h1, hc⟩]
          simp
      · have h2 : j < Y.length := by omega
        rw [if_neg (by omega), siglumref08_Path.j2, if_neg (by simp), siglumref08_Path.j3, if_neg (by simp), if_neg (by simp), siglumref08_Path.j4, if_neg (by simp), hLl, if_neg (by omega), siglumref08_Path.j5, if_neg (by simp), hMl, if_pos (by omega), if_pos (by omega), by' h2, Option.bind_some, if_pos (by omega), wj.out]
        rw [ih i (j + 1) _ _ hi h2 (by omega) (by rw [List.length_append]; simp; omega) (by omega), pathL, if_neg (fun h => h1 h.1), if_neg (fun h => h1 h.1), if_neg (fun h => h1 h.1), if_pos h2]
        simp
    · rw [siglumref08_Path.l0, hLl, hMl, if_neg (by omega), decide_eq_false (by omega), siglumref08_Path.j1, if_neg (by simp), pathL_end X Y _ i j hij]
      simp
end
theorem refpath_eq (a b : ByteArray) (ha : a.size ≤ 4294967296) (hb : b.size ≤ 4294967296) (k : Nat) (hk : kOf a b ≤ k) :
    siglumref08_Path.f k a b = some (if (cb a).length ≤ 256 ∧ (cb b).length ≤ 256 then (pathL (pcs a) (pcs b) ((pcs a).length + (pcs b).length) 0 0, 0) else ([], 1)) := by
  unfold siglumref08_Path.f
  rw [refcells_eq a b ha hb k hk, Option.bind_some]
  dsimp only
  by_cases h : (cb a).length ≤ 256 ∧ (cb b).length ≤ 256
  · rw [if_pos (decide_eq_true h), if_pos h]
    unfold kOf at hk
    obtain ⟨T, hT, hg⟩ := rests_ok (cb a) (cb b) (gCells a a.size 0) (gCells b b.size 0) h.1 h.2 (cb_len a).symm (cb_len b).symm (fun i j hi hj => same_cells a b i j hi hj) k (by omega)
    rw [hT, Option.bind_some]
    rw [cb_pcs, cb_pcs] at h
    have := refpath_loop a b ha hb (pcs a) (pcs b) rfl rfl h.1 h.2 _ _ rfl rfl T hg ((pcs a).length + (pcs b).length) 0 0 k [] (Nat.zero_le _) (Nat.zero_le _) (by omega) (Nat.zero_le _) (by omega)
    simpa using this
  · rw [if_neg (by rw [decide_eq_false h]; simp), if_neg h]
theorem edits_same (l : List S30) (hl : l.length ≤ 512) : ∀ (d i k : Nat), i + d = l.length → d + 1 ≤ k → siglumlaw08_DistPaths.l0 k l l (l.length : Int) (i : Int) = some true
  | 0, i, k, hd, hk => by
    obtain ⟨k, rfl⟩ : ∃ m, k = m + 1 := ⟨k - 1, by omega⟩
    rw [siglumlaw08_DistPaths.l0, if_neg (by omega)]
  | d + 1, i, k, hd, hk => by
    obtain ⟨k, rfl⟩ : ∃ m, k = m + 1 := ⟨k - 1, by omega⟩
    have wi : Aside0 (wrap64 ((i : Int) + 1) = ((i + 1 : Nat) : Int)) := ⟨by rw [ws _ (by omega) (by omega)]; rfl⟩
    rw [siglumlaw08_DistPaths.l0, if_pos (by omega), if_pos (by omega), if_pos (by omega), if_pos (by omega), if_neg (by simp), wi.out]
    exact edits_same l hl d (i + 1) k (by omega) (by omega)
theorem DistPaths (a0 a1 : ByteArray) (_ : a0.size ≤ maxLen) (_ : a1.size ≤ maxLen) (hb : (a0.size + 1) + (a1.size + 1) ≤ 1048576) : ∃ k, siglumlaw08_DistPaths.f k a0 a1 = some true := by
  have h0 : a0.size ≤ 4294967296 := by omega
  have h1 : a1.size ≤ 4294967296 := by omega
  have k01 : kOf a0 a1 ≤ 2999999 := by unfold kOf; omega
  refine ⟨2999999 + 1, ?_⟩
  unfold siglumlaw08_DistPaths.f
  rw [awake8 _ (by decide), Option.bind_some, if_pos rfl, path_eq a0 a1 h0 h1 _ (by omega), Option.bind_some, refpath_eq a0 a1 h0 h1 _ (by omega), Option.bind_some, if_pos rfl]
  obtain ⟨l, hl, hl2⟩ : ∃ l : List S30 × Int, (if (cb a0).length ≤ 256 ∧ (cb a1).length ≤ 256 then (pathL (pcs a0) (pcs a1) ((pcs a0).length + (pcs a1).length) 0 0, 0) else ([], 1)) = l ∧ l.1.length ≤ 512 := by
    refine ⟨_, rfl, ?_⟩
    split
    · rename_i h
      rw [cb_pcs, cb_pcs] at h
      have := pathL_len (pcs a0) (pcs a1) ((pcs a0).length + (pcs a1).length) 0 0
      show (pathL _ _ _ _ _).length ≤ 512
      omega
    · exact Nat.zero_le _
  rw [hl, bne_self_eq_false, siglumlaw08_DistPaths.j0, if_neg (by simp)]
  exact edits_same l.1 hl2 l.1.length 0 _ (by omega) (by omega)
end Go.Proofs.YtalogampkkjcdaaDoor.Pure
