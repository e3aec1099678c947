/-
  The way leads there, and costs just the distance.
-/
import Derived.Test.YtalogampkkjcdaaDoorPureDistAwake
import Derived.Test.YtalogampkkjcdaaDoorBx7
import Derived.Test.YtalogampkkjcdaaDoorBx11
set_option linter.unusedVariables false
namespace Go.Proofs.YtalogampkkjcdaaDoor.Pure
open Go.RowKit Go.Proofs.YtalogampkkjcdaaDoor.B Go.Proofs.YtalogampkkjcdaaDoorW.PrintWords Go.Proofs.YtalogampkkjcdaaDoorW.PrintLast Go.Proofs.YtalogampkkjcdaaDoorW.PrintMore

theorem long_eq (a : ByteArray) (ha : a.size ≤ 4294967296) (k : Nat) (hk : a.size + 12 ≤ k) : siglumlaw08_long.f k a = some (decide (256 < (cb a).length)) := by
  have hl := Pl.cells_le a
  unfold siglumlaw08_long.f
  rw [cb_len]
  by_cases h : (a.size : Int) > 256
  · rw [if_pos h, Pl.cells_eq k a ha hk, Option.bind_some]
    congr 1
    rw [Bool.eq_iff_iff]
    simp only [decide_eq_true_eq]
    omega
  · rw [if_neg h]
    congr 1
    symm
    rw [decide_eq_false_iff_not]
    omega
theorem apply_eq (a : ByteArray) (ha : a.size ≤ 4294967296) (l : List S30) (hl : l.length ≤ 1048576) (hs : editSum l ≤ 4294967296) (k : Nat) (hk : a.size + 1 ≤ k) : dist_Apply.f k a l = some (applied (applyL (pcs a) l [])) := by
  have hc := Pl.cells_le a
  have hp := pcs_len a
  unfold dist_Apply.f
  rw [pieces_eq a ha k hk, Option.bind_some, if_pos ⟨by omega, by omega, by omega⟩]
/-- The bytes of pieces. -/
def bytesAll (X : List ByteArray) : List UInt8 := (X.map (·.data.toList)).flatten
theorem bytesAll_cons (x : ByteArray) (X : List ByteArray) : bytesAll (x :: X) = x.data.toList ++ bytesAll X := by unfold bytesAll; rw [List.map_cons, List.flatten_cons]
theorem bytesAll_pcs (a : ByteArray) : bytesAll (pcs a) = a.data.toList := by
  have := cb_flat a
  unfold cb at this
  unfold bytesAll
  rw [← this]
  congr 1
  apply List.map_congr_left
  intro x _
  exact (toList_data x).symm
theorem getD_at (X : List ByteArray) (i : Nat) (h : i < X.length) : X.getD i ByteArray.empty = X[i] := by rw [List.getD_eq_getElem?_getD, List.getElem?_eq_getElem h]; rfl
theorem data_of (x y : ByteArray) (h : x.toList = y.toList) : x.data.toList = y.data.toList := by rw [← toList_data, ← toList_data, h]
def notKeep (l : List S30) : Int := ((l.filter fun e => decide (¬ e.f0 = 1)).length : Nat)
theorem notKeep_cons (e : S30) (l : List S30) : notKeep (e :: l) = if e.f0 = 1 then notKeep l else notKeep l + 1 := by
  unfold notKeep
  by_cases h : e.f0 = 1 <;> simp [h]
/-- The way, done: it gives the other text's bytes; it brings no more bytes than both texts have; as many edits as the distance are no keeping. -/
theorem way_done (X Y : List ByteArray) : ∀ (f i j : Nat) (acc : List UInt8), i ≤ X.length → j ≤ Y.length → X.length + Y.length ≤ f + i + j →
    applyL (X.drop i) (pathL X Y f i j) acc = some (acc ++ bytesAll (Y.drop j)) ∧ editSum (pathL X Y f i j) ≤ (bytesAll (X.drop i)).length + (bytesAll (Y.drop j)).length ∧ notKeep (pathL X Y f i j) = pD X Y i j
  | 0, i, j, acc, hi, hj, hf => by
    have h1 : i = X.length := by omega
    have h2 : j = Y.length := by omega
    subst h1 h2
    refine ⟨?_, ?_, ?_⟩
    · rw [List.drop_length, List.drop_length, pathL]
      unfold applyL
      simp [bytesAll]
    · exact Nat.zero_le _
    · rw [pD_endl X Y Y.length (Nat.le_refl _)]
      simp [pathL, notKeep]
  | f + 1, i, j, acc, hi, hj, hf => by
    by_cases hij : i < X.length ∨ j < Y.length
    · by_cases h1 : i < X.length
      · have dx := List.drop_eq_getElem_cons h1
        have gx := getD_at X i h1
        by_cases h2 : j < Y.length
        · have dy := List.drop_eq_getElem_cons h2
          have gy := getD_at Y j h2
          by_cases hsame : X[i].toList = Y[j].toList
          · obtain ⟨a1, a2, a3⟩ := way_done X Y f (i + 1) (j + 1) (acc ++ X[i].data.toList) h1 h2 (by omega)
            have hp : pathL X Y (f + 1) i j = ⟨1, X[i]⟩ :: pathL X Y f (i + 1) (j + 1) := by rw [pathL, if_pos ⟨h1, h2, by rw [gx, gy]; exact hsame⟩, gx]
            rw [hp, dx, dy, bytesAll_cons, bytesAll_cons]
            refine ⟨?_, ?_, ?_⟩
            · unfold applyL
              simp only [if_true]
              rw [a1, data_of _ _ hsame, List.append_assoc]
            · show X[i].size + editSum _ ≤ _
              have : X[i].data.toList.length = X[i].size := by rw [Array.length_toList]; rfl
              rw [List.length_append, List.length_append]
              omega
            · rw [pD_keep X Y i j h1 h2 hsame, ← a3]
              rfl
          · have n1 : ¬ (i < X.length ∧ j < Y.length ∧ (X.getD i ByteArray.empty).toList = (Y.getD j ByteArray.empty).toList) := fun h => hsame (by rw [← gx, ← gy]; exact h.2.2)
            have sz : Y[j].data.toList.length = Y[j].size := by rw [Array.length_toList]; rfl
            have szx : X[i].data.toList.length = X[i].size := by rw [Array.length_toList]; rfl
            by_cases hsw : pD X Y i j = pD X Y (i + 1) (j + 1) + 1
            · obtain ⟨a1, a2, a3⟩ := way_done X Y f (i + 1) (j + 1) (acc ++ Y[j].data.toList) h1 h2 (by omega)
              have hp : pathL X Y (f + 1) i j = ⟨2, Y[j]⟩ :: pathL X Y f (i + 1) (j + 1) := by rw [pathL, if_neg n1, if_pos ⟨h1, h2, hsw⟩, gy]
              rw [hp, dx, dy, bytesAll_cons, bytesAll_cons]
              refine ⟨?_, ?_, ?_⟩
              · unfold applyL
                simp [a1]
              · show Y[j].size + editSum _ ≤ _
                rw [List.length_append, List.length_append]
                omega
              · rw [hsw, ← a3]
                simp [notKeep]
            · have n2 : ¬ (i < X.length ∧ j < Y.length ∧ pD X Y i j = pD X Y (i + 1) (j + 1) + 1) := fun h => hsw h.2.2
              by_cases hc : pD X Y i j = pD X Y (i + 1) j + 1
              · obtain ⟨a1, a2, a3⟩ := way_done X Y f (i + 1) j acc h1 hj (by omega)
                have hp : pathL X Y (f + 1) i j = ⟨3, X[i]⟩ :: pathL X Y f (i + 1) j := by rw [pathL, if_neg n1, if_neg n2, if_pos ⟨h1, hc⟩, gx]
                rw [hp, dx, bytesAll_cons]
                refine ⟨?_, ?_, ?_⟩
                · unfold applyL
                  simp [a1]
                · show X[i].size + editSum _ ≤ _
                  rw [List.length_append]
                  omega
                · rw [hc, ← a3]
                  simp [notKeep]
              · obtain ⟨a1, a2, a3⟩ := way_done X Y f i (j + 1) (acc ++ Y[j].data.toList) hi h2 (by omega)
                have hp : pathL X Y (f + 1) i j = ⟨4, Y[j]⟩ :: pathL X Y f i (j + 1) := by rw [pathL, if_neg n1, if_neg n2, if_neg (fun h => hc h.2), if_pos h2, gy]
                have hd : pD X Y i j = pD X Y i (j + 1) + 1 := by
                  have := pD_swap X Y i j h1 h2 hsame
                  omega
                rw [hp, dy, bytesAll_cons]
                refine ⟨?_, ?_, ?_⟩
                · unfold applyL
                  simp [a1]
                · show Y[j].size + editSum _ ≤ _
                  rw [List.length_append]
                  omega
                · rw [hd, ← a3]
                  simp [notKeep]
        · have hjm : j = Y.length := by omega
          have hc : pD X Y i j = pD X Y (i + 1) j + 1 := by rw [hjm, pD_endr X Y i hi, pD_endr X Y (i + 1) h1]; omega
          have szx : X[i].data.toList.length = X[i].size := by rw [Array.length_toList]; rfl
          obtain ⟨a1, a2, a3⟩ := way_done X Y f (i + 1) j acc h1 hj (by omega)
          have hp : pathL X Y (f + 1) i j = ⟨3, X[i]⟩ :: pathL X Y f (i + 1) j := by rw [pathL, if_neg (fun h => h2 h.2.1), if_neg (fun h => h2 h.2.1), if_pos ⟨h1, hc⟩, gx]
          rw [hp, dx, bytesAll_cons]
          refine ⟨?_, ?_, ?_⟩
          · unfold applyL
            simp [a1]
          · show X[i].size + editSum _ ≤ _
            rw [List.length_append]
            omega
          · rw [hc, ← a3]
            simp [notKeep]
      · have h2 : j < Y.length := by omega
        have dy := List.drop_eq_getElem_cons h2
        have gy := getD_at Y j h2
        have sz : Y[j].data.toList.length = Y[j].size := by rw [Array.length_toList]; rfl
        have hi2 : i = X.length := by omega
        obtain ⟨a1, a2, a3⟩ := way_done X Y f i (j + 1) (acc ++ Y[j].data.toList) hi h2 (by omega)
        have hp : pathL X Y (f + 1) i j = ⟨4, Y[j]⟩ :: pathL X Y f i (j + 1) := by rw [pathL, if_neg (fun h => h1 h.1), if_neg (fun h => h1 h.1), if_neg (fun h => h1 h.1), if_pos h2, gy]
        have hd : pD X Y i j = pD X Y i (j + 1) + 1 := by rw [hi2, pD_endl X Y j hj, pD_endl X Y (j + 1) h2]; omega
        rw [hp, dy, bytesAll_cons]
        refine ⟨?_, ?_, ?_⟩
        · unfold applyL
          simp [a1]
        · show Y[j].size + editSum _ ≤ _
          rw [List.length_append]
          omega
        · rw [hd, ← a3]
          simp [notKeep]
    · have h1 : i = X.length := by omega
      have h2 : j = Y.length := by omega
      rw [pathL_end X Y _ i j hij]
      subst h1 h2
      refine ⟨?_, Nat.zero_le _, ?_⟩
      · rw [List.drop_length, List.drop_length]
        unfold applyL
        simp [bytesAll]
      · rw [pD_endl X Y Y.length (Nat.le_refl _)]
        simp [notKeep]
theorem get_edit (l : List S30) (i : Nat) (h : i < l.length) : rd_T30 l (i : Int) = l[i] := by
  unfold rd_T30
  rw [Int.toNat_natCast, List.getD_eq_getElem?_getD, List.getElem?_eq_getElem h]
  rfl
theorem back_loop (b : ByteArray) (l : List S30) (hl : l.length ≤ 512) : ∀ (d i k : Nat) (n : Int), i + d = l.length → d + 1 ≤ k → n = notKeep (l.drop i) →
    siglumlaw08_DistBack.l0 k b 0 b 0 n 0 l (l.length : Int) (i : Int) = some true
  | 0, i, k, n, hd, hk, hn => by
    obtain ⟨k, rfl⟩ : ∃ m, k = m + 1 := ⟨k - 1, by omega⟩
    have : n = 0 := by rw [hn, List.drop_of_length_le (by omega)]; rfl
    subst this
    rw [siglumlaw08_DistBack.l0, if_neg (by omega), if_pos rfl, if_pos rfl, if_pos rfl, if_pos rfl]
    rfl
  | d + 1, i, k, n, hd, hk, hn => by
    obtain ⟨k, rfl⟩ : ∃ m, k = m + 1 := ⟨k - 1, by omega⟩
    have hi : i < l.length := by omega
    have hdr := List.drop_eq_getElem_cons hi
    have he := get_edit l i hi
    have hle : (l.drop (i + 1)).length ≤ 512 := by rw [List.length_drop]; omega
    have hnk : 0 ≤ notKeep (l.drop (i + 1)) ∧ notKeep (l.drop (i + 1)) ≤ 512 := by
      unfold notKeep
      have := List.length_filter_le (fun e : S30 => decide (¬ e.f0 = 1)) (l.drop (i + 1))
      omega
    have wi : Aside0 (wrap64 ((i : Int) + 1) = ((i + 1 : Nat) : Int)) := ⟨by rw [ws _ (by omega) (by omega)]; rfl⟩
    rw [siglumlaw08_DistBack.l0, if_pos (by omega), if_pos (by omega), if_pos (by omega), he, wi.out]
    by_cases h : l[i].f0 = 1
    · rw [if_pos h]
      refine back_loop b l hl d (i + 1) k n (by omega) (by omega) ?_
      rw [hn, hdr, notKeep_cons, if_pos h]
    · have hn2 : n = notKeep (l.drop (i + 1)) + 1 := by
        rw [hn, hdr, notKeep_cons, if_neg h]
      have wn : Aside0 (wrap64 (n - 1) = n - 1) := ⟨ws _ (by omega) (by omega)⟩
      rw [if_neg h, wn.out]
      exact back_loop b l hl d (i + 1) k (n - 1) (by omega) (by omega) (by omega)
theorem DistBack (a0 a1 : ByteArray) (_ : a0.size ≤ maxLen) (_ : a1.size ≤ maxLen) (hb : (a0.size + 1) + (a1.size + 1) ≤ 1048576) : ∃ k, siglumlaw08_DistBack.f k a0 a1 = some true := by
  have h0 : a0.size ≤ 4294967296 := by omega
  have h1 : a1.size ≤ 4294967296 := by omega
  have k01 : kOf a0 a1 ≤ 2999999 := by unfold kOf; omega
  refine ⟨2999999 + 1, ?_⟩
  unfold siglumlaw08_DistBack.f
  rw [awake8 _ (by decide), Option.bind_some, if_pos rfl, long_eq a0 h0 _ (by omega), long_eq a1 h1 _ (by omega)]
  simp only [Option.bind_some]
  have ht : siglumlaw08_DistBack.j0 (2999999 + 1) a0 a1 true = some true := by rw [siglumlaw08_DistBack.j0, if_pos rfl]
  by_cases l0 : 256 < (cb a0).length
  · rw [if_pos (decide_eq_true l0)]; exact ht
  · rw [if_neg (by rw [decide_eq_false l0]; simp)]
    by_cases l1 : 256 < (cb a1).length
    · rw [decide_eq_true l1]; exact ht
    · have hl : (cb a0).length ≤ 256 ∧ (cb a1).length ≤ 256 := by omega
      have hp : (pcs a0).length ≤ 256 ∧ (pcs a1).length ≤ 256 := by rw [← cb_pcs, ← cb_pcs]; exact hl
      obtain ⟨w1, w2, w3⟩ := way_done (pcs a0) (pcs a1) ((pcs a0).length + (pcs a1).length) 0 0 [] (Nat.zero_le _) (Nat.zero_le _) (by omega)
      have e0 : a0.data.toList.length = a0.size := by rw [Array.length_toList]; rfl
      have e1 : a1.data.toList.length = a1.size := by rw [Array.length_toList]; rfl
      rw [List.drop_zero, List.drop_zero, bytesAll_pcs, bytesAll_pcs, e0, e1] at w2
      rw [List.drop_zero, List.drop_zero, bytesAll_pcs, List.nil_append] at w1
      have hpl := pathL_len (pcs a0) (pcs a1) ((pcs a0).length + (pcs a1).length) 0 0
      have hof : dOf a0 a1 = (pD (pcs a0) (pcs a1) 0 0, 0) := by unfold dOf; rw [if_pos hl]; rfl
      rw [decide_eq_false l1, siglumlaw08_DistBack.j0, if_neg (by simp), path_eq a0 a1 h0 h1 _ k01, Option.bind_some, if_pos hl]
      dsimp only
      obtain ⟨P, hP⟩ : ∃ P, pathL (pcs a0) (pcs a1) ((pcs a0).length + (pcs a1).length) 0 0 = P := ⟨_, rfl⟩
      rw [hP] at w1 w2 w3 hpl ⊢
      rw [apply_eq a0 h0 P (by omega) (by omega) _ (by omega), Option.bind_some, w1, of_eq a0 a1 h0 h1 _ k01, Option.bind_some, hof]
      show siglumlaw08_DistBack.l0 2999999 a1 0 ⟨a1.data.toList.toArray⟩ 0 (pD (pcs a0) (pcs a1) 0 0) 0 P (P.length : Int) 0 = some true
      have hb1 : (⟨a1.data.toList.toArray⟩ : ByteArray) = a1 := by apply ByteArray.ext; simp
      rw [hb1]
      exact back_loop a1 P (by omega) P.length 0 2999999 _ (by omega) (by omega) (by rw [List.drop_zero]; exact w3.symm)
end Go.Proofs.YtalogampkkjcdaaDoor.Pure
