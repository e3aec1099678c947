import Derived.Test.YtcpbalnbgmjhjaaDoorV617
import Derived.Test.YtcpbalnbgmjhjaaDoorV68
/-
  The program's rows reckon the edit distance of two texts' pieces.
-/
set_option linter.unusedVariables false
namespace Go.Proofs.YtcpbalnbgmjhjaaDoor.Pure
open Go.RowKit Go.Proofs.YtcpbalnbgmjhjaaDoor.Q Go.Proofs.YtcpbalnbgmjhjaaDoorW.PrintWords Go.Proofs.YtcpbalnbgmjhjaaDoorW.PrintLast Go.Proofs.YtcpbalnbgmjhjaaDoorW.PrintMore
theorem mn_eq (a b : Int) : mn a b = min a b := by
  unfold mn
  split <;> omega
theorem rd_nat (l : List Int) (q : Nat) (h : q < l.length) : rd l (q : Int) = l[q] := by
  unfold rd
  rw [Int.toNat_natCast, List.getD_eq_getElem?_getD, List.getElem?_eq_getElem h]
  rfl
theorem rd_set_same (l : List Int) (p : Nat) (h : p < l.length) (v : Int) : rd (l.set p v) (p : Int) = v := by
  unfold rd
  rw [Int.toNat_natCast, List.getD_eq_getElem?_getD, List.getElem?_set, if_pos rfl, if_pos h]
  rfl
theorem rd_set_ne (l : List Int) (p q : Nat) (h : p ≠ q) (v : Int) : rd (l.set p v) (q : Int) = rd l (q : Int) := by
  unfold rd
  rw [Int.toNat_natCast, List.getD_eq_getElem?_getD, List.getElem?_set, if_neg h, List.getD_eq_getElem?_getD]
theorem rdOf_nat (l : List ByteArray) (q : Nat) (h : q < l.length) : rdOf ByteArray.empty l (q : Int) = l[q] := by
  unfold rdOf
  rw [Int.toNat_natCast, List.getD_eq_getElem?_getD, List.getElem?_eq_getElem h]
  rfl
def LV (X Y : List ByteArray) (i j : Nat) : Int := (Lv.lev ((X.map (·.toList)).take i) ((Y.map (·.toList)).take j) : Nat)
theorem LV_zero (X Y : List ByteArray) (j : Nat) (h : j ≤ Y.length) : LV X Y 0 j = (j : Int) := by
  unfold LV
  rw [List.take_zero, Lv.lev_nil, List.length_take, List.length_map, Nat.min_eq_left h]
theorem LV_nil (X Y : List ByteArray) (i : Nat) (h : i ≤ X.length) : LV X Y i 0 = (i : Int) := by
  unfold LV
  rw [List.take_zero, Lv.lev_nil', List.length_take, List.length_map, Nat.min_eq_left h]
theorem LV_range (X Y : List ByteArray) (i j : Nat) : 0 ≤ LV X Y i j ∧ LV X Y i j ≤ (max X.length Y.length : Nat) := by
  unfold LV
  have := Lv.lev_max ((X.map (·.toList)).take i) ((Y.map (·.toList)).take j)
  rw [List.length_take, List.length_take, List.length_map, List.length_map] at this
  omega
theorem LV_small (X Y : List ByteArray) (hX : X.length ≤ 256) (hY : Y.length ≤ 256) (i j : Nat) : 0 ≤ LV X Y i j ∧ LV X Y i j ≤ 256 := by
  have := LV_range X Y i j
  omega
theorem LV_step (X Y : List ByteArray) (i j : Nat) (hi : i < X.length) (hj : j < Y.length) :
    LV X Y (i + 1) (j + 1) = min (min (LV X Y i j + if X[i].toList = Y[j].toList then 0 else 1) (LV X Y i (j + 1) + 1)) (LV X Y (i + 1) j + 1) := by
  unfold LV
  have e1 : (X.map (·.toList)).take (i + 1) = (X.map (·.toList)).take i ++ [X[i].toList] := by
    rw [List.take_succ_eq_append_getElem (by rw [List.length_map]; exact hi), List.getElem_map]
  have e2 : (Y.map (·.toList)).take (j + 1) = (Y.map (·.toList)).take j ++ [Y[j].toList] := by
    rw [List.take_succ_eq_append_getElem (by rw [List.length_map]; exact hj), List.getElem_map]
  rw [e1, e2, Lv.lev_snoc]
  split <;> omega
theorem LV_all (X Y : List ByteArray) : LV X Y X.length Y.length = (Lv.lev (X.map (·.toList)) (Y.map (·.toList)) : Nat) := by
  unfold LV
  rw [List.take_of_length_le (by rw [List.length_map]; omega), List.take_of_length_le (by rw [List.length_map]; omega)]
theorem of_l2 (X Y : List ByteArray) (hX : X.length ≤ 256) (hY : Y.length ≤ 256) (i e : Nat) (hi : i < X.length) (R : Int × Int)
    (next : ∀ (k : Nat) (row last : List Int), row.length = Y.length + 1 → last.length = Y.length + 1 → (∀ q : Nat, q ≤ Y.length → rd row q = LV X Y (i + 1) q) → e * (Y.length + 2) + 1 ≤ k → dist_Of.l1 k Y row last X (X.length : Int) ((i + 1 : Nat) : Int) = some R) :
    ∀ (d j k : Nat) (row last : List Int), j + d = Y.length → row.length = Y.length + 1 → last.length = Y.length + 1 → (∀ q : Nat, q ≤ j → rd row q = LV X Y (i + 1) q) → (∀ q : Nat, q ≤ Y.length → rd last q = LV X Y i q) → d + 1 + (e * (Y.length + 2) + 1) ≤ k →
      dist_Of.l2 k Y row last X[i] X (X.length : Int) (i : Int) Y (Y.length : Int) (j : Int) = some R
  | 0, j, k, row, last, hd, hr, hl, hq, hp, hk => by
    obtain ⟨k, rfl⟩ : ∃ m, k = m + 1 := ⟨k - 1, by omega⟩
    rw [dist_Of.l2, if_neg (by omega), ws ((i : Int) + 1) (by omega) (by omega)]
    exact next k row last hr hl (fun q h => hq q (by omega)) (by omega)
  | d + 1, j, k, row, last, hd, hr, hl, hq, hp, hk => by
    obtain ⟨k, rfl⟩ : ∃ m, k = m + 1 := ⟨k - 1, by omega⟩
    have hj : j < Y.length := by omega
    have e2 : ((j + 1 : Nat) : Int) = (j : Int) + 1 := by omega
    have b1 := LV_small X Y hX hY i j
    have b2 := LV_small X Y hX hY i (j + 1)
    have b3 := LV_small X Y hX hY (i + 1) j
    have r1 := hp j (by omega)
    have r2 := hp (j + 1) (by omega)
    have r3 := hq j (by omega)
    rw [e2] at r2
    have fin : ∀ v : Int, v = LV X Y (i + 1) (j + 1) → dist_Of.l2 k Y (row.set ((j : Int) + 1).toNat v) last X[i] X (X.length : Int) (i : Int) Y (Y.length : Int) ((j : Int) + 1) = some R := by
      intro v hv
      rw [← e2, Int.toNat_natCast]
      clear b1 b2 b3 r1 r2 r3
      refine of_l2 X Y hX hY i e hi R next d (j + 1) k _ last (by omega) (by rw [List.length_set]; exact hr) hl (fun q hqj => ?_) hp (by omega)
      by_cases h : j + 1 = q
      · subst h
        rw [rd_set_same _ _ (by omega), hv]
      · rw [rd_set_ne _ _ _ h]
        exact hq q (by omega)
    have w1 : Aside0 (wrap64 ((j : Int) + 1) = (j : Int) + 1) := ⟨ws _ (by omega) (by omega)⟩
    by_cases h : X[i].toList = Y[j].toList
    · have hs : Aside0 (LV X Y (i + 1) (j + 1) = _) := ⟨LV_step X Y i j hi hj⟩
      rw [dist_Of.l2, if_pos (by omega), if_pos (by omega), if_pos (by omega), if_pos (by omega), rdOf_nat Y j hj, if_pos h, w1.out, if_pos (by omega), if_pos (by omega), if_pos (by omega), if_pos (by omega), r1, r2, r3]
      rw [ws (LV X Y i (j + 1) + 1) (by omega) (by omega), ws (LV X Y (i + 1) j + 1) (by omega) (by omega)]
      exact fin _ (by rw [hs.out, if_pos h, Int.add_zero, mn_eq, mn_eq])
    · have hs : Aside0 (LV X Y (i + 1) (j + 1) = _) := ⟨LV_step X Y i j hi hj⟩
      rw [dist_Of.l2, if_pos (by omega), if_pos (by omega), if_pos (by omega), if_pos (by omega), rdOf_nat Y j hj, if_neg h, w1.out, if_pos (by omega), if_pos (by omega), if_pos (by omega), if_pos (by omega), r1, r2, r3]
      rw [ws (LV X Y i j + 1) (by omega) (by omega), ws (LV X Y i (j + 1) + 1) (by omega) (by omega), ws (LV X Y (i + 1) j + 1) (by omega) (by omega)]
      exact fin _ (by rw [hs.out, if_neg h, mn_eq, mn_eq])
theorem of_l1 (X Y : List ByteArray) (hX : X.length ≤ 256) (hY : Y.length ≤ 256) : ∀ (e i k : Nat) (row last : List Int), i + e = X.length → row.length = Y.length + 1 → last.length = Y.length + 1 → (∀ q : Nat, q ≤ Y.length → rd row q = LV X Y i q) → e * (Y.length + 2) + 1 ≤ k →
    dist_Of.l1 k Y row last X (X.length : Int) (i : Int) = some (LV X Y X.length Y.length, 0)
  | 0, i, k, row, last, he, hr, hl, hq, hk => by
    obtain ⟨k, rfl⟩ : ∃ m, k = m + 1 := ⟨k - 1, by omega⟩
    have : i = X.length := by omega
    subst this
    rw [dist_Of.l1, if_neg (by omega), if_pos (by omega), if_pos (by omega), hq _ (Nat.le_refl _)]
  | e + 1, i, k, row, last, he, hr, hl, hq, hk => by
    obtain ⟨k, rfl⟩ : ∃ m, k = m + 1 := ⟨k - 1, by omega⟩
    have hi : i < X.length := by omega
    have e2 : ((i + 1 : Nat) : Int) = (i : Int) + 1 := by omega
    rw [Nat.succ_mul] at hk
    rw [dist_Of.l1, if_pos (by omega), if_pos (by omega), if_pos (by omega), if_pos (by omega), if_pos (by omega), if_pos (by omega), rdOf_nat X i hi, ws ((i : Int) + 1) (by omega) (by omega), ← e2]
    refine of_l2 X Y hX hY i e hi _ (fun k row last h1 h2 h3 h4 => of_l1 X Y hX hY e (i + 1) k row last (by omega) h1 h2 h3 h4) Y.length 0 k _ row (by omega) (by rw [List.length_set]; exact hr) hr (fun q h => ?_) hq (by omega)
    have : q = 0 := by omega
    subst this
    have := rd_set_same row 0 (by omega) ((i + 1 : Nat) : Int)
    rw [LV_nil X Y (i + 1) (by omega)]
    exact this
theorem of_l0 (X Y : List ByteArray) (hX : X.length ≤ 256) (hY : Y.length ≤ 256) : ∀ (d i k : Nat) (row : List Int), i + d = Y.length + 1 → row.length = Y.length + 1 → (∀ q : Nat, q < i → rd row q = (q : Int)) → d + 1 + (X.length * (Y.length + 2) + 1) ≤ k →
    dist_Of.l0 k X Y row ((Y.length + 1 : Nat) : Int) (i : Int) = some (LV X Y X.length Y.length, 0)
  | 0, i, k, row, hd, hr, hq, hk => by
    obtain ⟨k, rfl⟩ : ∃ m, k = m + 1 := ⟨k - 1, by omega⟩
    rw [dist_Of.l0, if_neg (by omega), if_pos (by omega), if_pos (by omega)]
    exact of_l1 X Y hX hY X.length 0 k row _ (by omega) hr (by rw [List.length_replicate]; omega) (fun q h => by rw [hq q (by omega), LV_zero X Y q h]) (by omega)
  | d + 1, i, k, row, hd, hr, hq, hk => by
    obtain ⟨k, rfl⟩ : ∃ m, k = m + 1 := ⟨k - 1, by omega⟩
    have e2 : ((i + 1 : Nat) : Int) = (i : Int) + 1 := by omega
    rw [dist_Of.l0, if_pos (by omega), if_pos (by omega), if_pos (by omega), ws ((i : Int) + 1) (by omega) (by omega), ← e2, Int.toNat_natCast]
    refine of_l0 X Y hX hY d (i + 1) k _ (by omega) (by rw [List.length_set]; exact hr) (fun q h => ?_) (by omega)
    by_cases e : i = q
    · subst e
      rw [rd_set_same _ _ (by omega)]
    · rw [rd_set_ne _ _ _ e]
      exact hq q (by omega)
def dOf (a b : ByteArray) : Int × Int := if (cb a).length ≤ 256 ∧ (cb b).length ≤ 256 then ((Lv.lev (cb a) (cb b) : Nat), 0) else (0, 1)
def kOf (a b : ByteArray) : Nat := 70000 + a.size + b.size
theorem cb_pcs (s : ByteArray) : (cb s).length = (pcs s).length := by unfold cb; rw [List.length_map]
theorem of_eq (a b : ByteArray) (ha : a.size ≤ 4294967296) (hb : b.size ≤ 4294967296) (k : Nat) (hk : kOf a b ≤ k) : dist_Of.f k a b = some (dOf a b) := by
  unfold kOf at hk
  unfold dist_Of.f dOf
  rw [both_eq a b ha hb k (by omega) (by omega), cb_pcs, cb_pcs]
  by_cases h : (pcs a).length ≤ 256 ∧ (pcs b).length ≤ 256
  · rw [if_pos h, if_pos h, Option.bind_some]
    dsimp only
    have hw : wrap64 (((pcs b).length : Int) + 1) = (((pcs b).length + 1 : Nat) : Int) := by rw [ws _ (by omega) (by omega)]; rfl
    rw [if_pos rfl, hw, if_pos (by omega), if_pos (by omega), Option.bind_some, Int.toNat_natCast, List.length_replicate]
    have hm : (pcs a).length * ((pcs b).length + 2) ≤ 256 * 258 := Nat.mul_le_mul h.1 (by omega)
    have := of_l0 (pcs a) (pcs b) h.1 h.2 ((pcs b).length + 1) 0 k (List.replicate ((pcs b).length + 1) 0) (by omega) (by rw [List.length_replicate]) (fun q h => by omega) (by omega)
    rw [LV_all] at this
    exact this
  · rw [if_neg h, if_neg h, Option.bind_some]
    rfl
end Go.Proofs.YtcpbalnbgmjhjaaDoor.Pure
