import Derived.Test.YtbpinnanfanaaaaDoorV25
import Derived.Test.YtbpinnanfanaaaaDoorV210
import Derived.Test.YtbpinnanfanaaaaDoorV222
import Derived.Test.YtbpinnanfanaaaaDoorV225
import Derived.Test.YtbpinnanfanaaaaDoorV211
import Derived.Test.YtbpinnanfanaaaaDoorV227
import Derived.Test.YtbpinnanfanaaaaDoorV226
import Derived.Test.YtbpinnanfanaaaaDoorV224
import Derived.Test.YtbpinnanfanaaaaDoorV220
import Derived.Test.YtbpinnanfanaaaaDoorV229
import Derived.Test.YtbpinnanfanaaaaDoorV219
import Derived.Test.YtbpinnanfanaaaaDoorV218
import Derived.Test.YtbpinnanfanaaaaDoorV212
import Derived.Test.YtbpinnanfanaaaaDoorV230
namespace Go.Proofs.YtbpinnanfanaaaaDoor.L
open Go.RowKit Go.Proofs.YtbpinnanfanaaaaDoorW.PrintWords Go.Proofs.YtbpinnanfanaaaaDoorW.PrintLast Go.Proofs.YtbpinnanfanaaaaDoorW.PrintMore
attribute [local go_sem] min2_int min_two min_three   -- for this text's walks alone
set_option linter.unusedVariables false
set_option linter.unusedSimpArgs false
/-! ### pair_Align: function 13 -/
mutual
def pair_Align.l0 : Nat → List (List Int) → Int → Int → List (List Int) → Int → Int → Int → Int → Int → Int → Option ((List (S59)) × Int × Int)
 | 0, _, _, _, _, _, _, _, _, _, _ => none
 | k + 1, x9, x11, x12, x13, x44, x45, x13102000, x13102001, x13102002, x13102003 => if x45 < x44 then (if 0 ≤ (wrap64 (x12 + 1)) then (if (wrap64 (x12 + 1) : Int).toNat ≤ 281474976710656 then (if 0 ≤ x45 then (if x45 < (x13.length : Int) then ((some (x13.set (x45 : Int).toNat (List.replicate (wrap64 (x12 + 1) : Int).toNat 0) : List (List Int))).bind fun y13112 => (if 0 ≤ x12 then (if x12 < ((rd_L13 y13112 x45).length : Int) then (pair_Align.l0 k x9 x11 x12 (y13112.set (x45 : Int).toNat ((rd_L13 y13112 x45).set (x12 : Int).toNat 2)) x44 (wrap64 (x45 + 1)) x13102000 x13102001 x13102002 x13102003) else (none)) else (none))) else (none)) else (none)) else (none)) else (none)) else (if 0 ≤ (wrap64 (x12 + 1)) then (if (wrap64 (x12 + 1) : Int).toNat ≤ 35184372088832 then (pair_Align.l1 k x9 x11 x12 x13 (List.replicate (wrap64 (x12 + 1) : Int).toNat 0) (List.replicate (wrap64 (x12 + 1) : Int).toNat 0) x12 0 x13102000 x13102001 x13102002 x13102003) else (none)) else (none))
def pair_Align.l1 : Nat → List (List Int) → Int → Int → List (List Int) → List Int → List Int → Int → Int → Int → Int → Int → Int → Option ((List (S59)) × Int × Int)
 | 0, _, _, _, _, _, _, _, _, _, _, _, _ => none
 | k + 1, x9, x11, x12, x13, x15, x16, x67, x68, x13102000, x13102001, x13102002, x13102003 => if x68 < x67 then (if 0 ≤ x11 then (if x11 < (x13.length : Int) then (if 0 ≤ x68 then (if x68 < ((rd_L13 x13 x11).length : Int) then (if x68 < (x15.length : Int) then (pair_Align.l1 k x9 x11 x12 (x13.set (x11 : Int).toNat ((rd_L13 x13 x11).set (x68 : Int).toNat 3)) (x15.set (x68 : Int).toNat (wrap64 ((wrap64 (x12 - x68)) * x13102000))) x16 x67 (wrap64 (x68 + 1)) x13102000 x13102001 x13102002 x13102003) else (none)) else (none)) else (none)) else (none)) else (none)) else (pair_Align.l2 k x9 x11 x12 x13 x15 x16 (wrap64 (x11 - 1)) x13102000 x13102001 x13102002 x13102003)
def pair_Align.l2 : Nat → List (List Int) → Int → Int → List (List Int) → List Int → List Int → Int → Int → Int → Int → Int → Option ((List (S59)) × Int × Int)
 | 0, _, _, _, _, _, _, _, _, _, _, _ => none
 | k + 1, x9, x11, x12, x13, x15, x16, x18, x13102000, x13102001, x13102002, x13102003 => if x18 ≥ 0 then (if 0 ≤ x12 then (if x12 < (x16.length : Int) then (pair_Align.l3 k x9 x11 x12 x13 x15 (x16.set (x12 : Int).toNat (wrap64 ((wrap64 (x11 - x18)) * x13102000))) x18 (wrap64 (x12 - 1)) x13102000 x13102001 x13102002 x13102003) else (none)) else (none)) else (if 0 < (x15.length : Int) then (pair_Align.l4 k x11 x12 x13 (rd x15 0) ([] : List (S59)) 0 0) else (none))
def pair_Align.l3 : Nat → List (List Int) → Int → Int → List (List Int) → List Int → List Int → Int → Int → Int → Int → Int → Int → Option ((List (S59)) × Int × Int)
 | 0, _, _, _, _, _, _, _, _, _, _, _, _ => none
 | k + 1, x9, x11, x12, x13, x15, x16, x18, x19, x13102000, x13102001, x13102002, x13102003 => if x19 ≥ 0 then (if 0 ≤ x18 then (if x18 < (x13.length : Int) then (if 0 ≤ (wrap64 (x19 + 1)) then (if (wrap64 (x19 + 1)) < (x15.length : Int) then (if x18 < (x9.length : Int) then (if 0 ≤ x19 then (if x19 < ((rd_L11 x9 x18).length : Int) then (if x19 < (x16.length : Int) then ((some (x16.set (x19 : Int).toNat (wrap64 ((rd x15 (wrap64 (x19 + 1))) + (rd (rd_L11 x9 x18) x19))) : List Int)).bind fun y13133 => (if x19 < ((rd_L13 x13 x18).length : Int) then ((some (x13.set (x18 : Int).toNat ((rd_L13 x13 x18).set (x19 : Int).toNat 1) : List (List Int))).bind fun y13136 => (if x19 < (x15.length : Int) then (if (wrap64 ((rd x15 x19) + x13102000)) < (rd y13133 x19) then ((some (y13133.set (x19 : Int).toNat (wrap64 ((rd x15 x19) + x13102000)) : List Int)).bind fun y13140 => (if x19 < ((rd_L13 y13136 x18).length : Int) then ((some (y13136.set (x18 : Int).toNat ((rd_L13 y13136 x18).set (x19 : Int).toNat 2) : List (List Int))).bind fun y13143 => (if (wrap64 (x19 + 1)) < (x16.length : Int) then (if (wrap64 ((rd y13140 (wrap64 (x19 + 1))) + x13102000)) < (rd y13140 x19) then (if x19 < ((rd_L13 y13143 x18).length : Int) then (pair_Align.l3 k x9 x11 x12 (y13143.set (x18 : Int).toNat ((rd_L13 y13143 x18).set (x19 : Int).toNat 3)) x15 (y13140.set (x19 : Int).toNat (wrap64 ((rd y13140 (wrap64 (x19 + 1))) + x13102000))) x18 (wrap64 (x19 - 1)) x13102000 x13102001 x13102002 x13102003) else (none)) else (pair_Align.l3 k x9 x11 x12 y13143 x15 y13140 x18 (wrap64 (x19 - 1)) x13102000 x13102001 x13102002 x13102003)) else (none))) else (none))) else (if (wrap64 (x19 + 1)) < (x16.length : Int) then (if (wrap64 ((rd y13133 (wrap64 (x19 + 1))) + x13102000)) < (rd y13133 x19) then (if x19 < ((rd_L13 y13136 x18).length : Int) then (pair_Align.l3 k x9 x11 x12 (y13136.set (x18 : Int).toNat ((rd_L13 y13136 x18).set (x19 : Int).toNat 3)) x15 (y13133.set (x19 : Int).toNat (wrap64 ((rd y13133 (wrap64 (x19 + 1))) + x13102000))) x18 (wrap64 (x19 - 1)) x13102000 x13102001 x13102002 x13102003) else (none)) else (pair_Align.l3 k x9 x11 x12 y13136 x15 y13133 x18 (wrap64 (x19 - 1)) x13102000 x13102001 x13102002 x13102003)) else (none))) else (none))) else (none))) else (none)) else (none)) else (none)) else (none)) else (none)) else (none)) else (none)) else (none)) else (pair_Align.l2 k x9 x11 x12 x13 x16 x15 (wrap64 (x18 - 1)) x13102000 x13102001 x13102002 x13102003)
def pair_Align.l4 : Nat → Int → Int → List (List Int) → Int → List (S59) → Int → Int → Option ((List (S59)) × Int × Int)
 | 0, _, _, _, _, _, _, _ => none
 | k + 1, x11, x12, x13, x22, x23, x24, x25 => if x24 = x11 then (pair_Align.j5 k x11 x12 x13 x22 x23 x24 x25 (x25 == x12)) else (pair_Align.j5 k x11 x12 x13 x22 x23 x24 x25 false)
def pair_Align.j5 : Nat → Int → Int → List (List Int) → Int → List (S59) → Int → Int → Bool → Option ((List (S59)) × Int × Int)
 | 0, _, _, _, _, _, _, _, _ => none
 | k + 1, x11, x12, x13, x22, x23, x24, x25, x189 => if x189 = true then (some (x23, x22, 0)) else (if 0 ≤ x24 then (if x24 < (x13.length : Int) then (if 0 ≤ x25 then (if x25 < ((rd_L13 x13 x24).length : Int) then (if (rd (rd_L13 x13 x24) x25) = 1 then (if x23.length < 8796093022208 then (pair_Align.l4 k x11 x12 x13 x22 (x23 ++ [(⟨x24, x25⟩ : S59)]) (wrap64 (x24 + 1)) (wrap64 (x25 + 1))) else (none)) else (if (rd (rd_L13 x13 x24) x25) = 2 then (if x23.length < 8796093022208 then (pair_Align.l4 k x11 x12 x13 x22 (x23 ++ [(⟨x24, (-1)⟩ : S59)]) (wrap64 (x24 + 1)) x25) else (none)) else (if x23.length < 8796093022208 then (pair_Align.l4 k x11 x12 x13 x22 (x23 ++ [(⟨(-1), x25⟩ : S59)]) x24 (wrap64 (x25 + 1))) else (none)))) else (none)) else (none)) else (none)) else (none))
end
def pair_Align.f (k : Nat) (l0 : List ByteArray) (l1 : List ByteArray) (a2_0 : Int) (a2_1 : Int) (a2_2 : Int) (a2_3 : Int) : Option ((List (S59)) × Int × Int) := (cost_Grid.f k l0 l1 a2_0 a2_1 a2_2 a2_3).bind fun bt13102 => (if bt13102.2 = 0 then (if 0 ≤ (wrap64 ((l0.length : Int) + 1)) then (if (wrap64 ((l0.length : Int) + 1) : Int).toNat ≤ 11728124029610 then ((some (List.replicate (wrap64 ((l0.length : Int) + 1) : Int).toNat [] : List (List Int))).bind fun y13106 => (pair_Align.l0 k bt13102.1 (l0.length : Int) (l1.length : Int) y13106 (y13106.length : Int) 0 a2_0 a2_1 a2_2 a2_3)) else (none)) else (none)) else (some (([] : List (S59)), 0, bt13102.2)))
def pair_Align.T27 : Bool × List (List Nat × List Nat) := (true, [([], []), ([], []), ([], []), ([], []), ([2, 3], [2, 3]), ([4], [4]), ([], []), ([], []), ([], []), ([8], [8]), ([7, 9], [7, 9]), ([10], [10]), ([], []), ([], []), ([12, 13], [12, 13]), ([14], [14]), ([], []), ([15, 16], [15, 16]), ([17], [17]), ([11, 18], [11, 18]), ([0, 1, 0, 1, 5, 7, 8, 9, 10, 11, 12, 13, 14, 15, 16, 17, 18, 19], [0, 1]), ([20, 19, 0, 1, 5, 7, 8, 9, 10, 11, 12, 13, 14, 15, 16, 17, 18, 19], [19, 20]), ([5, 6, 0, 1, 2, 3, 4, 5, 6, 7, 8, 9, 10, 11, 12, 13, 14, 15, 16, 17, 18, 19, 20, 21], [5, 6]), ([22, 21, 0, 1, 2, 3, 4, 5, 6, 7, 8, 9, 10, 11, 12, 13, 14, 15, 16, 17, 18, 19, 20, 21], [22])])
def pair_Align.B27 : List Nat := [0, 0, 0, 0, 12, 28, 0, 0, 0, 256, 896, 1920, 0, 0, 12288, 28672, 0, 126976, 258048, 524160, 1048511, 2097087, 4194303, 8388607]
def pair_Align.T28 : Bool × List (List Nat × List Nat) := (true, [([], []), ([], []), ([0, 1], [0, 1]), ([2], [2]), ([], []), ([4], [4]), ([3, 5], [3, 5]), ([6, 0, 1, 2, 3, 4, 5, 6], [6])])
def pair_Align.B28 : List Nat := [0, 0, 3, 7, 0, 16, 63, 127]
def pair_Align.T31 : Bool × List (List Nat × List Nat) := (true, [([], []), ([], []), ([1], [1]), ([0, 2], [0, 2]), ([3], [3]), ([], []), ([5], [5]), ([4, 6], [4, 6]), ([7, 0, 1, 2, 3, 4, 5, 6, 7], [7])])
def pair_Align.B31 : List Nat := [0, 0, 2, 7, 15, 0, 32, 127, 255]
end Go.Proofs.YtbpinnanfanaaaaDoor.L
/-
  The program's alignment of two lists of words, in plain numbers: its table of ways, its price, its walk.
-/
namespace Go.Proofs.YtbpinnanfanaaaaDoor.Pure
open Go.RowKit Go.Proofs.YtbpinnanfanaaaaDoor.L Go.Proofs.YtbpinnanfanaaaaDoorW.PrintWords Go.Proofs.YtbpinnanfanaaaaDoorW.PrintLast Go.Proofs.YtbpinnanfanaaaaDoorW.PrintMore
section
variable {α : Type} (w : α → α → Int) (gap : Int)
def pL : List α → List α → Nat → Nat → List S59
  | [], [], _, _ => []
  | [], _ :: ys, i, j => ⟨-1, (j : Int)⟩ :: pL [] ys i (j + 1)
  | _ :: xs, [], i, j => ⟨(i : Int), -1⟩ :: pL xs [] (i + 1) j
  | x :: xs, y :: ys, i, j =>
    if dL w gap (x :: xs) (y :: ys) = dL w gap xs ys + w x y then ⟨(i : Int), (j : Int)⟩ :: pL xs ys (i + 1) (j + 1)
    else if dL w gap (x :: xs) (y :: ys) = dL w gap xs (y :: ys) + gap then ⟨(i : Int), -1⟩ :: pL xs (y :: ys) (i + 1) j
    else ⟨-1, (j : Int)⟩ :: pL (x :: xs) ys i (j + 1)
termination_by xs ys => xs.length + ys.length
def codeP (X Y : List α) (p q : Nat) : Int := if h : p < X.length ∧ q < Y.length then
  (if dR w gap X Y p q = dR w gap X Y (p + 1) (q + 1) + w (X[p]'h.1) (Y[q]'h.2) then 1 else if dR w gap X Y p q = dR w gap X Y (p + 1) q + gap then 2 else 3) else if p < X.length then 2 else 3
theorem codeP_in (X Y : List α) (p q : Nat) (hp : p < X.length) (hq : q < Y.length) : codeP w gap X Y p q = (if dR w gap X Y p q = dR w gap X Y (p + 1) (q + 1) + w X[p] Y[q] then 1 else if dR w gap X Y p q = dR w gap X Y (p + 1) q + gap then 2 else 3) := by
  unfold codeP
  rw [dif_pos ⟨hp, hq⟩]
theorem codeP_right (X Y : List α) (p q : Nat) (hp : p < X.length) (hq : ¬ q < Y.length) : codeP w gap X Y p q = 2 := by
  unfold codeP
  rw [dif_neg (fun h => hq h.2), if_pos hp]
theorem codeP_below (X Y : List α) (p q : Nat) (hp : ¬ p < X.length) : codeP w gap X Y p q = 3 := by
  unfold codeP
  rw [dif_neg (fun h => hp h.1), if_neg hp]
theorem pL_done (X Y : List α) (i j : Nat) (hi : ¬ i < X.length) (hj : ¬ j < Y.length) (a b : Nat) : pL w gap (X.drop i) (Y.drop j) a b = [] := by
  rw [List.drop_of_length_le (by omega), List.drop_of_length_le (by omega), pL]
theorem pL_both (X Y : List α) (i j : Nat) (hc : codeP w gap X Y i j = 1) (a b : Nat) : pL w gap (X.drop i) (Y.drop j) a b = ⟨(a : Int), (b : Int)⟩ :: pL w gap (X.drop (i + 1)) (Y.drop (j + 1)) (a + 1) (b + 1) ∧ i < X.length ∧ j < Y.length := by
  by_cases hi : i < X.length
  · by_cases hj : j < Y.length
    · rw [codeP_in _ _ _ _ _ _ hi hj] at hc
      refine ⟨?_, hi, hj⟩
      rw [List.drop_eq_getElem_cons hi, List.drop_eq_getElem_cons hj, pL, ← List.drop_eq_getElem_cons hi, ← List.drop_eq_getElem_cons hj]
      by_cases e : dR w gap X Y i j = dR w gap X Y (i + 1) (j + 1) + w X[i] Y[j]
      · rw [if_pos (show dL w gap (X.drop i) (Y.drop j) = dL w gap (X.drop (i + 1)) (Y.drop (j + 1)) + w X[i] Y[j] from e)]
      · rw [if_neg e] at hc; split at hc <;> omega
    · rw [codeP_right _ _ _ _ _ _ hi hj] at hc; omega
  · rw [codeP_below _ _ _ _ _ _ hi] at hc; omega
theorem pL_first (X Y : List α) (i j : Nat) (hc : codeP w gap X Y i j = 2) (a b : Nat) : pL w gap (X.drop i) (Y.drop j) a b = ⟨(a : Int), -1⟩ :: pL w gap (X.drop (i + 1)) (Y.drop j) (a + 1) b ∧ i < X.length := by
  by_cases hi : i < X.length
  · refine ⟨?_, hi⟩
    by_cases hj : j < Y.length
    · rw [codeP_in _ _ _ _ _ _ hi hj] at hc
      rw [List.drop_eq_getElem_cons hi, List.drop_eq_getElem_cons hj, pL, ← List.drop_eq_getElem_cons hi, ← List.drop_eq_getElem_cons hj]
      by_cases e : dR w gap X Y i j = dR w gap X Y (i + 1) (j + 1) + w X[i] Y[j]
      · rw [if_pos e] at hc; omega
      · rw [if_neg e] at hc
        by_cases e2 : dR w gap X Y i j = dR w gap X Y (i + 1) j + gap
        · rw [if_neg (show ¬ dL w gap (X.drop i) (Y.drop j) = dL w gap (X.drop (i + 1)) (Y.drop (j + 1)) + w X[i] Y[j] from e), if_pos (show dL w gap (X.drop i) (Y.drop j) = dL w gap (X.drop (i + 1)) (Y.drop j) + gap from e2)]
        · rw [if_neg e2] at hc; omega
    · rw [List.drop_eq_getElem_cons hi, List.drop_of_length_le (l := Y) (by omega), pL]
  · rw [codeP_below _ _ _ _ _ _ hi] at hc; omega
theorem pL_second (X Y : List α) (i j : Nat) (hij : i < X.length ∨ j < Y.length) (h1 : ¬ codeP w gap X Y i j = 1) (h2 : ¬ codeP w gap X Y i j = 2) (a b : Nat) : pL w gap (X.drop i) (Y.drop j) a b = ⟨-1, (b : Int)⟩ :: pL w gap (X.drop i) (Y.drop (j + 1)) a (b + 1) ∧ j < Y.length := by
  by_cases hi : i < X.length
  · by_cases hj : j < Y.length
    · refine ⟨?_, hj⟩
      rw [codeP_in _ _ _ _ _ _ hi hj] at h1 h2
      rw [List.drop_eq_getElem_cons hi, List.drop_eq_getElem_cons hj, pL, ← List.drop_eq_getElem_cons hi, ← List.drop_eq_getElem_cons hj]
      by_cases e : dR w gap X Y i j = dR w gap X Y (i + 1) (j + 1) + w X[i] Y[j]
      · rw [if_pos e] at h1; exact absurd rfl h1
      · rw [if_neg e] at h2
        by_cases e2 : dR w gap X Y i j = dR w gap X Y (i + 1) j + gap
        · rw [if_pos e2] at h2; exact absurd rfl h2
        · rw [if_neg (show ¬ dL w gap (X.drop i) (Y.drop j) = dL w gap (X.drop (i + 1)) (Y.drop (j + 1)) + w X[i] Y[j] from e), if_neg (show ¬ dL w gap (X.drop i) (Y.drop j) = dL w gap (X.drop (i + 1)) (Y.drop j) + gap from e2)]
    · exact absurd (codeP_right _ _ _ _ _ _ hi hj) h2
  · have hj : j < Y.length := by omega
    refine ⟨?_, hj⟩
    rw [List.drop_of_length_le (l := X) (by omega), List.drop_eq_getElem_cons hj, pL]
end
structure okW (X Y : List ByteArray) (g n f o : Int) (T : List (List Int)) (i j0 : Nat) : Prop where
  len : T.length = X.length + 1
  lens : ∀ p, p ≤ X.length → (T.getD p []).length = Y.length + 1
  right : ∀ p, p < X.length → at2 T p Y.length = 2
  below : ∀ q, q < Y.length → at2 T X.length q = 3
  here : ∀ p q, p < X.length → q < Y.length → (i < p ∨ (i = p ∧ j0 ≤ q)) → at2 T p q = codeP (wO n f o) g X Y p q
theorem okW.all {X Y : List ByteArray} {g n f o : Int} {T : List (List Int)} (h : okW X Y g n f o T 0 0) (p q : Nat) (hp : p ≤ X.length) (hq : q ≤ Y.length) (hpq : p < X.length ∨ q < Y.length) : at2 T p q = codeP (wO n f o) g X Y p q := by
  by_cases h1 : p < X.length
  · by_cases h2 : q < Y.length
    · exact h.here p q h1 h2 (by omega)
    · rw [codeP_right _ _ _ _ _ _ h1 h2, show q = Y.length by omega]; exact h.right p h1
  · rw [codeP_below _ _ _ _ _ _ h1, show p = X.length by omega]; exact h.below q (by omega)
section
variable (X Y : List ByteArray) (g n f o : Int) (hg : 1 ≤ g ∧ g ≤ 1000) (hn : 1 ≤ n ∧ n ≤ 1000) (hf : 1 ≤ f ∧ f ≤ 1000) (hX : X.length ≤ 1024) (hY : Y.length ≤ 1024)
include hX hY
include hg hn hf
end
def alignR (X Y : List ByteArray) (g n f o : Int) : List S59 × Int × Int := if (gridR X Y g n f o).2 = 0 then (pL (wO n f o) g X Y 0 0, dL (wO n f o) g X Y, 0) else ([], 0, (gridR X Y g n f o).2)
end Go.Proofs.YtbpinnanfanaaaaDoor.Pure
namespace Go.Proofs.YtbpinnanfanaaaaDoor.L
open Go.RowKit Go.Proofs.YtbpinnanfanaaaaDoorW.PrintWords Go.Proofs.YtbpinnanfanaaaaDoorW.PrintLast Go.Proofs.YtbpinnanfanaaaaDoorW.PrintMore
attribute [local go_sem] min2_int min_two min_three   -- for this text's walks alone
set_option linter.unusedVariables false
set_option linter.unusedSimpArgs false
/-! ### pair_Right: function 23 -/
mutual
def pair_Right.l0 : Nat → Int → Int → Int → Int → List (S59) → Int → Int → Option (Bool)
  | 0, _, _, _, _, _, _, _ => none
  | k + 1, x0, x1, x7, x8, x11, x12, x13 => if x13 < x12 then (if 0 ≤ x13 then (if x13 < (x11.length : Int) then (if ((rd_T59 x11 x13).f0) = x7 then (if ((rd_T59 x11 x13).f1) = x8 then (if x7 < x0 then (pair_Right.j1 k x0 x1 x7 x8 x11 x12 x13 (decide (x8 < x1)) ((rd_T59 x11 x13).f0) ((rd_T59 x11 x13).f1)) else (pair_Right.j1 k x0 x1 x7 x8 x11 x12 x13 false ((rd_T59 x11 x13).f0) ((rd_T59 x11 x13).f1))) else (pair_Right.j1 k x0 x1 x7 x8 x11 x12 x13 false ((rd_T59 x11 x13).f0) ((rd_T59 x11 x13).f1))) else (pair_Right.j1 k x0 x1 x7 x8 x11 x12 x13 false ((rd_T59 x11 x13).f0) ((rd_T59 x11 x13).f1))) else (none)) else (none)) else (if x7 = x0 then (some (x8 == x1)) else (some false))
def pair_Right.j1 : Nat → Int → Int → Int → Int → List (S59) → Int → Int → Bool → Int → Int → Option (Bool)
  | 0, _, _, _, _, _, _, _, _, _, _ => none
  | k + 1, x0, x1, x7, x8, x11, x12, x13, x17, x23103000, x23103001 => if x17 = true then (pair_Right.l0 k x0 x1 (wrap64 (x7 + 1)) (wrap64 (x8 + 1)) x11 x12 (wrap64 (x13 + 1))) else (if x23103000 = x7 then (if x23103001 = (-1) then (pair_Right.j2 k x0 x1 x7 x8 x11 x12 x13 (decide (x7 < x0)) x23103000 x23103001) else (pair_Right.j2 k x0 x1 x7 x8 x11 x12 x13 false x23103000 x23103001)) else (pair_Right.j2 k x0 x1 x7 x8 x11 x12 x13 false x23103000 x23103001))
def pair_Right.j2 : Nat → Int → Int → Int → Int → List (S59) → Int → Int → Bool → Int → Int → Option (Bool)
  | 0, _, _, _, _, _, _, _, _, _, _ => none
  | k + 1, x0, x1, x7, x8, x11, x12, x13, x42, x23103000, x23103001 => if x42 = true then (pair_Right.l0 k x0 x1 (wrap64 (x7 + 1)) x8 x11 x12 (wrap64 (x13 + 1))) else (if x23103000 = (-1) then (if x23103001 = x8 then (if x8 < x1 then (pair_Right.l0 k x0 x1 x7 (wrap64 (x8 + 1)) x11 x12 (wrap64 (x13 + 1))) else (some false)) else (some false)) else (some false))
end
def pair_Right.f (k : Nat) (a0 : Int) (a1 : Int) (l2 : List (S59)) : Option (Bool) := pair_Right.l0 k a0 a1 0 0 l2 (l2.length : Int) 0
end Go.Proofs.YtbpinnanfanaaaaDoor.L
namespace Go.Proofs.YtbpinnanfanaaaaDoor.L
open Go.RowKit Go.Proofs.YtbpinnanfanaaaaDoorW.PrintWords Go.Proofs.YtbpinnanfanaaaaDoorW.PrintLast Go.Proofs.YtbpinnanfanaaaaDoorW.PrintMore
attribute [local go_sem] min2_int min_two min_three   -- for this text's walks alone
set_option linter.unusedVariables false
set_option linter.unusedSimpArgs false
/-! ### pair_Price: function 14 -/
def pair_Price.l0 : Nat → List (List Int) → Int → List (S59) → Int → Int → Int → Int → Int → Int → Option (Int × Int)
 | 0, _, _, _, _, _, _, _, _, _ => none
 | k + 1, x10, x12, x34, x35, x36, x14102000, x14102001, x14102002, x14102003 => if x36 < x35 then (if 0 ≤ x36 then (if x36 < (x34.length : Int) then (if ((rd_T59 x34 x36).f0) < 0 then (pair_Price.l0 k x10 (wrap64 (x12 + x14102000)) x34 x35 (wrap64 (x36 + 1)) x14102000 x14102001 x14102002 x14102003) else (if ((rd_T59 x34 x36).f1) < 0 then (pair_Price.l0 k x10 (wrap64 (x12 + x14102000)) x34 x35 (wrap64 (x36 + 1)) x14102000 x14102001 x14102002 x14102003) else (if 0 ≤ ((rd_T59 x34 x36).f0) then (if ((rd_T59 x34 x36).f0) < (x10.length : Int) then (if 0 ≤ ((rd_T59 x34 x36).f1) then (if ((rd_T59 x34 x36).f1) < ((rd_L11 x10 ((rd_T59 x34 x36).f0)).length : Int) then (pair_Price.l0 k x10 (wrap64 (x12 + (rd (rd_L11 x10 ((rd_T59 x34 x36).f0)) ((rd_T59 x34 x36).f1)))) x34 x35 (wrap64 (x36 + 1)) x14102000 x14102001 x14102002 x14102003) else (none)) else (none)) else (none)) else (none)))) else (none)) else (none)) else (some (x12, 0))
def pair_Price.f (k : Nat) (l0 : List ByteArray) (l1 : List ByteArray) (l2 : List (S59)) (a3_0 : Int) (a3_1 : Int) (a3_2 : Int) (a3_3 : Int) : Option (Int × Int) := (cost_Grid.f k l0 l1 a3_0 a3_1 a3_2 a3_3).bind fun bt14102 => (if bt14102.2 = 0 then ((pair_Right.f k (l0.length : Int) (l1.length : Int) l2).bind fun t14106 => (if t14106 = true then (pair_Price.l0 k bt14102.1 0 l2 (l2.length : Int) 0 a3_0 a3_1 a3_2 a3_3) else (some (0, 2)))) else (some (0, bt14102.2)))
end Go.Proofs.YtbpinnanfanaaaaDoor.L
/-
  Is it an alignment, and what does it cost: the program's answers in plain numbers.
-/
namespace Go.Proofs.YtbpinnanfanaaaaDoor.Pure
open Go.RowKit Go.Proofs.YtbpinnanfanaaaaDoor.L Go.Proofs.YtbpinnanfanaaaaDoorW.PrintWords Go.Proofs.YtbpinnanfanaaaaDoorW.PrintLast Go.Proofs.YtbpinnanfanaaaaDoorW.PrintMore
def rightL (n m : Int) : List S59 → Int → Int → Bool
  | [], i, j => decide (i = n ∧ j = m)
  | p :: l, i, j =>
    if p.f0 = i ∧ p.f1 = j ∧ i < n ∧ j < m then rightL n m l (i + 1) (j + 1)
    else if p.f0 = i ∧ p.f1 = -1 ∧ i < n then rightL n m l (i + 1) j
    else if p.f0 = -1 ∧ p.f1 = j ∧ j < m then rightL n m l i (j + 1) else false
theorem rdP_nat (l : List S59) (i : Nat) (h : i < l.length) : rd_T59 l (i : Int) = l[i] := by
  unfold rd_T59
  rw [Int.toNat_natCast, List.getD_eq_getElem?_getD, List.getElem?_eq_getElem h]
  rfl
theorem rightL_in (N M : Nat) : ∀ (l : List S59) (i j : Nat), i ≤ N → j ≤ M → rightL N M l i j = true → l.length ≤ (N - i) + (M - j) ∧ ∀ p ∈ l, (p.f0 = -1 ∧ 0 ≤ p.f1 ∧ p.f1 < M) ∨ (p.f1 = -1 ∧ 0 ≤ p.f0 ∧ p.f0 < N) ∨ (0 ≤ p.f0 ∧ p.f0 < N ∧ 0 ≤ p.f1 ∧ p.f1 < M) := by
  intro l
  induction l with
  | nil => intro i j hi hj h; exact ⟨Nat.zero_le _, fun p hp => by cases hp⟩
  | cons p l IH =>
    intro i j hi hj h
    rw [rightL] at h
    have ci : ((i : Int) + 1) = ((i + 1 : Nat) : Int) := by omega
    have cj : ((j : Int) + 1) = ((j + 1 : Nat) : Int) := by omega
    by_cases h1 : p.f0 = (i : Int) ∧ p.f1 = (j : Int) ∧ (i : Int) < N ∧ (j : Int) < M
    · rw [if_pos h1, ci, cj] at h
      obtain ⟨a, b⟩ := IH (i + 1) (j + 1) (by omega) (by omega) h
      refine ⟨by rw [List.length_cons]; omega, fun q hq => ?_⟩
      rcases List.mem_cons.1 hq with rfl | hq
      · exact Or.inr (Or.inr ⟨by omega, by omega, by omega, by omega⟩)
      · exact b q hq
    · rw [if_neg h1] at h
      by_cases h2 : p.f0 = (i : Int) ∧ p.f1 = -1 ∧ (i : Int) < N
      · rw [if_pos h2, ci] at h
        obtain ⟨a, b⟩ := IH (i + 1) j (by omega) hj h
        refine ⟨by rw [List.length_cons]; omega, fun q hq => ?_⟩
        rcases List.mem_cons.1 hq with rfl | hq
        · exact Or.inr (Or.inl ⟨by omega, by omega, by omega⟩)
        · exact b q hq
      · rw [if_neg h2] at h
        by_cases h3 : p.f0 = -1 ∧ p.f1 = (j : Int) ∧ (j : Int) < M
        · rw [if_pos h3, cj] at h
          obtain ⟨a, b⟩ := IH i (j + 1) hi (by omega) h
          refine ⟨by rw [List.length_cons]; omega, fun q hq => ?_⟩
          rcases List.mem_cons.1 hq with rfl | hq
          · exact Or.inl ⟨by omega, by omega, by omega⟩
          · exact b q hq
        · rw [if_neg h3] at h
          cases h
def costP (T : List (List Int)) (g : Int) (p : S59) : Int := if p.f0 < 0 ∨ p.f1 < 0 then g else at2 T p.f0.toNat p.f1.toNat
def costL (T : List (List Int)) (g : Int) : List S59 → Int
  | [] => 0
  | p :: l => costP T g p + costL T g l
section
variable (X Y : List ByteArray) (g n f o : Int) (hg : 1 ≤ g ∧ g ≤ 1000) (hn : 1 ≤ n ∧ n ≤ 1000) (hf : 1 ≤ f ∧ f ≤ 1000) (hX : X.length ≤ 1024) (hY : Y.length ≤ 1024)
include hg hn hf
theorem costP_range (p : S59) (hp : (p.f0 = -1 ∧ 0 ≤ p.f1 ∧ p.f1 < Y.length) ∨ (p.f1 = -1 ∧ 0 ≤ p.f0 ∧ p.f0 < X.length) ∨ (0 ≤ p.f0 ∧ p.f0 < X.length ∧ 0 ≤ p.f1 ∧ p.f1 < Y.length)) : 0 ≤ costP (gridP X Y n f o) g p ∧ costP (gridP X Y n f o) g p ≤ 1000 := by
  unfold costP
  by_cases h : p.f0 < 0 ∨ p.f1 < 0
  · rw [if_pos h]; omega
  · rw [if_neg h, grid_at X Y n f o _ _ (by omega) (by omega)]
    exact wO_range n f o hn.1 hf _ _
end
def priceR (X Y : List ByteArray) (L : List S59) (g n f o : Int) : Int × Int := if (gridR X Y g n f o).2 = 0 then (if rightL X.length Y.length L 0 0 = true then (costL (gridP X Y n f o) g L, 0) else (0, 2)) else (0, (gridR X Y g n f o).2)
end Go.Proofs.YtbpinnanfanaaaaDoor.Pure
/-
  An alignment by halves: the first list is cut, the second is cut where both parts cost least: the parts' prices are the price of the whole. Pairs one behind another.
-/
namespace Go.Proofs.YtbpinnanfanaaaaDoor.Pure
open Go.RowKit Go.Proofs.YtbpinnanfanaaaaDoor.L Go.Proofs.YtbpinnanfanaaaaDoorW.PrintWords Go.Proofs.YtbpinnanfanaaaaDoorW.PrintLast Go.Proofs.YtbpinnanfanaaaaDoorW.PrintMore
section
variable {α : Type} (w : α → α → Int) (gap : Int)
theorem dL_join (C D : List α) : ∀ A B, dL w gap (A ++ C) (B ++ D) ≤ dL w gap A B + dL w gap C D := by
  refine two_ind (fun ys => ?_) (fun x xs => ?_) (fun x xs y ys h1 h2 h3 => ?_)
  · rw [dL_nil, List.nil_append]
    induction ys with
    | nil => simp
    | cons y ys ih =>
      have := dL_addr w gap C y (ys ++ D)
      rw [List.length_cons, succ_mul_gap, List.cons_append]
      omega
  · rw [dL_nil', List.nil_append]
    generalize x :: xs = l
    induction l with
    | nil => simp
    | cons y ys ih =>
      have := dL_addl w gap y (ys ++ C) D
      rw [List.length_cons, succ_mul_gap, List.cons_append]
      omega
  · rw [List.cons_append, List.cons_append] at *
    rw [dL_cons w gap x y (xs ++ C) (ys ++ D), dL_cons w gap x y xs ys]
    omega
theorem dL_cut (X2 : List α) : ∀ X1 Y, ∃ c, c ≤ Y.length ∧ dL w gap X1 (Y.take c) + dL w gap X2 (Y.drop c) ≤ dL w gap (X1 ++ X2) Y := by
  refine two_ind (fun ys => ?_) (fun x xs => ?_) (fun x xs y ys h1 h2 h3 => ?_)
  · refine ⟨0, Nat.zero_le _, ?_⟩
    rw [List.take_zero, List.drop_zero, dL_nil, List.nil_append]
    simp
  · refine ⟨0, Nat.le_refl _, ?_⟩
    rw [List.take_zero, List.drop_zero, dL_nil', dL_nil', dL_nil', List.length_append, Int.natCast_add, Int.add_mul]
    omega
  · rw [List.cons_append, dL_cons]
    obtain ⟨c1, l1, e1⟩ := h1
    obtain ⟨c2, l2, e2⟩ := h2
    obtain ⟨c3, l3, e3⟩ := h3
    rw [List.cons_append] at e3
    have k1 : dL w gap (x :: xs) (y :: ys.take c1) ≤ dL w gap xs (ys.take c1) + w x y := by rw [dL_cons]; omega
    have k2 : dL w gap (x :: xs) ((y :: ys).take c2) ≤ dL w gap xs ((y :: ys).take c2) + gap := dL_addl w gap x xs _
    have k3 : dL w gap (x :: xs) (y :: ys.take c3) ≤ dL w gap (x :: xs) (ys.take c3) + gap := dL_addr w gap _ y _
    by_cases m1 : dL w gap (xs ++ X2) ys + w x y ≤ min (min (dL w gap (xs ++ X2) ys + w x y) (dL w gap (xs ++ X2) (y :: ys) + gap)) (dL w gap (x :: (xs ++ X2)) ys + gap)
    · exact ⟨c1 + 1, by rw [List.length_cons]; omega, by rw [List.take_succ_cons, List.drop_succ_cons]; omega⟩
    · by_cases m2 : dL w gap (xs ++ X2) (y :: ys) + gap ≤ min (min (dL w gap (xs ++ X2) ys + w x y) (dL w gap (xs ++ X2) (y :: ys) + gap)) (dL w gap (x :: (xs ++ X2)) ys + gap)
      · exact ⟨c2, l2, by omega⟩
      · exact ⟨c3 + 1, by rw [List.length_cons]; omega, by rw [List.take_succ_cons, List.drop_succ_cons]; omega⟩
theorem dL_halves (X1 X2 Y : List α) (c : Nat) (_hc : c ≤ Y.length) (hm : ∀ d, d ≤ Y.length → dL w gap X1 (Y.take c) + dL w gap X2 (Y.drop c) ≤ dL w gap X1 (Y.take d) + dL w gap X2 (Y.drop d)) : dL w gap X1 (Y.take c) + dL w gap X2 (Y.drop c) = dL w gap (X1 ++ X2) Y := by
  obtain ⟨d, hd, h1⟩ := dL_cut w gap X2 X1 Y
  have h2 := hm d hd
  have h3 := dL_join w gap X2 (Y.drop c) X1 (Y.take c)
  rw [List.take_append_drop] at h3
  omega
theorem dL_one (x : α) : ∀ ys : List α, dL w gap [x] ys ≤ ((ys.length : Int) + 1) * gap ∧ (∀ y ∈ ys, dL w gap [x] ys ≤ ((ys.length : Int) - 1) * gap + w x y) ∧ (dL w gap [x] ys = ((ys.length : Int) + 1) * gap ∨ ∃ y ∈ ys, dL w gap [x] ys = ((ys.length : Int) - 1) * gap + w x y) := by
  intro ys
  induction ys with
  | nil =>
    rw [dL_nil']
    exact ⟨by simp, (by intro y hy; cases hy), Or.inl (by simp)⟩
  | cons y ys ih =>
    obtain ⟨i1, i2, i3⟩ := ih
    have e1 : dL w gap [] ys = (ys.length : Int) * gap := dL_nil w gap ys
    have e2 : dL w gap [] (y :: ys) = (ys.length : Int) * gap + gap := by rw [dL_nil, List.length_cons, succ_mul_gap]
    have e3 : (((y :: ys).length : Int) + 1) * gap = (ys.length : Int) * gap + gap + gap := by rw [List.length_cons, Int.add_mul, succ_mul_gap, Int.one_mul]
    have e4 : (((y :: ys).length : Int) - 1) * gap = (ys.length : Int) * gap := by rw [List.length_cons]; congr 1; omega
    have e5 : ((ys.length : Int) + 1) * gap = (ys.length : Int) * gap + gap := by rw [Int.add_mul, Int.one_mul]
    have e6 : ((ys.length : Int) - 1) * gap = (ys.length : Int) * gap - gap := by rw [Int.sub_mul, Int.one_mul]
    rw [e3, e4, dL_cons, e1, e2]
    rw [e5] at i1 i3
    rw [e6] at i2 i3
    refine ⟨by omega, fun z hz => ?_, ?_⟩
    · rcases List.mem_cons.1 hz with rfl | hz
      · omega
      · have := i2 z hz; omega
    · rcases i3 with i3 | ⟨z, hz, i3⟩
      · by_cases m : (ys.length : Int) * gap + w x y ≤ (ys.length : Int) * gap + gap + gap
        · exact Or.inr ⟨y, List.mem_cons_self, by omega⟩
        · exact Or.inl (by omega)
      · by_cases m : (ys.length : Int) * gap + w x y ≤ (ys.length : Int) * gap - gap + w x z + gap
        · by_cases m2 : (ys.length : Int) * gap + w x y ≤ (ys.length : Int) * gap + gap + gap
          · exact Or.inr ⟨y, List.mem_cons_self, by omega⟩
          · exact Or.inl (by omega)
        · by_cases m2 : (ys.length : Int) * gap - gap + w x z + gap ≤ (ys.length : Int) * gap + gap + gap
          · exact Or.inr ⟨z, List.mem_cons_of_mem _ hz, by omega⟩
          · exact Or.inl (by omega)
end
/-! pairs -/
theorem rightL_append (n1 m1 n m : Int) (hn : n1 ≤ n) (hm : m1 ≤ m) (L2 : List S59) (h2 : rightL n m L2 n1 m1 = true) : ∀ (L1 : List S59) (i j : Int), 0 ≤ i → 0 ≤ j → rightL n1 m1 L1 i j = true → rightL n m (L1 ++ L2) i j = true := by
  intro L1
  induction L1 with
  | nil =>
    intro i j hi hj h
    rw [rightL] at h
    obtain ⟨rfl, rfl⟩ := of_decide_eq_true h
    exact h2
  | cons p l ih =>
    intro i j hi hj h
    rw [rightL] at h
    rw [List.cons_append, rightL]
    by_cases a : p.f0 = i ∧ p.f1 = j ∧ i < n1 ∧ j < m1
    · rw [if_pos a] at h
      rw [if_pos ⟨a.1, a.2.1, by omega, by omega⟩]
      exact ih _ _ (by omega) (by omega) h
    · rw [if_neg a] at h
      by_cases b : p.f0 = i ∧ p.f1 = -1 ∧ i < n1
      · rw [if_pos b] at h
        rw [if_neg (by omega), if_pos ⟨b.1, b.2.1, by omega⟩]
        exact ih _ _ (by omega) (by omega) h
      · rw [if_neg b] at h
        by_cases c : p.f0 = -1 ∧ p.f1 = j ∧ j < m1
        · rw [if_pos c] at h
          rw [if_neg (by omega), if_neg (by omega), if_pos ⟨c.1, c.2.1, by omega⟩]
          exact ih _ _ (by omega) (by omega) h
        · rw [if_neg c] at h; cases h
theorem costL_append (T : List (List Int)) (g : Int) (L1 L2 : List S59) : costL T g (L1 ++ L2) = costL T g L1 + costL T g L2 := by
  induction L1 with
  | nil => rw [List.nil_append, costL]; omega
  | cons p l ih => rw [List.cons_append, costL, costL, ih]; omega
def gapsL : Nat → Nat → List S59
  | _, 0 => []
  | j, d + 1 => ⟨-1, (j : Int)⟩ :: gapsL (j + 1) d
theorem gapsL_right (n : Int) (hn : 0 ≤ n) : ∀ (d j : Nat), rightL n ((j + d : Nat) : Int) (gapsL j d) n (j : Int) = true := by
  intro d
  induction d with
  | zero => intro j; rw [gapsL, rightL]; exact decide_eq_true ⟨rfl, rfl⟩
  | succ d ih =>
    intro j
    rw [gapsL, rightL, if_neg (by dsimp only; omega), if_neg (by dsimp only; omega), if_pos ⟨rfl, rfl, by omega⟩]
    have := ih (j + 1)
    rw [show j + 1 + d = j + (d + 1) by omega] at this
    exact this
theorem gapsL_cost (T : List (List Int)) (g : Int) : ∀ (d j : Nat), costL T g (gapsL j d) = (d : Int) * g := by
  intro d
  induction d with
  | zero => intro j; rw [gapsL, costL]; simp
  | succ d ih =>
    intro j
    rw [gapsL, costL, ih, succ_mul_gap]
    unfold costP
    rw [if_pos (Or.inl (by dsimp only; omega))]
    omega
/-! windows of a list -/
def win {α : Type} (X : List α) (a b : Nat) : List α := (X.drop a).take (b - a)
theorem win_len {α : Type} (X : List α) (a b : Nat) (h : a ≤ b) (hb : b ≤ X.length) : (win X a b).length = b - a := by
  unfold win; rw [List.length_take, List.length_drop]; omega
theorem win_get {α : Type} (X : List α) (a b i : Nat) (hb : b ≤ X.length) (h : i < b - a) (hl : i < (win X a b).length) : (win X a b)[i] = X[a + i]'(by omega) := by
  have e : (win X a b)[i]? = X[a + i]? := by unfold win; rw [List.getElem?_take, if_pos h, List.getElem?_drop]
  rw [List.getElem?_eq_getElem hl, List.getElem?_eq_getElem (by omega)] at e
  exact Option.some.inj e
theorem win_take {α : Type} (X : List α) (a b c : Nat) (h : c ≤ b - a) : (win X a b).take c = win X a (a + c) := by
  unfold win; rw [List.take_take, Nat.min_eq_left h, show a + c - a = c by omega]
theorem win_drop {α : Type} (X : List α) (a b c : Nat) (_h : c ≤ b - a) : (win X a b).drop c = win X (a + c) b := by
  unfold win; rw [List.drop_take, List.drop_drop, show b - a - c = b - (a + c) by omega]
theorem win_cut {α : Type} (X : List α) (a m b : Nat) (h1 : a ≤ m) (h2 : m ≤ b) : win X a m ++ win X m b = win X a b := by
  have e1 := win_take X a b (m - a) (by omega)
  have e2 := win_drop X a b (m - a) (by omega)
  rw [show a + (m - a) = m by omega] at e1 e2
  rw [← e1, ← e2, List.take_append_drop]
theorem win_self {α : Type} (X : List α) (a : Nat) : win X a a = [] := by unfold win; rw [Nat.sub_self, List.take_zero]
theorem win_all {α : Type} (X : List α) : win X 0 X.length = X := by unfold win; rw [List.drop_zero, Nat.sub_zero, List.take_length]
theorem win_one {α : Type} (X : List α) (a : Nat) (h : a < X.length) : win X a (a + 1) = [X[a]] := by
  unfold win; rw [show a + 1 - a = 1 by omega, List.drop_eq_getElem_cons h, List.take_succ_cons, List.take_zero]
end Go.Proofs.YtbpinnanfanaaaaDoor.Pure
/-
  slim's two rows over parts of both lists: what is ahead of each place, what is behind it.
-/
namespace Go.Proofs.YtbpinnanfanaaaaDoor.Pure
open Go.RowKit Go.Proofs.YtbpinnanfanaaaaDoor.L Go.Proofs.YtbpinnanfanaaaaDoorW.PrintWords Go.Proofs.YtbpinnanfanaaaaDoorW.PrintLast Go.Proofs.YtbpinnanfanaaaaDoorW.PrintMore
theorem grid_win (X Y : List ByteArray) (n f o : Int) (i0 i1 j0 j1 : Nat) (hi1 : i1 ≤ X.length) (hj1 : j1 ≤ Y.length) (p q : Nat) (hp : p < i1 - i0) (hq : q < j1 - j0) (a : p < (win X i0 i1).length) (b : q < (win Y j0 j1).length) : at2 (gridP X Y n f o) (i0 + p) (j0 + q) = wO n f o (win X i0 i1)[p] (win Y j0 j1)[q] := by
  rw [grid_at X Y n f o (i0 + p) (j0 + q) (by omega) (by omega), win_get X i0 i1 p hi1 hp, win_get Y j0 j1 q hj1 hq]
section
variable (X Y : List ByteArray) (g n f o : Int) (hg : 1 ≤ g ∧ g ≤ 1000) (hn : 1 ≤ n ∧ n ≤ 1000) (hf : 1 ≤ f ∧ f ≤ 1000) (hX : X.length ≤ 1024) (hY : Y.length ≤ 1024) (i0 i1 j0 j1 : Nat) (hi : i0 ≤ i1) (hi1 : i1 ≤ X.length) (hj : j0 ≤ j1) (hj1 : j1 ≤ Y.length)
def RowA (R : List Int) : Prop := R.length = j1 - j0 + 1 ∧ ∀ s, s ≤ j1 - j0 → R.getD s 0 = dL (wO n f o) g (win X i0 i1) ((win Y j0 j1).take s)
def RowB (R : List Int) : Prop := R.length = j1 - j0 + 1 ∧ ∀ s, s ≤ j1 - j0 → R.getD s 0 = dL (wO n f o) g (win X i0 i1) ((win Y j0 j1).drop s)
include hg hn hf hX hY hi hi1 hj hj1
theorem dPv_range (i j : Nat) : 0 ≤ dP (wO n f o) g (win X i0 i1) (win Y j0 j1) i j ∧ dP (wO n f o) g (win X i0 i1) (win Y j0 j1) i j ≤ 2048000 := dP_range (wO n f o) g (by omega) (fun x y => (wO_range n f o hn.1 hf x y).1) _ _ (by rw [win_len X i0 i1 hi hi1]; omega) (by rw [win_len Y j0 j1 hj hj1]; omega) i j
theorem dRv_range (i j : Nat) : 0 ≤ dR (wO n f o) g (win X i0 i1) (win Y j0 j1) i j ∧ dR (wO n f o) g (win X i0 i1) (win Y j0 j1) i j ≤ 2048000 := dR_range (wO n f o) g (by omega) (fun x y => (wO_range n f o hn.1 hf x y).1) _ _ (by rw [win_len X i0 i1 hi hi1]; omega) (by rw [win_len Y j0 j1 hj hj1]; omega) i j
theorem aheadW_l2 (p : Nat) (hp : p < i1 - i0) (cont : ∀ R : List Int, R.length = j1 - j0 + 1 → (∀ s, s ≤ j1 - j0 → R.getD s 0 = dP (wO n f o) g (win X i0 i1) (win Y j0 j1) (p + 1) s) → ∃ R', RowA X Y g n f o i0 i1 j0 j1 R' ∧ Ev (fun k => slim_task_ahead.l1 k (i1 : Int) (j0 : Int) (j1 : Int) R ((i0 + p + 1 : Nat) : Int) (gridP X Y n f o) g) R') :
    ∀ (d q : Nat) (R : List Int), q + d = j1 - j0 → R.length = j1 - j0 + 1 → (∀ s, s ≤ q → R.getD s 0 = dP (wO n f o) g (win X i0 i1) (win Y j0 j1) (p + 1) s) → (∀ s, q < s → s ≤ j1 - j0 → R.getD s 0 = dP (wO n f o) g (win X i0 i1) (win Y j0 j1) p s) → ∃ R', RowA X Y g n f o i0 i1 j0 j1 R' ∧ Ev (fun k => slim_task_ahead.l2 k (i1 : Int) (j0 : Int) (j1 : Int) R ((i0 + p : Nat) : Int) (dP (wO n f o) g (win X i0 i1) (win Y j0 j1) p q) ((j0 + q : Nat) : Int) (gridP X Y n f o) g) R' := by
  have lX := win_len X i0 i1 hi hi1
  have lY := win_len Y j0 j1 hj hj1
  intro d
  induction d with
  | zero =>
    intro q R hd hl h1 h2
    obtain ⟨R', hR', he⟩ := cont R hl (fun s hs => h1 s (by omega))
    exact ⟨R', hR', Ev.step (fun k => by rw [slim_task_ahead.l2, if_neg (by omega), wsucc (i0 + p) (by omega)]) he⟩
  | succ d IH =>
    intro q R hd hl h1 h2
    have hq : q < j1 - j0 := by omega
    have ha : p < (win X i0 i1).length := by omega
    have hb : q < (win Y j0 j1).length := by omega
    have r1 := dPv_range X Y g n f o hg hn hf hX hY i0 i1 j0 j1 hi hi1 hj hj1 p q
    have r2 := dPv_range X Y g n f o hg hn hf hX hY i0 i1 j0 j1 hi hi1 hj hj1 p (q + 1)
    have r3 := dPv_range X Y g n f o hg hn hf hX hY i0 i1 j0 j1 hi hi1 hj hj1 (p + 1) q
    have hw := wO_range n f o hn.1 hf (win X i0 i1)[p] (win Y j0 j1)[q]
    have hst := dP_step (wO n f o) g (win X i0 i1) (win Y j0 j1) p q ha hb
    have el : (rd_L11 (gridP X Y n f o) ((i0 + p : Nat) : Int)).length = Y.length := grid_rlen X Y n f o (i0 + p) (by omega)
    have ev : rd (rd_L11 (gridP X Y n f o) ((i0 + p : Nat) : Int)) ((j0 + q : Nat) : Int) = wO n f o (win X i0 i1)[p] (win Y j0 j1)[q] := grid_win X Y n f o i0 i1 j0 j1 hi1 hj1 p q hp hq ha hb
    have eG := grid_len X Y n f o
    have q1 : rd R ((q + 1 : Nat) : Int) = dP (wO n f o) g (win X i0 i1) (win Y j0 j1) p (q + 1) := by rw [rdS]; exact h2 (q + 1) (by omega) (by omega)
    have q2 : rd R (q : Int) = dP (wO n f o) g (win X i0 i1) (win Y j0 j1) (p + 1) q := by rw [rdS]; exact h1 q (Nat.le_refl _)
    generalize (win X i0 i1)[p] = x at hw hst ev
    generalize (win Y j0 j1)[q] = y at hw hst ev
    have w0 : Aside0 (wrap64 (((j0 + q : Nat) : Int) - (j0 : Int)) = (q : Int)) := ⟨by rw [ws _ (by omega) (by omega)]; omega⟩
    have w1 : Aside0 (wrap64 ((q : Int) + 1) = ((q + 1 : Nat) : Int)) := ⟨wsucc q (by omega)⟩
    have w2 : Aside0 (wrap64 (((q + 1 : Nat) : Int) - 1) = (q : Int)) := ⟨by rw [ws _ (by omega) (by omega)]; omega⟩
    have w6 : Aside0 (wrap64 (((j0 + q : Nat) : Int) + 1) = ((j0 + (q + 1) : Nat) : Int)) := ⟨by rw [wsucc _ (by omega)]; rfl⟩
    have w3 : Aside0 (wrap64 (dP (wO n f o) g (win X i0 i1) (win Y j0 j1) p q + wO n f o x y) = dP (wO n f o) g (win X i0 i1) (win Y j0 j1) p q + wO n f o x y) := ⟨ws _ (by omega) (by omega)⟩
    have w4 : Aside0 (wrap64 (dP (wO n f o) g (win X i0 i1) (win Y j0 j1) p (q + 1) + g) = dP (wO n f o) g (win X i0 i1) (win Y j0 j1) p (q + 1) + g) := ⟨ws _ (by omega) (by omega)⟩
    have w5 : Aside0 (wrap64 (dP (wO n f o) g (win X i0 i1) (win Y j0 j1) (p + 1) q + g) = dP (wO n f o) g (win X i0 i1) (win Y j0 j1) (p + 1) q + g) := ⟨ws _ (by omega) (by omega)⟩
    have HST := Aside0.mk hst
    clear hst r1 r2 r3 hw
    obtain ⟨R', hR', he⟩ := IH (q + 1) (R.set (q + 1) (dP (wO n f o) g (win X i0 i1) (win Y j0 j1) (p + 1) (q + 1))) (by omega) (by rw [List.length_set]; exact hl)
      (fun s hs => by
        by_cases e : s = q + 1
        · rw [e, getD_set_same R (q + 1) (by omega)]
        · rw [getD_set_ne R (q + 1) s (fun z => e z.symm)]; exact h1 s (by omega))
      (fun s hs ht => by rw [getD_set_ne R (q + 1) s (by omega)]; exact h2 s (by omega) ht)
    refine ⟨R', hR', Ev.step (fun k => ?_) he⟩
    generalize hGd : gridP X Y n f o = G at el ev eG ⊢
    have b0 : (0 : Int) ≤ ((i0 + p : Nat) : Int) := Int.natCast_nonneg _
    have b1 : (0 : Int) ≤ ((j0 + q : Nat) : Int) := Int.natCast_nonneg _
    have b2 : ((j0 + q : Nat) : Int) < (j1 : Int) := Int.ofNat_lt.2 (by omega)
    have b3 : ((i0 + p : Nat) : Int) < (G.length : Int) := by rw [eG]; exact Int.ofNat_lt.2 (by omega)
    have b4 : ((j0 + q : Nat) : Int) < ((rd_L11 G ((i0 + p : Nat) : Int)).length : Int) := by rw [el]; exact Int.ofNat_lt.2 (by omega)
    have b5 : (0 : Int) ≤ ((q + 1 : Nat) : Int) := Int.natCast_nonneg _
    have b6 : ((q + 1 : Nat) : Int) < (R.length : Int) := by rw [hl]; exact Int.ofNat_lt.2 (by omega)
    have b7 : (q : Int) < (R.length : Int) := by rw [hl]; exact Int.ofNat_lt.2 (by omega)
    have b8 : (0 : Int) ≤ (q : Int) := Int.natCast_nonneg _
    rw [slim_task_ahead.l2, if_pos b2, if_pos b0, if_pos b3, if_pos b1, if_pos b4, w0.out, w1.out, if_pos b5, if_pos b6, w2.out, if_pos b8, if_pos b7, ev, q1, q2, Int.toNat_natCast, mnS, mnS, w3.out, w4.out, w5.out, ← HST.out, w6.out]
theorem aheadW_l1 : ∀ (d p : Nat) (R : List Int), p + d = i1 - i0 → R.length = j1 - j0 + 1 → (∀ s, s ≤ j1 - j0 → R.getD s 0 = dP (wO n f o) g (win X i0 i1) (win Y j0 j1) p s) → ∃ R', RowA X Y g n f o i0 i1 j0 j1 R' ∧ Ev (fun k => slim_task_ahead.l1 k (i1 : Int) (j0 : Int) (j1 : Int) R ((i0 + p : Nat) : Int) (gridP X Y n f o) g) R' := by
  have lX := win_len X i0 i1 hi hi1
  have lY := win_len Y j0 j1 hj hj1
  intro d
  induction d with
  | zero =>
    intro p R hd hl h1
    refine ⟨R, ⟨hl, fun s hs => ?_⟩, Ev.step (f := fun _ => some R) (fun k => by rw [slim_task_ahead.l1, if_neg (by omega)]) (Ev.now _)⟩
    rw [h1 s hs, show p = (win X i0 i1).length by omega]
    unfold dP
    rw [List.take_length, dL_reverse (wO n f o) g (by omega) (fun x y => (wO_range n f o hn.1 hf x y).1)]
  | succ d IH =>
    intro p R hd hl h1
    have r0 := dPv_range X Y g n f o hg hn hf hX hY i0 i1 j0 j1 hi hi1 hj hj1 p 0
    have q0 : rd R 0 = dP (wO n f o) g (win X i0 i1) (win Y j0 j1) p 0 := by have := rdS R 0; rw [show ((0 : Nat) : Int) = 0 from rfl] at this; rw [this]; exact h1 0 (Nat.zero_le _)
    have c1 := dP_col (wO n f o) g (win X i0 i1) (win Y j0 j1) p (by omega)
    have c2 := dP_col (wO n f o) g (win X i0 i1) (win Y j0 j1) (p + 1) (by omega)
    have c3 : dP (wO n f o) g (win X i0 i1) (win Y j0 j1) (p + 1) 0 = dP (wO n f o) g (win X i0 i1) (win Y j0 j1) p 0 + g := by rw [c1, c2, succ_mul_gap]
    obtain ⟨R', hR', he⟩ := aheadW_l2 X Y g n f o hg hn hf hX hY i0 i1 j0 j1 hi hi1 hj hj1 p (by omega) (fun R1 l1 p1 => IH (p + 1) R1 (by omega) l1 p1) (j1 - j0) 0 (R.set 0 (dP (wO n f o) g (win X i0 i1) (win Y j0 j1) (p + 1) 0)) (by omega) (by rw [List.length_set]; exact hl)
      (fun s hs => by obtain rfl : s = 0 := by omega
                      rw [getD_set_same R 0 (by omega)])
      (fun s hs hq => by rw [getD_set_ne R 0 s (by omega)]; exact h1 s hq)
    refine ⟨R', hR', Ev.step (fun k => ?_) he⟩
    rw [slim_task_ahead.l1, if_pos (by omega), if_pos (by omega), q0, ws _ (by omega) (by omega), c3]
    rfl
theorem aheadW_l0 : ∀ (d x : Nat) (R : List Int), x + d = j1 - j0 + 1 → R.length = j1 - j0 + 1 → (∀ s, s < x → R.getD s 0 = dP (wO n f o) g (win X i0 i1) (win Y j0 j1) 0 s) → ∃ R', RowA X Y g n f o i0 i1 j0 j1 R' ∧ Ev (fun k => slim_task_ahead.l0 k (i0 : Int) (i1 : Int) (j0 : Int) (j1 : Int) R ((j1 - j0 + 1 : Nat) : Int) (x : Int) (gridP X Y n f o) g) R' := by
  have lX := win_len X i0 i1 hi hi1
  have lY := win_len Y j0 j1 hj hj1
  intro d
  induction d with
  | zero =>
    intro x R hd hl h1
    obtain ⟨R', hR', he⟩ := aheadW_l1 X Y g n f o hg hn hf hX hY i0 i1 j0 j1 hi hi1 hj hj1 (i1 - i0) 0 R (by omega) hl (fun s hs => h1 s (by omega))
    exact ⟨R', hR', Ev.step (fun k => by rw [slim_task_ahead.l0, if_neg (by omega)]; rfl) he⟩
  | succ d IH =>
    intro x R hd hl h1
    have c := dP_row (wO n f o) g (win X i0 i1) (win Y j0 j1) x (by omega)
    have r := dPv_range X Y g n f o hg hn hf hX hY i0 i1 j0 j1 hi hi1 hj hj1 0 x
    rw [c] at r
    obtain ⟨R', hR', he⟩ := IH (x + 1) (R.set x ((x : Int) * g)) (by omega) (by rw [List.length_set]; exact hl) (fun s hs => by
      by_cases e : s = x
      · rw [e, getD_set_same R x (by omega), c]
      · rw [getD_set_ne R x s (fun z => e z.symm)]; exact h1 s (by omega))
    refine ⟨R', hR', Ev.step (fun k => ?_) he⟩
    rw [slim_task_ahead.l0, if_pos (by omega), if_pos (by omega), if_pos (by omega), Int.toNat_natCast, ws _ (by omega) (by omega), wsucc x (by omega)]
theorem aheadW_eq : ∃ R', RowA X Y g n f o i0 i1 j0 j1 R' ∧ Ev (fun k => slim_task_ahead.f k (gridP X Y n f o) g (i0 : Int) (i1 : Int) (j0 : Int) (j1 : Int)) R' := by
  obtain ⟨R', hR', he⟩ := aheadW_l0 X Y g n f o hg hn hf hX hY i0 i1 j0 j1 hi hi1 hj hj1 (j1 - j0 + 1) 0 (List.replicate (j1 - j0 + 1) 0) (by omega) (by simp) (fun s hs => by omega)
  refine ⟨R', hR', Ev.congr (fun k => ?_) he⟩
  have w0 : wrap64 (wrap64 ((j1 : Int) - (j0 : Int)) + 1) = ((j1 - j0 + 1 : Nat) : Int) := by rw [ws ((j1 : Int) - (j0 : Int)) (by omega) (by omega), ws _ (by omega) (by omega)]; omega
  unfold slim_task_ahead.f
  rw [w0, if_pos (by omega), Int.toNat_natCast, if_pos (by omega), Option.bind_some, List.length_replicate]
  rfl
theorem behindW_l2 (p : Nat) (hp : p < i1 - i0) (cont : ∀ R : List Int, R.length = j1 - j0 + 1 → (∀ s, s ≤ j1 - j0 → R.getD s 0 = dR (wO n f o) g (win X i0 i1) (win Y j0 j1) p s) → ∃ R', RowB X Y g n f o i0 i1 j0 j1 R' ∧ Ev (fun k => slim_task_behind.l1 k (i0 : Int) (j0 : Int) (j1 : Int) R (((i0 + p : Nat) : Int) - 1) (gridP X Y n f o) g) R') :
    ∀ (q : Nat) (R : List Int), q ≤ j1 - j0 → R.length = j1 - j0 + 1 → (∀ s, q ≤ s → s ≤ j1 - j0 → R.getD s 0 = dR (wO n f o) g (win X i0 i1) (win Y j0 j1) p s) → (∀ s, s < q → R.getD s 0 = dR (wO n f o) g (win X i0 i1) (win Y j0 j1) (p + 1) s) → ∃ R', RowB X Y g n f o i0 i1 j0 j1 R' ∧ Ev (fun k => slim_task_behind.l2 k (i0 : Int) (j0 : Int) (j1 : Int) R ((i0 + p : Nat) : Int) (dR (wO n f o) g (win X i0 i1) (win Y j0 j1) (p + 1) q) (((j0 + q : Nat) : Int) - 1) (gridP X Y n f o) g) R' := by
  have lX := win_len X i0 i1 hi hi1
  have lY := win_len Y j0 j1 hj hj1
  intro q
  induction q with
  | zero =>
    intro R hd hl h1 h2
    obtain ⟨R', hR', he⟩ := cont R hl (fun s hs => h1 s (Nat.zero_le _) hs)
    exact ⟨R', hR', Ev.step (fun k => by rw [slim_task_behind.l2, if_neg (by omega), ws (((i0 + p : Nat) : Int) - 1) (by omega) (by omega)]) he⟩
  | succ q IH =>
    intro R hd hl h1 h2
    have hq : q < j1 - j0 := by omega
    have ha : p < (win X i0 i1).length := by omega
    have hb : q < (win Y j0 j1).length := by omega
    have r1 := dRv_range X Y g n f o hg hn hf hX hY i0 i1 j0 j1 hi hi1 hj hj1 (p + 1) (q + 1)
    have r2 := dRv_range X Y g n f o hg hn hf hX hY i0 i1 j0 j1 hi hi1 hj hj1 (p + 1) q
    have r3 := dRv_range X Y g n f o hg hn hf hX hY i0 i1 j0 j1 hi hi1 hj hj1 p (q + 1)
    have hw := wO_range n f o hn.1 hf (win X i0 i1)[p] (win Y j0 j1)[q]
    have hst := dR_step (wO n f o) g (win X i0 i1) (win Y j0 j1) p q ha hb
    have el : (rd_L11 (gridP X Y n f o) ((i0 + p : Nat) : Int)).length = Y.length := grid_rlen X Y n f o (i0 + p) (by omega)
    have ev : rd (rd_L11 (gridP X Y n f o) ((i0 + p : Nat) : Int)) ((j0 + q : Nat) : Int) = wO n f o (win X i0 i1)[p] (win Y j0 j1)[q] := grid_win X Y n f o i0 i1 j0 j1 hi1 hj1 p q hp hq ha hb
    have eG := grid_len X Y n f o
    have q1 : rd R (q : Int) = dR (wO n f o) g (win X i0 i1) (win Y j0 j1) (p + 1) q := by rw [rdS]; exact h2 q (by omega)
    have q2 : rd R ((q + 1 : Nat) : Int) = dR (wO n f o) g (win X i0 i1) (win Y j0 j1) p (q + 1) := by rw [rdS]; exact h1 (q + 1) (Nat.le_refl _) hd
    generalize (win X i0 i1)[p] = x at hw hst ev
    generalize (win Y j0 j1)[q] = y at hw hst ev
    have hj' : ((j0 + (q + 1) : Nat) : Int) - 1 = ((j0 + q : Nat) : Int) := by omega
    have w0 : Aside0 (wrap64 (((j0 + q : Nat) : Int) - (j0 : Int)) = (q : Int)) := ⟨by rw [ws _ (by omega) (by omega)]; omega⟩
    have w1 : Aside0 (wrap64 ((q : Int) + 1) = ((q + 1 : Nat) : Int)) := ⟨wsucc q (by omega)⟩
    have w6 : Aside0 (wrap64 (((j0 + q : Nat) : Int) - 1) = ((j0 + q : Nat) : Int) - 1) := ⟨ws _ (by omega) (by omega)⟩
    have w3 : Aside0 (wrap64 (dR (wO n f o) g (win X i0 i1) (win Y j0 j1) (p + 1) (q + 1) + wO n f o x y) = dR (wO n f o) g (win X i0 i1) (win Y j0 j1) (p + 1) (q + 1) + wO n f o x y) := ⟨ws _ (by omega) (by omega)⟩
    have w4 : Aside0 (wrap64 (dR (wO n f o) g (win X i0 i1) (win Y j0 j1) (p + 1) q + g) = dR (wO n f o) g (win X i0 i1) (win Y j0 j1) (p + 1) q + g) := ⟨ws _ (by omega) (by omega)⟩
    have w5 : Aside0 (wrap64 (dR (wO n f o) g (win X i0 i1) (win Y j0 j1) p (q + 1) + g) = dR (wO n f o) g (win X i0 i1) (win Y j0 j1) p (q + 1) + g) := ⟨ws _ (by omega) (by omega)⟩
    have HST := Aside0.mk hst
    clear hst r1 r2 r3 hw
    obtain ⟨R', hR', he⟩ := IH (R.set q (dR (wO n f o) g (win X i0 i1) (win Y j0 j1) p q)) (by omega) (by rw [List.length_set]; exact hl)
      (fun s hs ht => by
        by_cases e : s = q
        · rw [e, getD_set_same R q (by omega)]
        · rw [getD_set_ne R q s (fun z => e z.symm)]; exact h1 s (by omega) ht)
      (fun s hs => by rw [getD_set_ne R q s (by omega)]; exact h2 s (by omega))
    refine ⟨R', hR', Ev.step (fun k => ?_) he⟩
    rw [hj']
    generalize hGd : gridP X Y n f o = G at el ev eG ⊢
    have b0 : (0 : Int) ≤ ((i0 + p : Nat) : Int) := Int.natCast_nonneg _
    have b1 : (0 : Int) ≤ ((j0 + q : Nat) : Int) := Int.natCast_nonneg _
    have b2 : ((j0 + q : Nat) : Int) ≥ (j0 : Int) := Int.ofNat_le.2 (by omega)
    have b3 : ((i0 + p : Nat) : Int) < (G.length : Int) := by rw [eG]; exact Int.ofNat_lt.2 (by omega)
    have b4 : ((j0 + q : Nat) : Int) < ((rd_L11 G ((i0 + p : Nat) : Int)).length : Int) := by rw [el]; exact Int.ofNat_lt.2 (by omega)
    have b5 : (0 : Int) ≤ ((q + 1 : Nat) : Int) := Int.natCast_nonneg _
    have b6 : ((q + 1 : Nat) : Int) < (R.length : Int) := by rw [hl]; exact Int.ofNat_lt.2 (by omega)
    have b7 : (q : Int) < (R.length : Int) := by rw [hl]; exact Int.ofNat_lt.2 (by omega)
    have b8 : (0 : Int) ≤ (q : Int) := Int.natCast_nonneg _
    rw [slim_task_behind.l2, if_pos b2, if_pos b0, if_pos b3, if_pos b1, if_pos b4, w0.out, if_pos b8, if_pos b7, w1.out, if_pos b5, if_pos b6, ev, q1, q2, Int.toNat_natCast, mnS, mnS, w3.out, w4.out, w5.out, ← HST.out, w6.out]
theorem behindW_l1 : ∀ (p : Nat) (R : List Int), p ≤ i1 - i0 → R.length = j1 - j0 + 1 → (∀ s, s ≤ j1 - j0 → R.getD s 0 = dR (wO n f o) g (win X i0 i1) (win Y j0 j1) p s) → ∃ R', RowB X Y g n f o i0 i1 j0 j1 R' ∧ Ev (fun k => slim_task_behind.l1 k (i0 : Int) (j0 : Int) (j1 : Int) R (((i0 + p : Nat) : Int) - 1) (gridP X Y n f o) g) R' := by
  have lX := win_len X i0 i1 hi hi1
  have lY := win_len Y j0 j1 hj hj1
  intro p
  induction p with
  | zero =>
    intro R hd hl h1
    refine ⟨R, ⟨hl, fun s hs => ?_⟩, Ev.step (f := fun _ => some R) (fun k => by rw [slim_task_behind.l1, if_neg (by omega)]) (Ev.now _)⟩
    rw [h1 s hs]
    unfold dR
    rw [List.drop_zero]
  | succ p IH =>
    intro R hd hl h1
    have r0 := dRv_range X Y g n f o hg hn hf hX hY i0 i1 j0 j1 hi hi1 hj hj1 (p + 1) (j1 - j0)
    have q0 : rd R ((j1 - j0 : Nat) : Int) = dR (wO n f o) g (win X i0 i1) (win Y j0 j1) (p + 1) (j1 - j0) := by rw [rdS]; exact h1 _ (Nat.le_refl _)
    have c1 := dR_endr (wO n f o) g (win X i0 i1) (win Y j0 j1) p (by omega)
    have c2 := dR_endr (wO n f o) g (win X i0 i1) (win Y j0 j1) (p + 1) (by omega)
    have c3 : dR (wO n f o) g (win X i0 i1) (win Y j0 j1) p (j1 - j0) = dR (wO n f o) g (win X i0 i1) (win Y j0 j1) (p + 1) (j1 - j0) + g := by
      rw [← lY, c1, c2, show (((win X i0 i1).length : Int) - (p : Int)) = (((win X i0 i1).length : Int) - ((p + 1 : Nat) : Int)) + 1 by omega, Int.add_mul, Int.one_mul]
    obtain ⟨R', hR', he⟩ := behindW_l2 X Y g n f o hg hn hf hX hY i0 i1 j0 j1 hi hi1 hj hj1 p (by omega) (fun R1 l1 p1 => IH R1 (by omega) l1 p1) (j1 - j0) (R.set (j1 - j0) (dR (wO n f o) g (win X i0 i1) (win Y j0 j1) p (j1 - j0))) (Nat.le_refl _) (by rw [List.length_set]; exact hl)
      (fun s hs ht => by obtain rfl : s = j1 - j0 := by omega
                         rw [getD_set_same R _ (by omega)])
      (fun s hs => by rw [getD_set_ne R _ s (by omega)]; exact h1 s (by omega))
    refine ⟨R', hR', Ev.step (fun k => ?_) he⟩
    have wj : wrap64 ((j1 : Int) - (j0 : Int)) = ((j1 - j0 : Nat) : Int) := by rw [ws _ (by omega) (by omega)]; omega
    have hi' : ((i0 + (p + 1) : Nat) : Int) - 1 = ((i0 + p : Nat) : Int) := by omega
    have hj' : ((j0 + (j1 - j0) : Nat) : Int) = (j1 : Int) := by omega
    rw [slim_task_behind.l1, hi', if_pos (by omega), wj, if_pos (by omega), if_pos (by omega), q0, ws (dR (wO n f o) g (win X i0 i1) (win Y j0 j1) (p + 1) (j1 - j0) + g) (by omega) (by omega), c3, hj', ws ((j1 : Int) - 1) (by omega) (by omega), Int.toNat_natCast]
theorem behindW_l0 : ∀ (d x : Nat) (R : List Int), x + d = j1 - j0 + 1 → R.length = j1 - j0 + 1 → (∀ s, s < x → R.getD s 0 = dR (wO n f o) g (win X i0 i1) (win Y j0 j1) (i1 - i0) s) → ∃ R', RowB X Y g n f o i0 i1 j0 j1 R' ∧ Ev (fun k => slim_task_behind.l0 k (i0 : Int) (i1 : Int) (j0 : Int) (j1 : Int) R ((j1 - j0 + 1 : Nat) : Int) (x : Int) (gridP X Y n f o) g) R' := by
  have lX := win_len X i0 i1 hi hi1
  have lY := win_len Y j0 j1 hj hj1
  intro d
  induction d with
  | zero =>
    intro x R hd hl h1
    obtain ⟨R', hR', he⟩ := behindW_l1 X Y g n f o hg hn hf hX hY i0 i1 j0 j1 hi hi1 hj hj1 (i1 - i0) R (Nat.le_refl _) hl (fun s hs => h1 s (by omega))
    have hi' : ((i0 + (i1 - i0) : Nat) : Int) = (i1 : Int) := by omega
    rw [hi'] at he
    exact ⟨R', hR', Ev.step (fun k => by rw [slim_task_behind.l0, if_neg (by omega), ws ((i1 : Int) - 1) (by omega) (by omega)]) he⟩
  | succ d IH =>
    intro x R hd hl h1
    have c := dR_endl (wO n f o) g (win X i0 i1) (win Y j0 j1) x (by omega)
    rw [lX, lY] at c
    have r := dRv_range X Y g n f o hg hn hf hX hY i0 i1 j0 j1 hi hi1 hj hj1 (i1 - i0) x
    rw [c] at r
    obtain ⟨R', hR', he⟩ := IH (x + 1) (R.set x ((((j1 - j0 : Nat) : Int) - (x : Int)) * g)) (by omega) (by rw [List.length_set]; exact hl) (fun s hs => by
      by_cases e : s = x
      · rw [e, getD_set_same R x (by omega), c]
      · rw [getD_set_ne R x s (fun z => e z.symm)]; exact h1 s (by omega))
    refine ⟨R', hR', Ev.step (fun k => ?_) he⟩
    have wj : wrap64 ((j1 : Int) - (j0 : Int)) = ((j1 - j0 : Nat) : Int) := by rw [ws _ (by omega) (by omega)]; omega
    rw [slim_task_behind.l0, if_pos (by omega), if_pos (by omega), if_pos (by omega), Int.toNat_natCast, wj, ws (((j1 - j0 : Nat) : Int) - (x : Int)) (by omega) (by omega), ws _ (by omega) (by omega), wsucc x (by omega)]
theorem behindW_eq : ∃ R', RowB X Y g n f o i0 i1 j0 j1 R' ∧ Ev (fun k => slim_task_behind.f k (gridP X Y n f o) g (i0 : Int) (i1 : Int) (j0 : Int) (j1 : Int)) R' := by
  obtain ⟨R', hR', he⟩ := behindW_l0 X Y g n f o hg hn hf hX hY i0 i1 j0 j1 hi hi1 hj hj1 (j1 - j0 + 1) 0 (List.replicate (j1 - j0 + 1) 0) (by omega) (by simp) (fun s hs => by omega)
  refine ⟨R', hR', Ev.congr (fun k => ?_) he⟩
  have w0 : wrap64 (wrap64 ((j1 : Int) - (j0 : Int)) + 1) = ((j1 - j0 + 1 : Nat) : Int) := by rw [ws ((j1 : Int) - (j0 : Int)) (by omega) (by omega), ws _ (by omega) (by omega)]; omega
  unfold slim_task_behind.f
  rw [w0, if_pos (by omega), Int.toNat_natCast, if_pos (by omega), Option.bind_some, List.length_replicate]
  rfl
end
end Go.Proofs.YtbpinnanfanaaaaDoor.Pure
/-
  slim.Some answers an alignment, and it costs the least price.
-/
namespace Go.Proofs.YtbpinnanfanaaaaDoor.Pure
open Go.RowKit Go.Proofs.YtbpinnanfanaaaaDoor.L Go.Proofs.YtbpinnanfanaaaaDoorW.PrintWords Go.Proofs.YtbpinnanfanaaaaDoorW.PrintLast Go.Proofs.YtbpinnanfanaaaaDoorW.PrintMore
theorem some_l0 (j1 : Nat) (hj : j1 ≤ 4096) : ∀ (d x : Nat) (acc : List S59), x + d = j1 → acc.length + d ≤ 4096 → Ev (fun k => slim_task_some.l0 k acc (j1 : Int) (x : Int)) (acc ++ gapsL x d) := by
  intro d
  induction d with
  | zero =>
    intro x acc hd ha
    exact Ev.step (f := fun _ => some (acc ++ gapsL x 0)) (fun k => by rw [slim_task_some.l0, if_neg (by omega), gapsL, List.append_nil]) (Ev.now _)
  | succ d IH =>
    intro x acc hd ha
    have := IH (x + 1) (acc ++ [⟨-1, (x : Int)⟩]) (by omega) (by rw [List.length_append]; simp only [List.length_cons, List.length_nil]; omega)
    rw [List.append_assoc] at this
    exact Ev.step (fun k => by rw [slim_task_some.l0, if_pos (by omega), if_pos (by omega), wsucc x (by omega)]) this
def pickL (i : Nat) (b : Int) : Nat → Nat → List S59
  | _, 0 => []
  | x, d + 1 => (if (x : Int) = b then ⟨(i : Int), (x : Int)⟩ else ⟨-1, (x : Int)⟩) :: pickL i b (x + 1) d
theorem pickL_out (i : Nat) (b : Int) : ∀ (d x : Nat), (∀ y : Nat, x ≤ y → y < x + d → ¬ (y : Int) = b) → pickL i b x d = gapsL x d := by
  intro d
  induction d with
  | zero => intro x _; rfl
  | succ d ih => intro x h; rw [pickL, gapsL, if_neg (h x (Nat.le_refl _) (by omega)), ih (x + 1) (fun y h1 h2 => h y (by omega) (by omega))]
theorem pickL_right (i : Nat) (b : Nat) : ∀ (d x : Nat), x ≤ b → b < x + d → rightL ((i + 1 : Nat) : Int) ((x + d : Nat) : Int) (pickL i (b : Int) x d) (i : Int) (x : Int) = true := by
  intro d
  induction d with
  | zero => intro x h1 h2; omega
  | succ d ih =>
    intro x h1 h2
    by_cases e : x = b
    · subst e
      rw [pickL, if_pos rfl, rightL, if_pos ⟨rfl, rfl, by omega, by omega⟩, pickL_out i _ d (x + 1) (fun y a _ => by omega)]
      have := gapsL_right ((i + 1 : Nat) : Int) (by omega) d (x + 1)
      rw [show x + 1 + d = x + (d + 1) by omega] at this
      exact this
    · have e' : ¬ (x : Int) = (b : Int) := by omega
      rw [pickL, if_neg e', rightL, if_neg (by dsimp only; omega), if_neg (by dsimp only; omega), if_pos ⟨rfl, rfl, by omega⟩]
      have := ih (x + 1) (by omega) (by omega)
      rw [show x + 1 + d = x + (d + 1) by omega] at this
      exact this
theorem pickL_cost (T : List (List Int)) (g : Int) (i : Nat) (b : Nat) : ∀ (d x : Nat), x ≤ b → b < x + d → costL T g (pickL i (b : Int) x d) = ((d : Int) - 1) * g + at2 T i b := by
  intro d
  induction d with
  | zero => intro x h1 h2; omega
  | succ d ih =>
    intro x h1 h2
    rw [show (((d + 1 : Nat) : Int) - 1) = (d : Int) by omega]
    by_cases e : x = b
    · subst e
      rw [pickL, if_pos rfl, costL, pickL_out i _ d (x + 1) (fun y a _ => by omega), gapsL_cost]
      unfold costP
      rw [if_neg (by dsimp only; omega)]
      dsimp only
      rw [Int.toNat_natCast, Int.toNat_natCast]
      omega
    · have e' : ¬ (x : Int) = (b : Int) := by omega
      rw [pickL, if_neg e', costL, ih (x + 1) (by omega) (by omega)]
      unfold costP
      rw [if_pos (Or.inl (by dsimp only; omega)), Int.sub_mul, Int.one_mul]
      omega
theorem some_l2 (i : Nat) (b : Int) (j1 : Nat) (hj : j1 ≤ 4096) : ∀ (d x : Nat) (acc : List S59), x + d = j1 → acc.length + d ≤ 4096 → Ev (fun k => slim_task_some.l2 k acc (i : Int) (j1 : Int) b (x : Int)) (acc ++ pickL i b x d) := by
  intro d
  induction d with
  | zero =>
    intro x acc hd ha
    exact Ev.step (f := fun _ => some (acc ++ pickL i b x 0)) (fun k => by rw [slim_task_some.l2, if_neg (by omega), pickL, List.append_nil]) (Ev.now _)
  | succ d IH =>
    intro x acc hd ha
    rw [pickL]
    by_cases e : (x : Int) = b
    · have := IH (x + 1) (acc ++ [⟨(i : Int), (x : Int)⟩]) (by omega) (by rw [List.length_append]; simp only [List.length_cons, List.length_nil]; omega)
      rw [List.append_assoc] at this
      rw [if_pos e]
      exact Ev.step (fun k => by rw [slim_task_some.l2, if_pos (by omega), if_pos e, if_pos (by omega), wsucc x (by omega)]) this
    · have := IH (x + 1) (acc ++ [⟨-1, (x : Int)⟩]) (by omega) (by rw [List.length_append]; simp only [List.length_cons, List.length_nil]; omega)
      rw [List.append_assoc] at this
      rw [if_neg e]
      exact Ev.step (fun k => by rw [slim_task_some.l2, if_pos (by omega), if_neg e, if_pos (by omega), wsucc x (by omega)]) this
section
variable (X Y : List ByteArray) (g n f o : Int)
def SomeOk (i0 i1 j0 j1 : Nat) (L : List S59) : Prop := rightL (i1 : Int) (j1 : Int) L (i0 : Int) (j0 : Int) = true ∧ costL (gridP X Y n f o) g L = dL (wO n f o) g (win X i0 i1) (win Y j0 j1)
def BestOk (i j0 x : Nat) (b : Int) : Prop := (b = -1 ∧ ∀ y, j0 ≤ y → y < x → 2 * g ≤ at2 (gridP X Y n f o) i y) ∨ ∃ c : Nat, b = (c : Int) ∧ j0 ≤ c ∧ c < x ∧ at2 (gridP X Y n f o) i c < 2 * g ∧ ∀ y, j0 ≤ y → y < x → at2 (gridP X Y n f o) i c ≤ at2 (gridP X Y n f o) i y
theorem some_fin (hY : Y.length ≤ 1024) (i j0 j1 : Nat) (hi : i < X.length) (hj : j0 ≤ j1) (hj1 : j1 ≤ Y.length) (acc : List S59) (ha : acc.length + 1 + (j1 - j0) ≤ 4096) (b : Int) (hb : BestOk X Y g n f o i j0 j1 b) : ∃ L, SomeOk X Y g n f o i (i + 1) j0 j1 L ∧
    (b < 0 → Ev (fun k => slim_task_some.j2 k (acc ++ [⟨(i : Int), -1⟩]) (i : Int) (j0 : Int) (j1 : Int) b) (acc ++ L)) ∧ (¬ b < 0 → Ev (fun k => slim_task_some.j2 k acc (i : Int) (j0 : Int) (j1 : Int) b) (acc ++ L)) := by
  have lY := win_len Y j0 j1 hj hj1
  have h1 := dL_one (wO n f o) g X[i] (win Y j0 j1)
  rw [lY] at h1
  have eX := win_one X i hi
  have atw : ∀ c, j0 ≤ c → c < j1 → ∃ y ∈ win Y j0 j1, at2 (gridP X Y n f o) i c = wO n f o X[i] y := fun c a b => by
    have hc : c - j0 < (win Y j0 j1).length := by omega
    refine ⟨(win Y j0 j1)[c - j0], List.getElem_mem hc, ?_⟩
    have e := win_get Y j0 j1 (c - j0) hj1 (by omega) hc
    rw [grid_at X Y n f o i c hi (by omega), e]
    congr 2
    omega
  have wat : ∀ y ∈ win Y j0 j1, ∃ c, j0 ≤ c ∧ c < j1 ∧ at2 (gridP X Y n f o) i c = wO n f o X[i] y := fun y hy => by
    obtain ⟨q, hq, rfl⟩ := List.getElem_of_mem hy
    refine ⟨j0 + q, by omega, by omega, ?_⟩
    rw [grid_at X Y n f o i (j0 + q) hi (by omega), win_get Y j0 j1 q hj1 (by omega) hq]
  obtain ⟨u1, u2, u3⟩ := h1
  have U3 := Aside0.mk u3
  have UW := Aside0.mk wat
  have UA := Aside0.mk atw
  clear u3 wat atw
  rcases hb with ⟨rfl, hb⟩ | ⟨c, rfl, c1, c2, c3, c4⟩
  · refine ⟨⟨(i : Int), -1⟩ :: gapsL j0 (j1 - j0), ⟨?_, ?_⟩, fun _ => ?_, fun h => absurd (by omega) h⟩
    · rw [rightL, if_neg (by dsimp only; omega), if_pos ⟨rfl, rfl, by omega⟩]
      have := gapsL_right ((i + 1 : Nat) : Int) (by omega) (j1 - j0) j0
      rw [show j0 + (j1 - j0) = j1 by omega] at this
      exact this
    · rw [eX, costL, gapsL_cost]
      unfold costP
      rw [if_pos (Or.inr (by dsimp only; omega))]
      have e5 : (((j1 - j0 : Nat) : Int) + 1) * g = ((j1 - j0 : Nat) : Int) * g + g := by rw [Int.add_mul, Int.one_mul]
      have e6 : (((j1 - j0 : Nat) : Int) - 1) * g = ((j1 - j0 : Nat) : Int) * g - g := by rw [Int.sub_mul, Int.one_mul]
      have u3 := U3.out
      rw [e5] at u1 u3
      rw [e6] at u3
      rcases u3 with u3 | ⟨y, hy, u3⟩
      · omega
      · obtain ⟨c, c1, c2, c3⟩ := UW.out y hy
        have := hb c c1 c2
        omega
    · have := some_l2 i (-1) j1 (by omega) (j1 - j0) j0 (acc ++ [⟨(i : Int), -1⟩]) (by omega) (by rw [List.length_append]; simp only [List.length_cons, List.length_nil]; omega)
      rw [pickL_out i (-1) (j1 - j0) j0 (fun y _ _ => by omega), List.append_assoc] at this
      exact Ev.step (fun k => by rw [slim_task_some.j2]) this
  · refine ⟨pickL i (c : Int) j0 (j1 - j0), ⟨?_, ?_⟩, fun h => absurd h (by omega), fun _ => ?_⟩
    · have := pickL_right i c (j1 - j0) j0 c1 (by omega)
      rw [show j0 + (j1 - j0) = j1 by omega] at this
      exact this
    · rw [eX, pickL_cost _ g i c (j1 - j0) j0 c1 (by omega)]
      have e5 : (((j1 - j0 : Nat) : Int) + 1) * g = ((j1 - j0 : Nat) : Int) * g + g := by rw [Int.add_mul, Int.one_mul]
      have e6 : (((j1 - j0 : Nat) : Int) - 1) * g = ((j1 - j0 : Nat) : Int) * g - g := by rw [Int.sub_mul, Int.one_mul]
      have u3 := U3.out
      rw [e5] at u3
      rw [e6] at u2 u3 ⊢
      obtain ⟨y, hy, ey⟩ := UA.out c c1 c2
      have := u2 y hy
      rcases u3 with u3 | ⟨z, hz, u3⟩
      · omega
      · obtain ⟨d, d1, d2, d3⟩ := UW.out z hz
        have := c4 d d1 d2
        omega
    · have := some_l2 i (c : Int) j1 (by omega) (j1 - j0) j0 acc (by omega) (by omega)
      exact Ev.step (fun k => by rw [slim_task_some.j2]) this
theorem some_l1 (hg : 1 ≤ g ∧ g ≤ 1000) (hY : Y.length ≤ 1024) (i j0 j1 : Nat) (hi : i < X.length) (hj : j0 ≤ j1) (hj1 : j1 ≤ Y.length) (acc : List S59) (ha : acc.length + 1 + (j1 - j0) ≤ 4096) : ∀ (d x : Nat) (b : Int), x + d = j1 → j0 ≤ x → BestOk X Y g n f o i j0 x b → ∃ L, SomeOk X Y g n f o i (i + 1) j0 j1 L ∧ Ev (fun k => slim_task_some.l1 k acc (i : Int) (j0 : Int) (j1 : Int) b (x : Int) (gridP X Y n f o) g) (acc ++ L) := by
  have eG := grid_len X Y n f o
  have el : (rd_L11 (gridP X Y n f o) (i : Int)).length = Y.length := grid_rlen X Y n f o i hi
  intro d
  induction d with
  | zero =>
    intro x b hd hx hb
    obtain rfl : x = j1 := by omega
    obtain ⟨L, hL, h1, h2⟩ := some_fin X Y g n f o hY i j0 x hi hj hj1 acc ha b hb
    refine ⟨L, hL, ?_⟩
    by_cases c : b < 0
    · exact Ev.step (fun k => by rw [slim_task_some.l1, if_neg (by omega), if_pos c, if_pos (by omega)]) (h1 c)
    · exact Ev.step (fun k => by rw [slim_task_some.l1, if_neg (by omega), if_neg c]) (h2 c)
  | succ d IH =>
    intro x b hd hx hb
    have ev : Aside0 (rd (rd_L11 (gridP X Y n f o) (i : Int)) (x : Int) = at2 (gridP X Y n f o) i x) := ⟨rfl⟩
    have w0 : Aside0 (wrap64 (2 * g) = 2 * g) := ⟨ws _ (by omega) (by omega)⟩
    have wx := Aside0.mk (wsucc x (by omega))
    have go : ∀ b', BestOk X Y g n f o i j0 (x + 1) b' → (∀ k, slim_task_some.l1 (k + 1) acc (i : Int) (j0 : Int) (j1 : Int) b (x : Int) (gridP X Y n f o) g = slim_task_some.l1 k acc (i : Int) (j0 : Int) (j1 : Int) b' ((x + 1 : Nat) : Int) (gridP X Y n f o) g) → ∃ L, SomeOk X Y g n f o i (i + 1) j0 j1 L ∧ Ev (fun k => slim_task_some.l1 k acc (i : Int) (j0 : Int) (j1 : Int) b (x : Int) (gridP X Y n f o) g) (acc ++ L) := fun b' h1 h2 => by
      obtain ⟨L, hL, he⟩ := IH (x + 1) b' (by omega) (by omega) h1
      exact ⟨L, hL, Ev.step h2 he⟩
    by_cases c1 : at2 (gridP X Y n f o) i x < 2 * g
    · rcases hb with ⟨rfl, hb⟩ | ⟨c, rfl, k1, k2, k3, k4⟩
      · refine go (x : Int) (Or.inr ⟨x, rfl, hx, by omega, c1, fun y h1 h2 => ?_⟩) (fun k => by rw [slim_task_some.l1, if_pos (by omega), if_pos (by omega), if_pos (by omega), if_pos (by omega), if_pos (by omega), ev.out, w0.out, if_pos c1, if_pos (by omega), wx.out])
        by_cases e : y = x
        · rw [e]; omega
        · have := hb y h1 (by omega); omega
      · have ec : Aside0 (rd (rd_L11 (gridP X Y n f o) (i : Int)) (c : Int) = at2 (gridP X Y n f o) i c) := ⟨rfl⟩
        by_cases c2 : at2 (gridP X Y n f o) i x < at2 (gridP X Y n f o) i c
        · refine go (x : Int) (Or.inr ⟨x, rfl, hx, by omega, c1, fun y h1 h2 => ?_⟩) (fun k => by rw [slim_task_some.l1, if_pos (by omega), if_pos (by omega), if_pos (by omega), if_pos (by omega), if_pos (by omega), ev.out, ec.out, w0.out, if_pos c1, if_neg (by omega), if_pos (by omega), if_pos (by omega), if_pos c2, wx.out])
          by_cases e : y = x
          · rw [e]; omega
          · have := k4 y h1 (by omega); omega
        · refine go (c : Int) (Or.inr ⟨c, rfl, k1, by omega, k3, fun y h1 h2 => ?_⟩) (fun k => by rw [slim_task_some.l1, if_pos (by omega), if_pos (by omega), if_pos (by omega), if_pos (by omega), if_pos (by omega), ev.out, ec.out, w0.out, if_pos c1, if_neg (by omega), if_pos (by omega), if_pos (by omega), if_neg c2, wx.out])
          by_cases e : y = x
          · rw [e]; omega
          · exact k4 y h1 (by omega)
    · refine go b ?_ (fun k => by rw [slim_task_some.l1, if_pos (by omega), if_pos (by omega), if_pos (by omega), if_pos (by omega), if_pos (by omega), ev.out, w0.out, if_neg c1, wx.out])
      rcases hb with ⟨rfl, hb⟩ | ⟨c, rfl, k1, k2, k3, k4⟩
      · refine Or.inl ⟨rfl, fun y h1 h2 => ?_⟩
        by_cases e : y = x
        · rw [e]; omega
        · exact hb y h1 (by omega)
      · refine Or.inr ⟨c, rfl, k1, by omega, k3, fun y h1 h2 => ?_⟩
        by_cases e : y = x
        · rw [e]; omega
        · exact k4 y h1 (by omega)
theorem some_l3 (hY : Y.length ≤ 1024) (i0 i1 j0 j1 mid : Nat) (acc : List S59) (RX RY : List Int) (hj : j0 ≤ j1) (hj1 : j1 ≤ Y.length) (lx : RX.length = j1 - j0 + 1) (ly : RY.length = j1 - j0 + 1) (rx : ∀ s, s ≤ j1 - j0 → 0 ≤ RX.getD s 0 ∧ RX.getD s 0 ≤ 2048000) (ry : ∀ s, s ≤ j1 - j0 → 0 ≤ RY.getD s 0 ∧ RY.getD s 0 ≤ 2048000)
    (Z : List S59 → Prop) (cont : ∀ c : Nat, c ≤ j1 - j0 → (∀ s, s ≤ j1 - j0 → RX.getD c 0 + RY.getD c 0 ≤ RX.getD s 0 + RY.getD s 0) → ∃ R, Z R ∧ Ev (fun k => (slim_task_some.f k (gridP X Y n f o) g acc (i0 : Int) (mid : Int) (j0 : Int) ((j0 + c : Nat) : Int)).bind fun t => (slim_task_some.f k (gridP X Y n f o) g t (mid : Int) (i1 : Int) ((j0 + c : Nat) : Int) (j1 : Int)).bind fun u => some u) R) :
    ∀ (d x c : Nat), x + d = j1 - j0 + 1 → c ≤ j1 - j0 → (∀ s, s < x → RX.getD c 0 + RY.getD c 0 ≤ RX.getD s 0 + RY.getD s 0) → ∃ R, Z R ∧ Ev (fun k => slim_task_some.l3 k acc (i0 : Int) (i1 : Int) (j0 : Int) (j1 : Int) (mid : Int) RX RY (c : Int) ((j1 - j0 + 1 : Nat) : Int) (x : Int) (gridP X Y n f o) g) R := by
  intro d
  induction d with
  | zero =>
    intro x c hd hc hm
    obtain ⟨R, hR, he⟩ := cont c hc (fun s hs => hm s (by omega))
    have wc : Aside0 (wrap64 ((j0 : Int) + (c : Int)) = ((j0 + c : Nat) : Int)) := ⟨by rw [ws _ (by omega) (by omega)]; omega⟩
    exact ⟨R, hR, Ev.step (fun k => by rw [slim_task_some.l3, if_neg (by omega), wc.out]) he⟩
  | succ d IH =>
    intro x c hd hc hm
    have a1 := rx x (by omega)
    have a2 := ry x (by omega)
    have a3 := rx c hc
    have a4 := ry c hc
    have wx := Aside0.mk (wsucc x (by omega))
    have e1 : Aside0 (wrap64 ((rd RX (x : Int)) + (rd RY (x : Int))) = RX.getD x 0 + RY.getD x 0) := ⟨by rw [rdS, rdS]; exact ws _ (by omega) (by omega)⟩
    have e2 : Aside0 (wrap64 ((rd RX (c : Int)) + (rd RY (c : Int))) = RX.getD c 0 + RY.getD c 0) := ⟨by rw [rdS, rdS]; exact ws _ (by omega) (by omega)⟩
    by_cases h : RX.getD x 0 + RY.getD x 0 < RX.getD c 0 + RY.getD c 0
    · obtain ⟨R, hR, he⟩ := IH (x + 1) x (by omega) (by omega) (fun s hs => by
        by_cases e : s = x
        · rw [e]; omega
        · have := hm s (by omega); omega)
      exact ⟨R, hR, Ev.step (fun k => by rw [slim_task_some.l3, if_pos (by omega), if_pos (by omega), if_pos (by omega), if_pos (by omega), if_pos (by omega), if_pos (by omega), if_pos (by omega), e1.out, e2.out, if_pos h, wx.out]) he⟩
    · obtain ⟨R, hR, he⟩ := IH (x + 1) c (by omega) hc (fun s hs => by
        by_cases e : s = x
        · rw [e]; omega
        · exact hm s (by omega))
      exact ⟨R, hR, Ev.step (fun k => by rw [slim_task_some.l3, if_pos (by omega), if_pos (by omega), if_pos (by omega), if_pos (by omega), if_pos (by omega), if_pos (by omega), if_pos (by omega), e1.out, e2.out, if_neg h, wx.out]) he⟩
theorem some_ok (hg : 1 ≤ g ∧ g ≤ 1000) (hn : 1 ≤ n ∧ n ≤ 1000) (hf : 1 ≤ f ∧ f ≤ 1000) (hX : X.length ≤ 1024) (hY : Y.length ≤ 1024) : ∀ (d i0 i1 j0 j1 : Nat) (acc : List S59), i1 - i0 ≤ d → i0 ≤ i1 → i1 ≤ X.length → j0 ≤ j1 → j1 ≤ Y.length → acc.length + (i1 - i0) + (j1 - j0) ≤ 4096 → ∃ L, SomeOk X Y g n f o i0 i1 j0 j1 L ∧ Ev (fun k => slim_task_some.f k (gridP X Y n f o) g acc (i0 : Int) (i1 : Int) (j0 : Int) (j1 : Int)) (acc ++ L) := by
  intro d
  induction d with
  | zero =>
    intro i0 i1 j0 j1 acc hd hi hi1 hj hj1 ha
    obtain rfl : i1 = i0 := by omega
    refine ⟨gapsL j0 (j1 - j0), ⟨?_, ?_⟩, ?_⟩
    · have := gapsL_right (i1 : Int) (by omega) (j1 - j0) j0
      rw [show j0 + (j1 - j0) = j1 by omega] at this
      exact this
    · rw [gapsL_cost, win_self, dL_nil, win_len Y j0 j1 hj hj1]
    · exact Ev.step (fun k => by rw [slim_task_some.f, if_pos rfl]) (some_l0 j1 (by omega) (j1 - j0) j0 acc (by omega) (by omega))
  | succ d IH =>
    intro i0 i1 j0 j1 acc hd hi hi1 hj hj1 ha
    by_cases h0 : i0 = i1
    · exact IH i0 i1 j0 j1 acc (by omega) hi hi1 hj hj1 ha
    · have w1 : Aside0 (wrap64 ((i1 : Int) - (i0 : Int)) = (i1 : Int) - (i0 : Int)) := ⟨ws _ (by omega) (by omega)⟩
      by_cases h1 : i1 = i0 + 1
      · subst h1
        obtain ⟨L, hL, he⟩ := some_l1 X Y g n f o hg hY i0 j0 j1 (by omega) hj hj1 acc (by omega) (j1 - j0) j0 (-1) (by omega) (Nat.le_refl _) (Or.inl ⟨rfl, fun y a b => by omega⟩)
        exact ⟨L, hL, Ev.step (fun k => by rw [slim_task_some.f, if_neg (by omega), w1.out, if_pos (by omega)]) he⟩
      · obtain ⟨mid, hmid⟩ : ∃ m, m = (i0 + i1) / 2 := ⟨_, rfl⟩
        have m1 : i0 < mid := by omega
        have m2 : mid < i1 := by omega
        have wm : Aside0 (wrap64 (Int.tdiv (wrap64 ((i0 : Int) + (i1 : Int))) 2) = (mid : Int)) := ⟨by
          rw [ws ((i0 : Int) + (i1 : Int)) (by omega) (by omega), show (i0 : Int) + (i1 : Int) = ((i0 + i1 : Nat) : Int) by omega, show (2 : Int) = ((2 : Nat) : Int) from rfl, ← Int.ofNat_tdiv, ← hmid]
          exact ws _ (by omega) (by omega)⟩
        obtain ⟨RX, hRX, heX⟩ := aheadW_eq X Y g n f o hg hn hf hX hY i0 mid j0 j1 (by omega) (by omega) hj hj1
        obtain ⟨RY, hRY, heY⟩ := behindW_eq X Y g n f o hg hn hf hX hY mid i1 j0 j1 (by omega) hi1 hj hj1
        have hw : ∀ x y, 0 ≤ wO n f o x y := fun x y => (wO_range n f o hn.1 hf x y).1
        have lY := win_len Y j0 j1 hj hj1
        have rng : ∀ (a b : Nat) (Q : List ByteArray), a ≤ b → b ≤ X.length → Q.length ≤ 1024 → 0 ≤ dL (wO n f o) g (win X a b) Q ∧ dL (wO n f o) g (win X a b) Q ≤ 2048000 := fun a b Q h1 h2 h3 => by
          have := dR_range (wO n f o) g (by omega) hw (win X a b) Q (by rw [win_len X a b h1 h2]; omega) h3 0 0
          unfold dR at this
          rwa [List.drop_zero, List.drop_zero] at this
        obtain ⟨R, ⟨L, rfl, hL⟩, he⟩ := some_l3 X Y g n f o hY i0 i1 j0 j1 mid acc RX RY hj hj1 hRX.1 hRY.1
          (fun s hs => by rw [hRX.2 s hs]; exact rng i0 mid _ (by omega) (by omega) (by rw [List.length_take]; omega))
          (fun s hs => by rw [hRY.2 s hs]; exact rng mid i1 _ (by omega) hi1 (by rw [List.length_drop]; omega))
          (fun R => ∃ L, R = acc ++ L ∧ SomeOk X Y g n f o i0 i1 j0 j1 L)
          (fun c hc hm => by
            obtain ⟨L1, hL1, he1⟩ := IH i0 mid j0 (j0 + c) acc (by omega) (by omega) (by omega) (by omega) (by omega) (by omega)
            have n1 := (rightL_in mid (j0 + c) L1 i0 j0 (by omega) (by omega) hL1.1).1
            obtain ⟨L2, hL2, he2⟩ := IH mid i1 (j0 + c) j1 (acc ++ L1) (by omega) (by omega) hi1 (by omega) hj1 (by rw [List.length_append]; omega)
            refine ⟨acc ++ L1 ++ L2, ⟨L1 ++ L2, by rw [List.append_assoc], ?_, ?_⟩, ev_bind he1 (ev_bind he2 (Ev.now _))⟩
            · exact rightL_append (mid : Int) ((j0 + c : Nat) : Int) (i1 : Int) (j1 : Int) (by omega) (by omega) L2 hL2.1 L1 (i0 : Int) (j0 : Int) (by omega) (by omega) hL1.1
            · rw [costL_append, hL1.2, hL2.2, ← win_take Y j0 j1 c hc, ← win_drop Y j0 j1 c hc, ← win_cut X i0 mid i1 (by omega) (by omega)]
              refine dL_halves (wO n f o) g (win X i0 mid) (win X mid i1) (win Y j0 j1) c (by omega) (fun s hs => ?_)
              have := hm s (by omega)
              rw [hRX.2 c hc, hRY.2 c hc, hRX.2 s (by omega), hRY.2 s (by omega)] at this
              exact this)
          (j1 - j0 + 1) 0 0 (by omega) (Nat.zero_le _) (fun s hs => by omega)
        refine ⟨L, hL, Ev.step (f := fun k => (slim_task_ahead.f k (gridP X Y n f o) g (i0 : Int) (mid : Int) (j0 : Int) (j1 : Int)).bind fun t => (slim_task_behind.f k (gridP X Y n f o) g (mid : Int) (i1 : Int) (j0 : Int) (j1 : Int)).bind fun u => slim_task_some.l3 k acc (i0 : Int) (i1 : Int) (j0 : Int) (j1 : Int) (mid : Int) t u 0 (t.length : Int) 0 (gridP X Y n f o) g) (fun k => by rw [slim_task_some.f, if_neg (by omega), w1.out, if_neg (by omega), wm.out]) (ev_bind heX (ev_bind heY ?_))⟩
        rw [hRX.1]
        exact he
end
theorem some_eq (X Y : List ByteArray) (hX : smallL X) (hY : smallL Y) (g n f o : Int) : ∃ L, Ev (fun k => slim_Some.f k X Y g n f o) (L, (gridR X Y g n f o).2) ∧ ((gridR X Y g n f o).2 = 0 → rightL X.length Y.length L 0 0 = true ∧ costL (gridP X Y n f o) g L = dL (wO n f o) g X Y) ∧ (¬ (gridR X Y g n f o).2 = 0 → L = []) := by
  by_cases h : (gridR X Y g n f o).2 = 0
  · obtain ⟨e, hs, l1, l2⟩ := gridR_ok h
    unfold scaleOk at hs
    obtain ⟨L, hL, he⟩ := some_ok X Y g n f o hs.1 hs.2.1 hs.2.2.1 l1 l2 X.length 0 X.length 0 Y.length [] (by omega) (Nat.zero_le _) (Nat.le_refl _) (Nat.zero_le _) (Nat.le_refl _) (by simp; omega)
    rw [List.nil_append] at he
    obtain ⟨h1, h2⟩ := hL
    rw [win_all, win_all] at h2
    refine ⟨L, ?_, fun _ => ⟨h1, h2⟩, fun k => absurd h k⟩
    rw [h]
    refine ev_bind (f := fun k t => if t.2 = 0 then ((slim_task_some.f k t.1 g [] 0 (X.length : Int) 0 (Y.length : Int)).bind fun u => some (u, 0)) else some ([], t.2)) (grid_eq X Y hX hY g n f o) ?_
    rw [e]
    exact Ev.congr (fun k => by rw [if_pos rfl]; rfl) (ev_bind (f := fun _ u => some (u, 0)) he (Ev.now _))
  · refine ⟨[], ?_, fun k => absurd k h, fun _ => rfl⟩
    refine ev_bind (f := fun k t => if t.2 = 0 then ((slim_task_some.f k t.1 g [] 0 (X.length : Int) 0 (Y.length : Int)).bind fun u => some (u, 0)) else some ([], t.2)) (grid_eq X Y hX hY g n f o) ?_
    exact Ev.congr (f := fun _ => some ([], (gridR X Y g n f o).2)) (fun k => by rw [if_neg h]) (Ev.now _)
end Go.Proofs.YtbpinnanfanaaaaDoor.Pure
/-
  The document's answers about two lists of words, in plain numbers: the grid, the least prices, the alignment, the price.
-/
namespace Go.Proofs.YtbpinnanfanaaaaDoor.Pure
open Go.RowKit Go.Proofs.YtbpinnanfanaaaaDoor.L Go.Proofs.YtbpinnanfanaaaaDoorW.PrintWords Go.Proofs.YtbpinnanfanaaaaDoorW.PrintLast Go.Proofs.YtbpinnanfanaaaaDoorW.PrintMore
/-! least prices -/
structure okD (X Y : List ByteArray) (g n f o : Int) (T : List (List Int)) (i j0 : Nat) : Prop where
  len : T.length = X.length + 1
  lens : ∀ p, i ≤ p → p ≤ X.length → (T.getD p []).length = Y.length + 1
  here : ∀ p q, p ≤ X.length → q ≤ Y.length → (i < p ∨ (i = p ∧ j0 ≤ q)) → at2 T p q = dR (wO n f o) g X Y p q
def tabD (X Y : List ByteArray) (g n f o : Int) : List (List Int) := (List.range (X.length + 1)).map fun p => (List.range (Y.length + 1)).map fun q => dR (wO n f o) g X Y p q
theorem tabD_row (X Y : List ByteArray) (g n f o : Int) (p : Nat) (hp : p ≤ X.length) : (tabD X Y g n f o).getD p [] = (List.range (Y.length + 1)).map fun q => dR (wO n f o) g X Y p q := by
  unfold tabD
  rw [getD_get _ _ (by rw [List.length_map, List.length_range]; omega), List.getElem_map, List.getElem_range]
theorem tabD_ok (X Y : List ByteArray) (g n f o : Int) : (tabD X Y g n f o).length = X.length + 1 ∧ (∀ p, p ≤ X.length → ((tabD X Y g n f o).getD p []).length = Y.length + 1) ∧ ∀ p q, p ≤ X.length → q ≤ Y.length → at2 (tabD X Y g n f o) p q = dR (wO n f o) g X Y p q := by
  refine ⟨by unfold tabD; rw [List.length_map, List.length_range], fun p hp => by rw [tabD_row _ _ _ _ _ _ _ hp, List.length_map, List.length_range], fun p q hp hq => ?_⟩
  unfold at2
  rw [tabD_row _ _ _ _ _ _ _ hp, getD_get _ _ (by rw [List.length_map, List.length_range]; omega), List.getElem_map, List.getElem_range]
theorem tabD_of (X Y : List ByteArray) (g n f o : Int) (T : List (List Int)) (h1 : T.length = X.length + 1) (h2 : ∀ p, p ≤ X.length → (T.getD p []).length = Y.length + 1) (h3 : ∀ p q, p ≤ X.length → q ≤ Y.length → at2 T p q = dR (wO n f o) g X Y p q) : T = tabD X Y g n f o := by
  obtain ⟨a, b, c⟩ := tabD_ok X Y g n f o
  refine List.ext_getElem (by omega) fun p p1 p2 => ?_
  rw [← getD_get T p p1 [], ← getD_get _ p p2 []]
  refine List.ext_getElem (by rw [h2 p (by omega), b p (by omega)]) fun q q1 q2 => ?_
  have e1 := h3 p q (by omega) (by have := h2 p (by omega); omega)
  have e2 := c p q (by omega) (by have := h2 p (by omega); omega)
  unfold at2 at e1 e2
  rw [getD_get _ _ q1] at e1
  rw [getD_get _ _ q2] at e2
  rw [e1, e2]
section
variable (X Y : List ByteArray) (g n f o : Int) (hg : 1 ≤ g ∧ g ≤ 1000) (hn : 1 ≤ n ∧ n ≤ 1000) (hf : 1 ≤ f ∧ f ≤ 1000) (hX : X.length ≤ 1024) (hY : Y.length ≤ 1024)
include hX hY hg hn hf
theorem rests_l1 (i : Nat) (hi : i ≤ X.length) (R : List (List Int)) (ih : ∀ T, okD X Y g n f o T i 0 → Ev (fun k => siglumref10_Rests.l0 k (gridP X Y n f o) (X.length : Int) (Y.length : Int) g T (wrap64 ((i : Int) - 1))) R) :
    ∀ (J : Nat) (T : List (List Int)) (x : Int), J ≤ Y.length + 1 → x = (J : Int) - 1 → okD X Y g n f o T i J →
    Ev (fun k => siglumref10_Rests.l1 k (gridP X Y n f o) (X.length : Int) (Y.length : Int) g T (i : Int) x) R := by
  intro J
  induction J with
  | zero =>
    intro T x hJ hx hT
    exact Ev.step (fun k => by rw [siglumref10_Rests.l1, if_neg (by omega)]) (ih T hT)
  | succ j IH =>
    intro T x hJ hx hT
    obtain rfl : x = (j : Int) := by omega
    have hgw : ∀ x y, 0 ≤ wO n f o x y := fun x y => (wO_range n f o hn.1 hf x y).1
    have rij := dR_range (wO n f o) g ⟨by omega, hg.2⟩ hgw X Y hX hY i j
    have eT := hT.len
    have eL : (rd_L11 T (i : Int)).length = Y.length + 1 := hT.lens i (Nat.le_refl _) hi
    have fin : Ev (fun k => siglumref10_Rests.l1 k (gridP X Y n f o) (X.length : Int) (Y.length : Int) g (setT T i j (dR (wO n f o) g X Y i j)) (i : Int) (wrap64 ((j : Int) - 1))) R := by
      have u := upd_set T i j (dR (wO n f o) g X Y i j) (by omega) (by have := hT.lens i (Nat.le_refl _) hi; omega)
      refine IH _ _ (by omega) (ws _ (by omega) (by omega)) ⟨u.len.trans hT.len, fun p h1 h2 => (u.lens p).trans (hT.lens p h1 h2), fun p q hp hq h => ?_⟩
      by_cases e : p = i ∧ q = j
      · obtain ⟨rfl, rfl⟩ := e
        exact u.here
      · rw [u.else_ _ _ e]
        exact hT.here p q hp hq (by omega)
    have s1 : ∀ v, T.set i ((rd_L11 T (i : Int)).set j v) = setT T i j v := fun v => rfl
    by_cases hin : i = X.length
    · have he := dR_endl (wO n f o) g X Y j (by omega)
      rw [← hin] at he
      refine Ev.step (fun k => ?_) fin
      rw [siglumref10_Rests.l1, if_pos (by omega), if_pos (by omega), if_pos (by omega), if_pos (by omega), if_pos (by omega), if_pos (by omega), ws ((Y.length : Int) - (j : Int)) (by omega) (by omega), ← he, ws _ (by omega) (by omega)]
      simp only [Int.toNat_natCast]
      rw [s1]
    · by_cases hjm : j = Y.length
      · have he := dR_endr (wO n f o) g X Y i (by omega)
        rw [← hjm] at he
        refine Ev.step (fun k => ?_) fin
        rw [siglumref10_Rests.l1, if_pos (by omega), if_neg (by omega), if_pos (by omega), if_pos (by omega), if_pos (by omega), if_pos (by omega), if_pos (by omega), ws ((X.length : Int) - (i : Int)) (by omega) (by omega), ← he, ws _ (by omega) (by omega)]
        simp only [Int.toNat_natCast]
        rw [s1]
      · have hi' : i < X.length := by omega
        have hj' : j < Y.length := by omega
        have r11 := dR_range (wO n f o) g ⟨by omega, hg.2⟩ hgw X Y hX hY (i + 1) (j + 1)
        have r10 := dR_range (wO n f o) g ⟨by omega, hg.2⟩ hgw X Y hX hY (i + 1) j
        have r01 := dR_range (wO n f o) g ⟨by omega, hg.2⟩ hgw X Y hX hY i (j + 1)
        have rw_ := wO_range n f o hn.1 hf X[i] Y[j]
        have hD := dR_step (wO n f o) g X Y i j hi' hj'
        have e1 : rd (rd_L11 T ((i + 1 : Nat) : Int)) ((j + 1 : Nat) : Int) = dR (wO n f o) g X Y (i + 1) (j + 1) := hT.here (i + 1) (j + 1) (by omega) (by omega) (by omega)
        have e2 : rd (rd_L11 (gridP X Y n f o) (i : Int)) (j : Int) = wO n f o X[i] Y[j] := grid_at X Y n f o i j hi' hj'
        have e2l : (rd_L11 (gridP X Y n f o) (i : Int)).length = Y.length := grid_rlen X Y n f o i hi'
        have e3 : rd (rd_L11 T ((i + 1 : Nat) : Int)) (j : Int) = dR (wO n f o) g X Y (i + 1) j := hT.here (i + 1) j (by omega) (by omega) (by omega)
        have e4 : rd (rd_L11 T (i : Int)) ((j + 1 : Nat) : Int) = dR (wO n f o) g X Y i (j + 1) := hT.here i (j + 1) (by omega) (by omega) (by omega)
        have eL1 : (rd_L11 T ((i + 1 : Nat) : Int)).length = Y.length + 1 := hT.lens (i + 1) (by omega) (by omega)
        have eG := grid_len X Y n f o
        refine Ev.step (fun k => ?_) fin
        rw [siglumref10_Rests.l1, if_pos (by omega), if_neg (by omega), if_neg (by omega), wsucc i (by omega), wsucc j (by omega), if_pos (by omega), if_pos (by omega), if_pos (by omega), if_pos (by omega), if_pos (by omega), if_pos (by omega), if_pos (by omega), if_pos (by omega), if_pos (by omega), if_pos (by omega), if_pos (by omega), if_pos (by omega), e1, e2, e3, e4]
        generalize dR (wO n f o) g X Y (i + 1) (j + 1) = D11 at r11 hD
        generalize dR (wO n f o) g X Y (i + 1) j = D10 at r10 hD
        generalize dR (wO n f o) g X Y i (j + 1) = D01 at r01 hD
        generalize wO n f o X[i] Y[j] = W at rw_ hD
        rw [ws (D11 + W) (by omega) (by omega), ws (D10 + g) (by omega) (by omega), ws (D01 + g) (by omega) (by omega), mn_eq, mn_eq, ← hD]
        simp only [Int.toNat_natCast]
        rw [s1]
theorem rests_l0 : ∀ (I : Nat) (T : List (List Int)) (x : Int), I ≤ X.length + 1 → x = (I : Int) - 1 → T.length = X.length + 1 → (∀ p, I ≤ p → p ≤ X.length → (T.getD p []).length = Y.length + 1) → (∀ p q, I ≤ p → p ≤ X.length → q ≤ Y.length → at2 T p q = dR (wO n f o) g X Y p q) →
    Ev (fun k => siglumref10_Rests.l0 k (gridP X Y n f o) (X.length : Int) (Y.length : Int) g T x) (tabD X Y g n f o) := by
  intro I
  induction I with
  | zero =>
    intro T x hI hx h1 h2 h3
    rw [← tabD_of X Y g n f o T h1 (fun p hp => h2 p (Nat.zero_le _) hp) (fun p q hp hq => h3 p q (Nat.zero_le _) hp hq)]
    exact Ev.step (f := fun _ => some T) (fun k => by rw [siglumref10_Rests.l0, if_neg (by omega)]) (Ev.now _)
  | succ i IH =>
    intro T x hI hx h1 h2 h3
    obtain rfl : x = (i : Int) := by omega
    refine Ev.step (f := fun k => siglumref10_Rests.l1 k (gridP X Y n f o) (X.length : Int) (Y.length : Int) g (T.set i (List.replicate (Y.length + 1) 0)) (i : Int) (Y.length : Int)) (fun k => by
      rw [siglumref10_Rests.l0, if_pos (by omega), wsucc Y.length (by omega), if_pos (by omega), if_pos (by omega), if_pos (by omega), if_pos (by omega), Int.toNat_natCast, Int.toNat_natCast]) ?_
    refine rests_l1 X Y g n f o hg hn hf hX hY i (by omega) _ (fun T' h => IH T' _ (by omega) (ws _ (by omega) (by omega)) h.len (fun p a b => h.lens p a b) (fun p q a b c => h.here p q b c (by omega))) (Y.length + 1) _ _ (Nat.le_refl _) (by omega) ⟨by rw [List.length_set]; exact h1, fun p a b => ?_, fun p q a b c => ?_⟩
    · by_cases e : i = p
      · subst e; rw [getD_set_same _ _ (by omega), List.length_replicate]
      · rw [getD_set_ne _ _ _ e]; exact h2 p (by omega) b
    · unfold at2
      rw [getD_set_ne _ _ _ (by omega)]
      exact h3 p q (by omega) a b
theorem rests_eq : Ev (fun k => siglumref10_Rests.f k (gridP X Y n f o) (X.length : Int) (Y.length : Int) g) (tabD X Y g n f o) := by
  refine Ev.congr (f := fun k => siglumref10_Rests.l0 k (gridP X Y n f o) (X.length : Int) (Y.length : Int) g (List.replicate (X.length + 1) []) (X.length : Int)) (fun k => by
    unfold siglumref10_Rests.f
    rw [wsucc X.length (by omega), if_pos (by omega), if_pos (by omega), Int.toNat_natCast]) ?_
  exact rests_l0 X Y g n f o hg hn hf hX hY (X.length + 1) _ _ (Nat.le_refl _) (by omega) (by rw [List.length_replicate]) (fun p a b => by omega) (fun p q a b c => by omega)
theorem walk_loop : ∀ (d i j : Nat) (acc : List S59), (X.length - i) + (Y.length - j) ≤ d → i ≤ X.length → j ≤ Y.length → acc.length + (X.length - i) + (Y.length - j) ≤ 2048 →
    Ev (fun k => siglumref10_Walk.l0 k (gridP X Y n f o) (X.length : Int) (Y.length : Int) g (tabD X Y g n f o) acc (i : Int) (j : Int)) (acc ++ pL (wO n f o) g (X.drop i) (Y.drop j) i j, dL (wO n f o) g X Y) := by
  have hT := tabD_ok X Y g n f o
  have e00 : rd (rd_L11 (tabD X Y g n f o) 0) 0 = dL (wO n f o) g X Y := by
    have := hT.2.2 0 0 (Nat.zero_le _) (Nat.zero_le _)
    unfold dR at this
    exact this
  have hl0 : (rd_L11 (tabD X Y g n f o) 0).length = Y.length + 1 := hT.2.1 0 (Nat.zero_le _)
  have eT := hT.1
  have eG := grid_len X Y n f o
  have hgw : ∀ x y, 0 ≤ wO n f o x y := fun x y => (wO_range n f o hn.1 hf x y).1
  intro d
  induction d with
  | zero =>
    intro i j acc hd hi hj ha
    refine Ev.step (f := fun k => siglumref10_Walk.j1 k (gridP X Y n f o) (X.length : Int) (Y.length : Int) g (tabD X Y g n f o) acc (i : Int) (j : Int) false) (fun k => by
      rw [siglumref10_Walk.l0, if_neg (by omega), decide_eq_false (by omega)]) ?_
    exact Ev.step (f := fun _ => some (acc ++ pL (wO n f o) g (X.drop i) (Y.drop j) i j, dL (wO n f o) g X Y)) (fun k => by
      rw [siglumref10_Walk.j1, if_neg (by decide), if_pos (by omega), if_pos (by omega), e00, pL_done _ _ _ _ _ _ (by omega) (by omega), List.append_nil]) (Ev.now _)
  | succ d IH =>
    intro i j acc hd hi hj ha
    by_cases hend : i = X.length ∧ j = Y.length
    · refine Ev.step (f := fun k => siglumref10_Walk.j1 k (gridP X Y n f o) (X.length : Int) (Y.length : Int) g (tabD X Y g n f o) acc (i : Int) (j : Int) false) (fun k => by
        rw [siglumref10_Walk.l0, if_neg (by omega), decide_eq_false (by omega)]) ?_
      exact Ev.step (f := fun _ => some (acc ++ pL (wO n f o) g (X.drop i) (Y.drop j) i j, dL (wO n f o) g X Y)) (fun k => by
        rw [siglumref10_Walk.j1, if_neg (by decide), if_pos (by omega), if_pos (by omega), e00, pL_done _ _ _ _ _ _ (by omega) (by omega), List.append_nil]) (Ev.now _)
    · have hij : i < X.length ∨ j < Y.length := by omega
      refine Ev.step (f := fun k => siglumref10_Walk.j1 k (gridP X Y n f o) (X.length : Int) (Y.length : Int) g (tabD X Y g n f o) acc (i : Int) (j : Int) true) (fun k => by
        rw [siglumref10_Walk.l0]
        by_cases h1 : (i : Int) < (X.length : Int)
        · rw [if_pos h1]
        · rw [if_neg h1, decide_eq_true (by omega)]) ?_
      have el : (rd_L11 (tabD X Y g n f o) (i : Int)).length = Y.length + 1 := hT.2.1 i hi
      have ev : rd (rd_L11 (tabD X Y g n f o) (i : Int)) (j : Int) = dR (wO n f o) g X Y i j := hT.2.2 i j hi hj
      have rij := dR_range (wO n f o) g ⟨by omega, hg.2⟩ hgw X Y hX hY i j
      have second : ¬ codeP (wO n f o) g X Y i j = 1 → Ev (fun k => siglumref10_Walk.j2 k (gridP X Y n f o) (X.length : Int) (Y.length : Int) g (tabD X Y g n f o) acc (i : Int) (j : Int) false) (acc ++ pL (wO n f o) g (X.drop i) (Y.drop j) i j, dL (wO n f o) g X Y) := by
        intro c1
        by_cases c2 : codeP (wO n f o) g X Y i j = 2
        · obtain ⟨e3, h1⟩ := pL_first (wO n f o) g X Y i j c2 i j
          have el1 : (rd_L11 (tabD X Y g n f o) ((i + 1 : Nat) : Int)).length = Y.length + 1 := hT.2.1 (i + 1) (by omega)
          have ev1 : rd (rd_L11 (tabD X Y g n f o) ((i + 1 : Nat) : Int)) (j : Int) = dR (wO n f o) g X Y (i + 1) j := hT.2.2 (i + 1) j (by omega) hj
          have r1 := dR_range (wO n f o) g ⟨by omega, hg.2⟩ hgw X Y hX hY (i + 1) j
          have eq : dR (wO n f o) g X Y i j = dR (wO n f o) g X Y (i + 1) j + g := by
            by_cases hj' : j < Y.length
            · rw [codeP_in _ _ _ _ _ _ h1 hj'] at c2
              by_cases a : dR (wO n f o) g X Y i j = dR (wO n f o) g X Y (i + 1) (j + 1) + wO n f o X[i] Y[j]
              · rw [if_pos a] at c2; omega
              · rw [if_neg a] at c2
                by_cases b : dR (wO n f o) g X Y i j = dR (wO n f o) g X Y (i + 1) j + g
                · exact b
                · rw [if_neg b] at c2; omega
            · obtain rfl : j = Y.length := by omega
              rw [dR_endr _ _ _ _ _ (by omega), dR_endr _ _ _ _ _ (by omega), show ((X.length : Int) - (i : Int)) = ((X.length : Int) - ((i + 1 : Nat) : Int)) + 1 by omega, Int.add_mul, Int.one_mul]
          refine Ev.step (f := fun k => siglumref10_Walk.l0 k (gridP X Y n f o) (X.length : Int) (Y.length : Int) g (tabD X Y g n f o) (acc ++ [⟨(i : Int), -1⟩]) ((i + 1 : Nat) : Int) (j : Int)) (fun k => by
            rw [siglumref10_Walk.j2, if_neg (by decide), if_pos (by omega), wsucc i (by omega), if_pos (by omega), if_pos (by omega), if_pos (by omega), if_pos (by omega), if_pos (by omega), if_pos (by omega), if_pos (by omega), ev, ev1, ws (dR (wO n f o) g X Y (i + 1) j + g) (by omega) (by omega), if_pos eq, if_pos (by omega)]) ?_
          have := IH (i + 1) j (acc ++ [⟨(i : Int), -1⟩]) (by omega) (by omega) (by omega) (by rw [List.length_append]; simp only [List.length_cons, List.length_nil]; omega)
          rw [e3]
          rwa [List.append_assoc] at this
        · obtain ⟨e3, h1⟩ := pL_second (wO n f o) g X Y i j hij c1 c2 i j
          have fin : Ev (fun k => siglumref10_Walk.l0 k (gridP X Y n f o) (X.length : Int) (Y.length : Int) g (tabD X Y g n f o) (acc ++ [⟨-1, (j : Int)⟩]) (i : Int) ((j + 1 : Nat) : Int)) (acc ++ pL (wO n f o) g (X.drop i) (Y.drop j) i j, dL (wO n f o) g X Y) := by
            have := IH i (j + 1) (acc ++ [⟨-1, (j : Int)⟩]) (by omega) (by omega) (by omega) (by rw [List.length_append]; simp only [List.length_cons, List.length_nil]; omega)
            rw [e3]
            rwa [List.append_assoc] at this
          by_cases hi' : i < X.length
          · have el1 : (rd_L11 (tabD X Y g n f o) ((i + 1 : Nat) : Int)).length = Y.length + 1 := hT.2.1 (i + 1) (by omega)
            have ev1 : rd (rd_L11 (tabD X Y g n f o) ((i + 1 : Nat) : Int)) (j : Int) = dR (wO n f o) g X Y (i + 1) j := hT.2.2 (i + 1) j (by omega) hj
            have r1 := dR_range (wO n f o) g ⟨by omega, hg.2⟩ hgw X Y hX hY (i + 1) j
            have neq : ¬ dR (wO n f o) g X Y i j = dR (wO n f o) g X Y (i + 1) j + g := by
              intro b
              rw [codeP_in _ _ _ _ _ _ hi' h1] at c1 c2
              by_cases a : dR (wO n f o) g X Y i j = dR (wO n f o) g X Y (i + 1) (j + 1) + wO n f o X[i] Y[j]
              · rw [if_pos a] at c1; exact c1 rfl
              · rw [if_neg a, if_pos b] at c2; exact c2 rfl
            refine Ev.step (fun k => ?_) fin
            rw [siglumref10_Walk.j2, if_neg (by decide), if_pos (by omega), wsucc i (by omega), if_pos (by omega), if_pos (by omega), if_pos (by omega), if_pos (by omega), if_pos (by omega), if_pos (by omega), if_pos (by omega), ev, ev1, ws (dR (wO n f o) g X Y (i + 1) j + g) (by omega) (by omega), if_neg neq, if_pos (by omega), wsucc j (by omega)]
          · refine Ev.step (fun k => ?_) fin
            rw [siglumref10_Walk.j2, if_neg (by decide), if_neg (by omega), if_pos (by omega), wsucc j (by omega)]
      by_cases hin : i < X.length ∧ j < Y.length
      · obtain ⟨hi', hj'⟩ := hin
        have el1 : (rd_L11 (tabD X Y g n f o) ((i + 1 : Nat) : Int)).length = Y.length + 1 := hT.2.1 (i + 1) (by omega)
        have ev1 : rd (rd_L11 (tabD X Y g n f o) ((i + 1 : Nat) : Int)) ((j + 1 : Nat) : Int) = dR (wO n f o) g X Y (i + 1) (j + 1) := hT.2.2 (i + 1) (j + 1) (by omega) (by omega)
        have r1 := dR_range (wO n f o) g ⟨by omega, hg.2⟩ hgw X Y hX hY (i + 1) (j + 1)
        have e2 : rd (rd_L11 (gridP X Y n f o) (i : Int)) (j : Int) = wO n f o X[i] Y[j] := grid_at X Y n f o i j hi' hj'
        have e2l : (rd_L11 (gridP X Y n f o) (i : Int)).length = Y.length := grid_rlen X Y n f o i hi'
        have rw_ := wO_range n f o hn.1 hf X[i] Y[j]
        refine Ev.step (f := fun k => siglumref10_Walk.j2 k (gridP X Y n f o) (X.length : Int) (Y.length : Int) g (tabD X Y g n f o) acc (i : Int) (j : Int) (dR (wO n f o) g X Y i j == dR (wO n f o) g X Y (i + 1) (j + 1) + wO n f o X[i] Y[j])) (fun k => by
          rw [siglumref10_Walk.j1, if_pos rfl, if_pos (by omega), if_pos (by omega), wsucc i (by omega), wsucc j (by omega), if_pos (by omega), if_pos (by omega), if_pos (by omega), if_pos (by omega), if_pos (by omega), if_pos (by omega), if_pos (by omega), if_pos (by omega), if_pos (by omega), if_pos (by omega), ev, ev1, e2, ws (dR (wO n f o) g X Y (i + 1) (j + 1) + wO n f o X[i] Y[j]) (by omega) (by omega)]) ?_
        by_cases c1 : codeP (wO n f o) g X Y i j = 1
        · obtain ⟨e3, _, _⟩ := pL_both (wO n f o) g X Y i j c1 i j
          rw [codeP_in _ _ _ _ _ _ hi' hj'] at c1
          have a : dR (wO n f o) g X Y i j = dR (wO n f o) g X Y (i + 1) (j + 1) + wO n f o X[i] Y[j] := by
            by_cases a : dR (wO n f o) g X Y i j = dR (wO n f o) g X Y (i + 1) (j + 1) + wO n f o X[i] Y[j]
            · exact a
            · rw [if_neg a] at c1; split at c1 <;> omega
          rw [beq_iff_eq.2 a]
          refine Ev.step (f := fun k => siglumref10_Walk.l0 k (gridP X Y n f o) (X.length : Int) (Y.length : Int) g (tabD X Y g n f o) (acc ++ [⟨(i : Int), (j : Int)⟩]) ((i + 1 : Nat) : Int) ((j + 1 : Nat) : Int)) (fun k => by
            rw [siglumref10_Walk.j2, if_pos rfl, if_pos (by omega), wsucc i (by omega), wsucc j (by omega)]) ?_
          have := IH (i + 1) (j + 1) (acc ++ [⟨(i : Int), (j : Int)⟩]) (by omega) (by omega) (by omega) (by rw [List.length_append]; simp only [List.length_cons, List.length_nil]; omega)
          rw [e3]
          rwa [List.append_assoc] at this
        · have a : ¬ dR (wO n f o) g X Y i j = dR (wO n f o) g X Y (i + 1) (j + 1) + wO n f o X[i] Y[j] := by
            intro a
            rw [codeP_in _ _ _ _ _ _ hi' hj', if_pos a] at c1
            exact c1 rfl
          rw [beq_eq_false_iff_ne.2 a]
          exact second c1
      · refine Ev.step (f := fun k => siglumref10_Walk.j2 k (gridP X Y n f o) (X.length : Int) (Y.length : Int) g (tabD X Y g n f o) acc (i : Int) (j : Int) false) (fun k => by
          rw [siglumref10_Walk.j1, if_pos rfl]
          by_cases h1 : (i : Int) < (X.length : Int)
          · rw [if_pos h1, if_neg (by omega)]
          · rw [if_neg h1]) (second ?_)
        unfold codeP
        rw [dif_neg hin]
        split <;> omega
end
theorem refalign_eq (X Y : List ByteArray) (hX : smallL X) (hY : smallL Y) (g n f o : Int) : Ev (fun k => siglumref10_Align.f k X Y g n f o) (alignR X Y g n f o) := by
  unfold alignR
  refine ev_bind (refgrid_eq X Y hX hY g n f o) ?_
  by_cases h : (gridR X Y g n f o).2 = 0
  · obtain ⟨e, hs, l1, l2⟩ := gridR_ok h
    unfold scaleOk at hs
    rw [if_pos h, e]
    have hw : Ev (fun k => siglumref10_Walk.f k (gridP X Y n f o) (X.length : Int) (Y.length : Int) g) (pL (wO n f o) g X Y 0 0, dL (wO n f o) g X Y) :=
      ev_bind (f := fun k t => siglumref10_Walk.l0 k (gridP X Y n f o) (X.length : Int) (Y.length : Int) g t [] 0 0) (rests_eq X Y g n f o hs.1 hs.2.1 hs.2.2.1 l1 l2) (walk_loop X Y g n f o hs.1 hs.2.1 hs.2.2.1 l1 l2 (X.length + Y.length) 0 0 [] (by omega) (by omega) (by omega) (by simp only [List.length_nil]; omega))
    exact Ev.congr (fun k => by rw [if_pos rfl]) (ev_bind hw (Ev.now _))
  · rw [if_neg h]
    exact Ev.congr (fun k => by rw [if_neg h]) (Ev.now _)
end Go.Proofs.YtbpinnanfanaaaaDoor.Pure
namespace Go.Proofs.YtbpinnanfanaaaaDoor.L
open Go.RowKit Go.Proofs.YtbpinnanfanaaaaDoorW.PrintWords Go.Proofs.YtbpinnanfanaaaaDoorW.PrintLast Go.Proofs.YtbpinnanfanaaaaDoorW.PrintMore
attribute [local go_sem] min2_int min_two min_three   -- for this text's walks alone
set_option linter.unusedVariables false
set_option linter.unusedSimpArgs false
/-! ### siglumlaw11_SlimLeast: function 3 -/
def siglumlaw11_SlimLeast.f (k : Nat) (l0 : List ByteArray) (l1 : List ByteArray) (a2_0 : Int) (a2_1 : Int) (a2_2 : Int) (a2_3 : Int) : Option (Bool) := (siglumlaw11_awake.f k).bind fun t3102 => (if t3102 = true then ((siglumref09_Light.f k l0 l1).bind fun t3103 => (if t3103 = true then ((slim_Least.f k l0 l1 a2_0 a2_1 a2_2 a2_3).bind fun bt3104 => ((siglumref11_Least.f k l0 l1 a2_0 a2_1 a2_2 a2_3).bind fun bt3106 => (if bt3104.1 = bt3106.1 then (some (bt3104.2 == bt3106.2)) else (some false)))) else (some true))) else (some false))
end Go.Proofs.YtbpinnanfanaaaaDoor.L
/-
  SlimLeast: every least price is the document's.
-/
namespace Go.Proofs.YtbpinnanfanaaaaDoor.Pure
open Go.RowKit Go.Proofs.YtbpinnanfanaaaaDoor.L Go.Proofs.YtbpinnanfanaaaaDoorW.PrintWords Go.Proofs.YtbpinnanfanaaaaDoorW.PrintLast Go.Proofs.YtbpinnanfanaaaaDoorW.PrintMore
theorem least_align (X Y : List ByteArray) (g n f o : Int) : leastR X Y g n f o = ((alignR X Y g n f o).2.1, (alignR X Y g n f o).2.2) := by
  unfold leastR alignR
  by_cases h : (gridR X Y g n f o).2 = 0
  · obtain ⟨_, hs, _, _⟩ := gridR_ok h
    unfold scaleOk at hs
    rw [if_pos h, if_pos h, dP_all (wO n f o) g (by omega) (fun x y => (wO_range n f o hs.2.1.1 hs.2.2.1 x y).1)]
  · rw [if_neg h, if_neg h]
theorem refleast_eq (X Y : List ByteArray) (hX : smallL X) (hY : smallL Y) (g n f o : Int) : Ev (fun k => siglumref11_Least.f k X Y g n f o) (leastR X Y g n f o) := by
  rw [least_align]
  exact ev_bind (g := fun k => siglumref10_Align.f k X Y g n f o) (refalign_eq X Y hX hY g n f o) (Ev.now _)
end Go.Proofs.YtbpinnanfanaaaaDoor.Pure
/-
  PairRights: the document's Right, in plain numbers, is the program's.
-/
namespace Go.Proofs.YtbpinnanfanaaaaDoor.Pure
open Go.RowKit Go.Proofs.YtbpinnanfanaaaaDoor.L Go.Proofs.YtbpinnanfanaaaaDoorW.PrintWords Go.Proofs.YtbpinnanfanaaaaDoorW.PrintLast Go.Proofs.YtbpinnanfanaaaaDoorW.PrintMore
theorem refright_loop (n m : Int) (L : List S59) (hL : L.length < 4611686018427387904) : ∀ (d x i j : Nat), x + d = L.length → i ≤ x → j ≤ x →
    Ev (fun k => siglumref10_Right.l0 k n m L (i : Int) (j : Int) (x : Int)) (rightL n m (L.drop x) (i : Int) (j : Int)) := by
  intro d
  induction d with
  | zero =>
    intro x i j hd hi hj
    rw [List.drop_of_length_le (by omega), rightL]
    refine Ev.step (f := fun _ => some (decide ((i : Int) = n ∧ (j : Int) = m))) (fun k => ?_) (Ev.now _)
    rw [siglumref10_Right.l0, if_neg (by omega)]
    by_cases h : (i : Int) = n
    · rw [if_pos h]
      by_cases h2 : (j : Int) = m
      · rw [beq_iff_eq.2 h2, decide_eq_true ⟨h, h2⟩]
      · rw [beq_eq_false_iff_ne.2 h2, decide_eq_false (fun e => h2 e.2)]
    · rw [if_neg h, decide_eq_false (fun e => h e.1)]
  | succ d IH =>
    intro x i j hd hi hj
    have hx : x < L.length := by omega
    rw [List.drop_eq_getElem_cons hx, rightL]
    obtain ⟨p0, p1, hp⟩ : ∃ a b, L[x] = ⟨a, b⟩ := ⟨_, _, rfl⟩
    have e0 : rd_T59 L (x : Int) = ⟨p0, p1⟩ := by rw [rdP_nat L x hx, hp]
    rw [hp]
    dsimp only
    have wi := wsucc i (by omega)
    have wj := wsucc j (by omega)
    have wx := wsucc x (by omega)
    have ci : ((i : Int) + 1) = ((i + 1 : Nat) : Int) := by omega
    have cj : ((j : Int) + 1) = ((j + 1 : Nat) : Int) := by omega
    have stepT : ∀ r, Ev (fun k => siglumref10_Right.j2 k n m L (i : Int) (j : Int) (x : Int) (p0 == -1 && p1 == -1) p0 p1) r → Ev (fun k => siglumref10_Right.l0 k n m L (i : Int) (j : Int) (x : Int)) r := fun r h => by
      refine Ev.step (fun k => ?_) h
      rw [siglumref10_Right.l0, if_pos (by omega), if_pos (by omega), e0]
      dsimp only
      by_cases a : p0 = -1
      · rw [if_pos a, beq_iff_eq.2 a, Bool.true_and]
      · rw [if_neg a, beq_eq_false_iff_ne.2 a, Bool.false_and]
    refine stepT _ ?_
    by_cases a : p0 = -1
    · by_cases b : p1 = -1
      · rw [if_neg (by omega), if_neg (by omega), if_neg (by omega), beq_iff_eq.2 a, beq_iff_eq.2 b]
        exact Ev.step (f := fun _ => some false) (fun k => by rw [siglumref10_Right.j2, if_pos (by decide)]) (Ev.now _)
      · have bb : (p0 == -1 && p1 == -1) = false := by rw [beq_eq_false_iff_ne.2 b, Bool.and_false]
        rw [if_neg (by omega), if_neg (by omega), bb]
        refine Ev.step (fun k => by rw [siglumref10_Right.j2, if_neg (by decide), if_pos a]) ?_
        by_cases c : p1 = (j : Int) ∧ (j : Int) < m
        · rw [if_pos ⟨a, c.1, c.2⟩, cj]
          exact Ev.step (fun k => by rw [siglumref10_Right.j3, if_neg b, if_pos c.1, if_neg (by omega), wj, wx]) (IH (x + 1) i (j + 1) (by omega) (by omega) (by omega))
        · rw [if_neg (fun h => c ⟨h.2.1, h.2.2⟩)]
          refine Ev.step (f := fun _ => some false) (fun k => ?_) (Ev.now _)
          rw [siglumref10_Right.j3, if_neg b]
          by_cases c1 : p1 = (j : Int)
          · rw [if_pos c1, if_pos (by omega)]
          · rw [if_neg c1]
    · have bb : (p0 == -1 && p1 == -1) = false := by rw [beq_eq_false_iff_ne.2 a, Bool.false_and]
      rw [bb]
      by_cases c : p0 = (i : Int) ∧ (i : Int) < n
      · refine Ev.step (f := fun k => siglumref10_Right.j3 k n m L ((i + 1 : Nat) : Int) (j : Int) (x : Int) p0 p1) (fun k => by rw [siglumref10_Right.j2, if_neg (by decide), if_neg a, if_pos c.1, if_neg (by omega), wi]) ?_
        by_cases b : p1 = -1
        · rw [if_neg (by omega), if_pos ⟨c.1, b, c.2⟩, ci]
          exact Ev.step (fun k => by rw [siglumref10_Right.j3, if_pos b, wx]) (IH (x + 1) (i + 1) j (by omega) (by omega) (by omega))
        · by_cases e : p1 = (j : Int) ∧ (j : Int) < m
          · rw [if_pos ⟨c.1, e.1, c.2, e.2⟩, ci, cj]
            exact Ev.step (fun k => by rw [siglumref10_Right.j3, if_neg b, if_pos e.1, if_neg (by omega), wj, wx]) (IH (x + 1) (i + 1) (j + 1) (by omega) (by omega) (by omega))
          · rw [if_neg (fun h => e ⟨h.2.1, h.2.2.2⟩), if_neg (fun h => b h.2.1), if_neg (fun h => a h.1)]
            refine Ev.step (f := fun _ => some false) (fun k => ?_) (Ev.now _)
            rw [siglumref10_Right.j3, if_neg b]
            by_cases e1 : p1 = (j : Int)
            · rw [if_pos e1, if_pos (by omega)]
            · rw [if_neg e1]
      · rw [if_neg (fun h => c ⟨h.1, h.2.2.1⟩), if_neg (fun h => c ⟨h.1, h.2.2⟩), if_neg (fun h => a h.1)]
        refine Ev.step (f := fun _ => some false) (fun k => ?_) (Ev.now _)
        rw [siglumref10_Right.j2, if_neg (by decide), if_neg a]
        by_cases c1 : p0 = (i : Int)
        · rw [if_pos c1, if_pos (by omega)]
        · rw [if_neg c1]
theorem rightL_neg (n m : Int) (h : n < 0 ∨ m < 0) : ∀ (l : List S59) (i j : Int), 0 ≤ i → 0 ≤ j → rightL n m l i j = false := by
  intro l
  induction l with
  | nil => intro i j hi hj; rw [rightL]; exact decide_eq_false (by omega)
  | cons p l IH =>
    intro i j hi hj
    rw [rightL]
    by_cases h1 : p.f0 = i ∧ p.f1 = j ∧ i < n ∧ j < m
    · rw [if_pos h1]; exact IH _ _ (by omega) (by omega)
    · rw [if_neg h1]
      by_cases h2 : p.f0 = i ∧ p.f1 = -1 ∧ i < n
      · rw [if_pos h2]; exact IH _ _ (by omega) (by omega)
      · rw [if_neg h2]
        by_cases h3 : p.f0 = -1 ∧ p.f1 = j ∧ j < m
        · rw [if_pos h3]; exact IH _ _ (by omega) (by omega)
        · rw [if_neg h3]
theorem refright_eq (n m : Int) (L : List S59) (hL : L.length < 4611686018427387904) : Ev (fun k => siglumref10_Right.f k n m L) (rightL n m L 0 0) := by
  have hj : Ev (fun k => siglumref10_Right.j0 k n m L true) false := Ev.step (f := fun _ => some false) (fun k => by rw [siglumref10_Right.j0, if_pos rfl]) (Ev.now _)
  by_cases h1 : n < 0
  · rw [rightL_neg n m (Or.inl h1) L 0 0 (by omega) (by omega)]
    exact Ev.congr (fun k => by unfold siglumref10_Right.f; rw [if_pos h1]) hj
  · by_cases h2 : m < 0
    · rw [rightL_neg n m (Or.inr h2) L 0 0 (by omega) (by omega)]
      exact Ev.congr (fun k => by unfold siglumref10_Right.f; rw [if_neg h1, decide_eq_true h2]) hj
    · refine Ev.congr (f := fun k => siglumref10_Right.j0 k n m L false) (fun k => by unfold siglumref10_Right.f; rw [if_neg h1, decide_eq_false h2]) ?_
      exact Ev.step (fun k => by rw [siglumref10_Right.j0, if_neg (by decide)]; rfl) (refright_loop n m L hL L.length 0 0 0 (by omega) (Nat.le_refl _) (Nat.le_refl _))
end Go.Proofs.YtbpinnanfanaaaaDoor.Pure
/-
  The document's price of an alignment is the program's.
-/
namespace Go.Proofs.YtbpinnanfanaaaaDoor.Pure
open Go.RowKit Go.Proofs.YtbpinnanfanaaaaDoor.L Go.Proofs.YtbpinnanfanaaaaDoorW.PrintWords Go.Proofs.YtbpinnanfanaaaaDoorW.PrintLast Go.Proofs.YtbpinnanfanaaaaDoorW.PrintMore
section
variable (X Y : List ByteArray) (g n f o : Int) (hg : 1 ≤ g ∧ g ≤ 1000) (hn : 1 ≤ n ∧ n ≤ 1000) (hf : 1 ≤ f ∧ f ≤ 1000) (hX : X.length ≤ 1024) (hY : Y.length ≤ 1024)
include hg hn hf
theorem refprice_loop (L : List S59) (hL : L.length ≤ 4096) (hin : ∀ p ∈ L, (p.f0 = -1 ∧ 0 ≤ p.f1 ∧ p.f1 < Y.length) ∨ (p.f1 = -1 ∧ 0 ≤ p.f0 ∧ p.f0 < X.length) ∨ (0 ≤ p.f0 ∧ p.f0 < X.length ∧ 0 ≤ p.f1 ∧ p.f1 < Y.length)) : ∀ (d x : Nat) (s : Int), x + d = L.length → 0 ≤ s ∧ s ≤ 1000 * x →
    Ev (fun k => siglumref10_Price.l0 k L (gridP X Y n f o) s (x : Int) g n f o) (s + costL (gridP X Y n f o) g (L.drop x), 0) := by
  intro d
  induction d with
  | zero =>
    intro x s hd hs
    rw [List.drop_of_length_le (by omega), costL, Int.add_zero]
    exact Ev.step (f := fun _ => some (s, 0)) (fun k => by rw [siglumref10_Price.l0, if_neg (by omega)]) (Ev.now _)
  | succ d IH =>
    intro x s hd hs
    have hx : x < L.length := by omega
    have hpi := hin L[x] (List.getElem_mem hx)
    have hr := costP_range X Y g n f o hg hn hf L[x] hpi
    rw [List.drop_eq_getElem_cons hx, costL, ← Int.add_assoc]
    have e0 : rd_T59 L (x : Int) = L[x] := rdP_nat L x hx
    have wx := wsucc x (by omega)
    have eG := grid_len X Y n f o
    have eR : ∀ i : Nat, i < X.length → (rd_L11 (gridP X Y n f o) (i : Int)).length = Y.length := fun i h => grid_rlen X Y n f o i h
    generalize gridP X Y n f o = G at hr eG eR IH ⊢
    refine Ev.step (fun k => ?_) (IH (x + 1) (s + costP G g L[x]) (by omega) (by omega))
    rw [siglumref10_Price.l0, if_pos (by omega), if_pos (by omega), e0, wx]
    unfold costP at hr ⊢
    by_cases h1 : L[x].f0 = -1
    · rw [if_pos (Or.inl (by omega))] at hr ⊢
      rw [if_pos h1, ws (s + g) (by omega) (by omega)]
    · rw [if_neg h1]
      by_cases h2 : L[x].f1 = -1
      · rw [if_pos (Or.inr (by omega))] at hr ⊢
        rw [if_pos h2, ws (s + g) (by omega) (by omega)]
      · have h3 : ¬ (L[x].f0 < 0 ∨ L[x].f1 < 0) := by omega
        rw [if_neg h3] at hr ⊢
        obtain ⟨i, hi⟩ : ∃ i : Nat, L[x].f0 = (i : Int) := ⟨L[x].f0.toNat, by omega⟩
        have el := eR i (by omega)
        rw [← hi] at el
        have ev : rd (rd_L11 G L[x].f0) L[x].f1 = at2 G L[x].f0.toNat L[x].f1.toNat := rfl
        generalize at2 G L[x].f0.toNat L[x].f1.toNat = v at hr ev ⊢
        rw [if_neg h2, if_pos (by omega), if_pos (by omega), if_pos (by omega), if_pos (by omega), ev, ws (s + v) (by omega) (by omega)]
end
theorem refprice_eq (X Y : List ByteArray) (hX : smallL X) (hY : smallL Y) (L : List S59) (hL : L.length < 4611686018427387904) (g n f o : Int) : Ev (fun k => siglumref10_Price.f k X Y L g n f o) (priceR X Y L g n f o) := by
  unfold priceR
  refine ev_bind (refgrid_eq X Y hX hY g n f o) ?_
  by_cases h : (gridR X Y g n f o).2 = 0
  · obtain ⟨e, hs, l1, l2⟩ := gridR_ok h
    unfold scaleOk at hs
    rw [if_pos h, e]
    refine Ev.congr (fun k => by rw [if_pos rfl]) (ev_bind (refright_eq X.length Y.length L hL) ?_)
    by_cases hr : rightL X.length Y.length L 0 0 = true
    · rw [if_pos hr]
      obtain ⟨a, b⟩ := rightL_in X.length Y.length L 0 0 (Nat.zero_le _) (Nat.zero_le _) hr
      have := refprice_loop X Y g n f o hs.1 hs.2.1 hs.2.2.1 L (by omega) b L.length 0 0 (by omega) (by omega)
      rw [Int.zero_add] at this
      exact Ev.congr (fun k => by rw [if_pos hr]; rfl) this
    · rw [if_neg hr]
      exact Ev.congr (f := fun _ => some (0, 2)) (fun k => by rw [if_neg hr]) (Ev.now _)
  · rw [if_neg h]
    exact Ev.congr (f := fun _ => some (0, (gridR X Y g n f o).2)) (fun k => by rw [if_neg h]) (Ev.now _)
end Go.Proofs.YtbpinnanfanaaaaDoor.Pure
/-
  SlimSome: what slim.Some answers is an alignment of the least price.
-/
namespace Go.Proofs.YtbpinnanfanaaaaDoor.Pure
open Go.RowKit Go.Proofs.YtbpinnanfanaaaaDoor.L Go.Proofs.YtbpinnanfanaaaaDoorW.PrintWords Go.Proofs.YtbpinnanfanaaaaDoorW.PrintLast Go.Proofs.YtbpinnanfanaaaaDoorW.PrintMore
theorem least_dL {X Y : List ByteArray} {g n f o : Int} (h : (gridR X Y g n f o).2 = 0) : leastR X Y g n f o = (dL (wO n f o) g X Y, 0) := by
  rw [least_align]
  unfold alignR
  rw [if_pos h]
theorem SlimSome (A B : List ByteArray) (g n f o : Int) (_ : (∀ x ∈ A, x.size ≤ maxLen) ∧ A.length ≤ maxLen) (_ : (∀ x ∈ B, x.size ≤ maxLen) ∧ B.length ≤ maxLen) (_ : (Lit.int .i64 g).wf = true ∧ (Lit.int .i64 n).wf = true ∧ (Lit.int .i64 f).wf = true ∧ (Lit.int .i64 o).wf = true) (hb : ((A.map fun y => (y.size + 1)).sum + 1) + ((B.map fun y => (y.size + 1)).sum + 1) + (1 + 1 + 1 + 1 + 1) ≤ 1048576) : ∃ k, siglumlaw11_SlimSome.f k A B g n f o = some true := by
  have hA : smallL A := smallSumS A (by omega)
  have hB : smallL B := smallSumS B (by omega)
  refine Ev.rounds (ev_bind (f := fun k t => if t = true then (siglumref09_Light.f k A B).bind fun u => if u = true then (slim_Some.f k A B g n f o).bind fun p => (siglumref11_Least.f k A B g n f o).bind fun q => (if q.2 = 0 then (siglumref10_Price.f k A B p.1 g n f o).bind fun z => (if p.2 = 0 then (if z.2 = 0 then some (z.1 == q.1) else some false) else some false) else (if p.2 = q.2 then some ((p.1.length : Int) == 0) else some false)) else some true else some false) awake11 (Ev.congr (fun k => by rw [if_pos rfl]) ?_))
  obtain ⟨r, hr⟩ := light_any A B hA hB
  refine ev_bind hr ?_
  cases r with
  | false => exact Ev.congr (fun k => by rw [if_neg (by decide)]) (Ev.now _)
  | true =>
    obtain ⟨L, hL, h1, h2⟩ := some_eq A B hA hB g n f o
    refine Ev.congr (fun k => by rw [if_pos rfl]) (ev_bind hL ?_)
    refine ev_bind (refleast_eq A B hA hB g n f o) ?_
    by_cases h : (gridR A B g n f o).2 = 0
    · obtain ⟨_, _, l1, l2⟩ := gridR_ok h
      obtain ⟨k1, k2⟩ := h1 h
      have n1 := (rightL_in A.length B.length L 0 0 (Nat.zero_le _) (Nat.zero_le _) k1).1
      refine Ev.congr (fun k => by rw [least_dL h, if_pos rfl]) (ev_bind (refprice_eq A B hA hB L (by omega) g n f o) ?_)
      refine Ev.congr (f := fun _ => some true) (fun k => ?_) (Ev.now _)
      unfold priceR
      rw [if_pos h, if_pos k1, h, if_pos rfl, if_pos rfl, k2, beq_self_eq_true]
    · have e : (leastR A B g n f o).2 = (gridR A B g n f o).2 := by unfold leastR; rw [if_neg h]
      refine Ev.congr (f := fun _ => some true) (fun k => ?_) (Ev.now _)
      rw [e, if_neg h, if_pos rfl, h2 h]
      rfl
end Go.Proofs.YtbpinnanfanaaaaDoor.Pure
