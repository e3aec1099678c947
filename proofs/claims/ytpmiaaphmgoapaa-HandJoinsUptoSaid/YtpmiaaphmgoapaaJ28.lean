import Derived.Test.YtpmiaaphmgoapaaJ25
import Derived.Test.YtpmiaaphmgoapaaJ26
import Derived.Test.YtpmiaaphmgoapaaJ27
import Derived.Test.YtpmiaaphmgoapaaRows
import Derived.Test.YtpmiaaphmgoapaaJ21
import Derived.ProofKit
import Derived.Deep.Slices
import Derived.Deep.Fields
import Derived.ChangeSame
import Derived.SizedLaws
namespace Go.Proofs.Ytpmiaaphmgoapaa.H
open Go.RowKit Go.Proofs.YtpmiaaphmgoapaaW.PrintWords Go.Proofs.YtpmiaaphmgoapaaW.PrintLast Go.Proofs.YtpmiaaphmgoapaaW.PrintMore
attribute [local go_sem] max2_int min2_int max_two min_two   -- for this text's walks alone
set_option linter.unusedVariables false
set_option linter.unusedSimpArgs false
/-! ### siglumref05_Right: function 13 -/
mutual
def siglumref05_Right.l0 : Nat → List (S37) → Int → Option (Bool)
  | 0, _, _ => none
  | k + 1, x0, x3 => if x3 < (x0.length : Int) then (if 0 ≤ x3 then (if ((rd_T37 x0 x3).f0) = 1 then (siglumref05_Right.j1 k x0 x3 (((rd_T37 x0 x3).f1).length : Int) ((rd_T37 x0 x3).f0) (((rd_T37 x0 x3).f0) == 1) ((rd_T37 x0 x3).f0) ((rd_T37 x0 x3).f1) ((rd_T37 x0 x3).f2)) else (siglumref05_Right.j1 k x0 x3 (((rd_T37 x0 x3).f1).length : Int) ((rd_T37 x0 x3).f0) (((rd_T37 x0 x3).f0) == 4) ((rd_T37 x0 x3).f0) ((rd_T37 x0 x3).f1) ((rd_T37 x0 x3).f2))) else (none)) else (some true)
def siglumref05_Right.j1 : Nat → List (S37) → Int → Int → Int → Bool → Int → List ByteArray → Int → Option (Bool)
  | 0, _, _, _, _, _, _, _, _ => none
  | k + 1, x0, x3, x5, x20, x21, x13103000, x13103001, x13103002 => if x21 = true then (if x5 = 1 then (if 0 < (x13103001.length : Int) then (if (rdOf ByteArray.empty x13103001 0).toList = ([] : List UInt8) then (siglumref05_Right.j2 k x0 x3 true x13103000 x13103001 x13103002) else (siglumref05_Right.j2 k x0 x3 (x13103002 != 0) x13103000 x13103001 x13103002)) else (none)) else (siglumref05_Right.j2 k x0 x3 true x13103000 x13103001 x13103002)) else (if x20 = 2 then (if x5 = 0 then (if x13103002 < 1 then (some false) else (if x13103002 > 99 then (some false) else (siglumref05_Right.l0 k x0 (wrap64 (x3 + 1))))) else (some false)) else (if x20 = 3 then (if x5 < 2 then (some false) else (if x5 > 4 then (some false) else (if x13103002 = 0 then (siglumref05_Right.l0 k x0 (wrap64 (x3 + 1))) else (some false)))) else (some false)))
def siglumref05_Right.j2 : Nat → List (S37) → Int → Bool → Int → List ByteArray → Int → Option (Bool)
  | 0, _, _, _, _, _, _ => none
  | k + 1, x0, x3, x37, x13103000, x13103001, x13103002 => if x37 = true then (some false) else (if x13103000 = 1 then (if x3 > 0 then (if 0 ≤ (wrap64 (x3 - 1)) then (if (wrap64 (x3 - 1)) < (x0.length : Int) then (if ((rd_T37 x0 (wrap64 (x3 - 1))).f0) = 1 then (some false) else (siglumref05_Right.l0 k x0 (wrap64 (x3 + 1)))) else (none)) else (none)) else (siglumref05_Right.l0 k x0 (wrap64 (x3 + 1)))) else (siglumref05_Right.l0 k x0 (wrap64 (x3 + 1))))
end
def siglumref05_Right.f (k : Nat) (l0 : List (S37)) : Option (Bool) := siglumref05_Right.l0 k l0 0
end Go.Proofs.Ytpmiaaphmgoapaa.H
/-
  Pieces of a marked text, in plain lists: which are right; what they give.
-/
namespace Go.Proofs.Ytpmiaaphmgoapaa.Pure
open Go.RowKit Go.Proofs Go.Proofs.Ytpmiaaphmgoapaa.H Go.Proofs.YtpmiaaphmgoapaaW.PrintWords Go.Proofs.YtpmiaaphmgoapaaW.PrintLast Go.Proofs.YtpmiaaphmgoapaaW.PrintMore
theorem ws (x : Int) (h : -9223372036854775808 ≤ x) (h2 : x < 9223372036854775808) : wrap64 x = x := by
  unfold wrap64
  omega
theorem rdP (l : List S37) (i : Nat) (h : i < l.length) : rd_T37 l (i : Int) = l[i] := by
  unfold rd_T37
  rw [Int.toNat_natCast, List.getD_eq_getElem?_getD, List.getElem?_eq_getElem h]
  rfl
theorem toList_data (s : ByteArray) : s.toList = s.data.toList := ByteArray.toList_eq s
/-- May this piece be, behind that kind? -/
def rightB (ahead : Int) (p : S37) : Bool :=
  if p.f0 = 1 then decide (p.f1.length = 1) && !decide ((rdOf ByteArray.empty p.f1 0).data.toList = []) && decide (p.f2 = 0) && decide (ahead ≠ 1)
  else if p.f0 = 4 then decide (p.f1.length = 1) && !decide ((rdOf ByteArray.empty p.f1 0).data.toList = []) && decide (p.f2 = 0)
  else if p.f0 = 2 then decide (p.f1.length = 0) && decide (1 ≤ p.f2) && decide (p.f2 ≤ 99)
  else if p.f0 = 3 then decide (2 ≤ p.f1.length) && decide (p.f1.length ≤ 4) && decide (p.f2 = 0)
  else false
def rightL : Int → List S37 → Bool
  | _, [] => true
  | a, p :: l => rightB a p && rightL p.f0 l
theorem right_eq (p : S37) (a : Int) : mark_right.f p.f0 p.f1 p.f2 a = some (rightB a p) := by
  unfold mark_right.f rightB
  simp only [toList_data]
  by_cases h1 : p.f0 = 1
  · rw [if_pos h1, if_pos h1]
    by_cases h2 : p.f1.length = 1
    · rw [if_pos (by omega), if_pos (by omega)]
      by_cases h3 : (rdOf ByteArray.empty p.f1 0).data.toList = []
      · rw [if_pos h3]; simp [h2, h3]
      · rw [if_neg h3]
        by_cases h4 : p.f2 = 0
        · rw [if_pos h4]; simp [h2, h3, h4]; rfl
        · rw [if_neg h4]; simp [h2, h3, h4]
    · rw [if_neg (by omega)]; simp [h2]
  · rw [if_neg h1, if_neg h1]
    by_cases k1 : p.f0 = 4
    · rw [if_pos k1, if_pos k1]
      by_cases h2 : p.f1.length = 1
      · rw [if_pos (by omega), if_pos (by omega)]
        by_cases h3 : (rdOf ByteArray.empty p.f1 0).data.toList = []
        · rw [if_pos h3]; simp [h2, h3]
        · rw [if_neg h3]; simp [h2, h3]; rfl
      · rw [if_neg (by omega)]; simp [h2]
    · rw [if_neg k1, if_neg k1]
      by_cases k2 : p.f0 = 2
      · rw [if_pos k2, if_pos k2]
        by_cases h2 : p.f1.length = 0
        · rw [if_pos (by omega)]
          by_cases h3 : p.f2 ≥ 1
          · rw [if_pos h3]
            have : (1 ≤ p.f2) := h3
            simp [h2, this]
          · rw [if_neg h3]
            have : ¬ (1 ≤ p.f2) := h3
            simp [this]
        · rw [if_neg (by omega)]; simp [h2]
      · rw [if_neg k2, if_neg k2]
        by_cases k3 : p.f0 = 3
        · rw [if_pos k3, if_pos k3]
          by_cases h2 : 2 ≤ p.f1.length
          · rw [if_pos (by omega)]
            by_cases h3 : p.f1.length ≤ 4
            · rw [if_pos (by omega)]; simp [h2, h3]; rfl
            · rw [if_neg (by omega)]; simp [h3]
          · rw [if_neg (by omega)]; simp [h2]
        · rw [if_neg k3, if_neg k3]
theorem check_loop (L : List S37) (hl : L.length ≤ 4398046511104) : ∀ (d i k : Nat) (a : Int), i + d = L.length → d + 1 ≤ k → mark_check.l0 k a L (L.length : Int) (i : Int) = some (if rightL a (L.drop i) = true then 0 else 51)
  | 0, i, k, a, hd, hk => by
    obtain ⟨k, rfl⟩ : ∃ m, k = m + 1 := ⟨k - 1, by omega⟩
    rw [mark_check.l0, if_neg (by omega), List.drop_of_length_le (by omega)]
    rfl
  | d + 1, i, k, a, hd, hk => by
    obtain ⟨k, rfl⟩ : ∃ m, k = m + 1 := ⟨k - 1, by omega⟩
    have hi : i < L.length := by omega
    have e2 : ((i + 1 : Nat) : Int) = (i : Int) + 1 := by omega
    rw [mark_check.l0, if_pos (by omega), if_pos (by omega), if_pos (by omega), rdP L i hi, right_eq, Option.bind_some, List.drop_eq_getElem_cons hi]
    unfold rightL
    by_cases hr : rightB a L[i] = true
    · rw [if_pos hr, ws ((i : Int) + 1) (by omega) (by omega), ← e2, check_loop L hl d (i + 1) k _ (by omega) (by omega), hr, Bool.true_and]
    · rw [if_neg hr]
      have : rightB a L[i] = false := by simpa using hr
      rw [this, Bool.false_and]
      rfl
theorem check_eq (L : List S37) (hl : L.length ≤ 4398046511104) (k : Nat) (hk : L.length + 1 ≤ k) : mark_check.f k L = some (if rightL 0 L = true then 0 else 51) := by
  unfold mark_check.f
  have := check_loop L hl L.length 0 k 0 (by omega) hk
  simpa using this
/-- How many hands wrote. -/
def handsL : Int → List S37 → Int
  | n, [] => n
  | n, p :: l => handsL (if p.f0 = 3 then max n (p.f1.length : Int) else n) l
theorem mx_eq (a b : Int) : mx a b = max a b := by
  unfold mx
  omega
theorem hands_loop (L : List S37) (hl : L.length ≤ 4398046511104) : ∀ (d i k : Nat) (n : Int), i + d = L.length → d + 1 ≤ k → mark_Hands.l0 k n L (L.length : Int) (i : Int) = some (handsL n (L.drop i), 0)
  | 0, i, k, n, hd, hk => by
    obtain ⟨k, rfl⟩ : ∃ m, k = m + 1 := ⟨k - 1, by omega⟩
    rw [mark_Hands.l0, if_neg (by omega), List.drop_of_length_le (by omega)]
    rfl
  | d + 1, i, k, n, hd, hk => by
    obtain ⟨k, rfl⟩ : ∃ m, k = m + 1 := ⟨k - 1, by omega⟩
    have hi : i < L.length := by omega
    have e2 : ((i + 1 : Nat) : Int) = (i : Int) + 1 := by omega
    rw [mark_Hands.l0, if_pos (by omega), if_pos (by omega), if_pos (by omega), rdP L i hi, List.drop_eq_getElem_cons hi, mx_eq]
    unfold handsL
    by_cases h3 : L[i].f0 = 3
    · rw [if_pos h3, if_pos h3, ws ((i : Int) + 1) (by omega) (by omega), ← e2, hands_loop L hl d (i + 1) k _ (by omega) (by omega)]
    · rw [if_neg h3, if_neg h3, ws ((i : Int) + 1) (by omega) (by omega), ← e2, hands_loop L hl d (i + 1) k _ (by omega) (by omega)]
theorem hands_eq (L : List S37) (hl : L.length ≤ 4398046511104) (k : Nat) (hk : L.length + 1 ≤ k) : mark_Hands.f k L = some (if rightL 0 L = true then (handsL 1 L, 0) else (0, 51)) := by
  unfold mark_Hands.f
  rw [check_eq L hl k hk, Option.bind_some]
  by_cases h : rightL 0 L = true
  · rw [if_pos h, if_pos rfl, if_pos h]
    have := hands_loop L hl L.length 0 k 1 (by omega) hk
    simpa using this
  · rw [if_neg h, if_neg (by decide), if_neg h]
theorem right_mem : ∀ (L : List S37) (a : Int), rightL a L = true → ∀ p ∈ L, ∃ b, rightB b p = true
  | [], _, _, p, hp => by cases hp
  | q :: L, a, h, p, hp => by
    unfold rightL at h
    rw [Bool.and_eq_true] at h
    rcases List.mem_cons.1 hp with rfl | hp
    · exact ⟨a, h.1⟩
    · exact right_mem L q.f0 h.2 p hp
theorem right_gives (b : Int) (p : S37) (h : Int) (hh : 0 ≤ h) (hr : rightB b p = true) : givesOk p.f0 p.f1.length p.f2 h := by
  unfold rightB at hr
  unfold givesOk
  split at hr
  · rename_i h1
    simp at hr
    rw [if_neg (by omega)]
    omega
  · split at hr
    · simp at hr
      rw [if_neg (by omega)]
      omega
    · split at hr
      · rename_i h2
        simp at hr
        rw [if_pos h2]
        omega
      · split at hr
        · simp at hr
          rename_i h2 _
          rw [if_neg h2]
          omega
        · cases hr
/-- The kind of the piece ahead. -/
def prevK (L : List S37) (i : Nat) : Int := if i = 0 then 0 else (rd_T37 L ((i - 1 : Nat) : Int)).f0
end Go.Proofs.Ytpmiaaphmgoapaa.Pure
namespace Go.Proofs.Ytpmiaaphmgoapaa.H
open Go.RowKit Go.Proofs.YtpmiaaphmgoapaaW.PrintWords Go.Proofs.YtpmiaaphmgoapaaW.PrintLast Go.Proofs.YtpmiaaphmgoapaaW.PrintMore
attribute [local go_sem] max2_int min2_int max_two min_two   -- for this text's walks alone
set_option linter.unusedVariables false
set_option linter.unusedSimpArgs false
/-! ### siglumref06_gives: function 22 -/
def siglumref06_gives.l0 : Nat → ByteArray → Int → Int → List ByteArray → Int → Option (ByteArray)
  | 0, _, _, _, _, _ => none
  | k + 1, x5, x6, x22102000, x22102001, x22102002 => if x6 < x22102002 then (if x5.size + 4 ≤ 9223372036854775807 then (siglumref06_gives.l0 k (x5 ++ (⟨#[226, 151, 140, 32]⟩ : ByteArray)) (wrap64 (x6 + 1)) x22102000 x22102001 x22102002) else (none)) else (some x5)
def siglumref06_gives.f (k : Nat) (a0_0 : Int) (l0_1 : List ByteArray) (a0_2 : Int) (a1 : Int) : Option (ByteArray) := if a0_0 = 2 then (siglumref06_gives.l0 k (⟨#[]⟩ : ByteArray) 0 a0_0 l0_1 a0_2) else (if a0_0 = 3 then (if a1 < (l0_1.length : Int) then (if 0 ≤ a1 then (some (rdOf ByteArray.empty l0_1 a1)) else (none)) else (if 0 ≤ (wrap64 ((l0_1.length : Int) - 1)) then (if (wrap64 ((l0_1.length : Int) - 1)) < (l0_1.length : Int) then (some (rdOf ByteArray.empty l0_1 (wrap64 ((l0_1.length : Int) - 1)))) else (none)) else (none))) else (if 0 < (l0_1.length : Int) then (some (rdOf ByteArray.empty l0_1 0)) else (none)))
end Go.Proofs.Ytpmiaaphmgoapaa.H
namespace Go.Proofs.Ytpmiaaphmgoapaa.H
open Go.RowKit Go.Proofs.YtpmiaaphmgoapaaW.PrintWords Go.Proofs.YtpmiaaphmgoapaaW.PrintLast Go.Proofs.YtpmiaaphmgoapaaW.PrintMore
attribute [local go_sem] max2_int min2_int max_two min_two   -- for this text's walks alone
set_option linter.unusedVariables false
set_option linter.unusedSimpArgs false
/-! ### siglumref06_hand: function 25 -/
def siglumref06_hand.f (a0 : Int) : Option (Bool) := if a0 ≥ 0 then (some (decide (a0 < 4))) else (some false)
end Go.Proofs.Ytpmiaaphmgoapaa.H
namespace Go.Proofs.Ytpmiaaphmgoapaa.H
open Go.RowKit Go.Proofs.YtpmiaaphmgoapaaW.PrintWords Go.Proofs.YtpmiaaphmgoapaaW.PrintLast Go.Proofs.YtpmiaaphmgoapaaW.PrintMore
attribute [local go_sem] max2_int min2_int max_two min_two   -- for this text's walks alone
set_option linter.unusedVariables false
set_option linter.unusedSimpArgs false
/-! ### siglumref06_Read: function 14 -/
mutual
def siglumref06_Read.l0 : Nat → List (S37) → Int → Int → Int → Option (ByteArray × Int)
  | 0, _, _, _, _ => none
  | k + 1, x0, x1, x6, x7 => if x7 < (x0.length : Int) then (if 0 ≤ x7 then ((siglumref06_gives.f k ((rd_T37 x0 x7).f0) ((rd_T37 x0 x7).f1) ((rd_T37 x0 x7).f2) x1).bind fun t14104 => (if (t14104.size : Int) > (wrap64 (65536 - x6)) then (some ((⟨#[]⟩ : ByteArray), 1)) else (siglumref06_Read.l0 k x0 x1 (wrap64 (x6 + (t14104.size : Int))) (wrap64 (x7 + 1))))) else (none)) else (siglumref06_Read.l1 k x0 x1 ([] : List Int) 0)
def siglumref06_Read.l1 : Nat → List (S37) → Int → List Int → Int → Option (ByteArray × Int)
  | 0, _, _, _, _ => none
  | k + 1, x0, x1, x9, x10 => if x10 < (x0.length : Int) then (if 0 ≤ x10 then ((siglumref06_gives.f k ((rd_T37 x0 x10).f0) ((rd_T37 x0 x10).f1) ((rd_T37 x0 x10).f2) x1).bind fun t14106 => (if x9.length + t14106.size < 140737488355328 then (siglumref06_Read.l1 k x0 x1 (x9 ++ bytesOf t14106) (wrap64 (x10 + 1))) else (none))) else (none)) else (some (strOfNums x9, 0))
end
def siglumref06_Read.f (k : Nat) (l0 : List (S37)) (a1 : Int) : Option (ByteArray × Int) := (siglumref05_Right.f k l0).bind fun t14101 => (if t14101 = true then ((siglumref06_hand.f a1).bind fun t14102 => (if t14102 = true then (siglumref06_Read.l0 k l0 a1 0 0) else (some ((⟨#[]⟩ : ByteArray), 2)))) else (some ((⟨#[]⟩ : ByteArray), 51)))
end Go.Proofs.Ytpmiaaphmgoapaa.H
namespace Go.Proofs.Ytpmiaaphmgoapaa.H
open Go.RowKit Go.Proofs.YtpmiaaphmgoapaaW.PrintWords Go.Proofs.YtpmiaaphmgoapaaW.PrintLast Go.Proofs.YtpmiaaphmgoapaaW.PrintMore
attribute [local go_sem] max2_int min2_int max_two min_two   -- for this text's walks alone
set_option linter.unusedVariables false
set_option linter.unusedSimpArgs false
/-! ### siglumref06_Lost: function 16 -/
def siglumref06_Lost.l0 : Nat → List (S37) → Int → Int → Option (Int × Int)
  | 0, _, _, _ => none
  | k + 1, x0, x4, x5 => if x5 < (x0.length : Int) then (if 0 ≤ x5 then (siglumref06_Lost.l0 k x0 (wrap64 (x4 + ((rd_T37 x0 x5).f2))) (wrap64 (x5 + 1))) else (none)) else (some (x4, 0))
def siglumref06_Lost.f (k : Nat) (l0 : List (S37)) : Option (Int × Int) := (siglumref05_Right.f k l0).bind fun t16101 => (if t16101 = true then (siglumref06_Lost.l0 k l0 0 0) else (some (0, 51)))
end Go.Proofs.Ytpmiaaphmgoapaa.H
namespace Go.Proofs.Ytpmiaaphmgoapaa.H
open Go.RowKit Go.Proofs.YtpmiaaphmgoapaaW.PrintWords Go.Proofs.YtpmiaaphmgoapaaW.PrintLast Go.Proofs.YtpmiaaphmgoapaaW.PrintMore
attribute [local go_sem] max2_int min2_int max_two min_two   -- for this text's walks alone
set_option linter.unusedVariables false
set_option linter.unusedSimpArgs false
/-! ### siglumlaw06_HandReads: function 5 -/
def siglumlaw06_HandReads.f (k : Nat) (l0 : List (S37)) (a1 : Int) : Option (Bool) := (siglumlaw06_awake.f k).bind fun t5101 => (if t5101 = true then ((hand_Read.f k l0 a1).bind fun bt5102 => ((siglumref06_Read.f k l0 a1).bind fun bt5104 => ((hand_Lost.f k l0).bind fun bt5106 => ((siglumref06_Lost.f k l0).bind fun bt5108 => (if bt5102.1.toList = bt5104.1.toList then (if bt5102.2 = bt5104.2 then (if bt5106.1 = bt5108.1 then (some (bt5106.2 == bt5108.2)) else (some false)) else (some false)) else (some false)))))) else (some false))
end Go.Proofs.Ytpmiaaphmgoapaa.H
/-
  Every Read, and how many words are lost: the pieces' text by both ways.
-/
namespace Go.Proofs.Ytpmiaaphmgoapaa.Pure
open Go.RowKit Go.Proofs Go.Proofs.Ytpmiaaphmgoapaa.H Go.Proofs.YtpmiaaphmgoapaaW.PrintWords Go.Proofs.YtpmiaaphmgoapaaW.PrintLast Go.Proofs.YtpmiaaphmgoapaaW.PrintMore
def numsH (l : List UInt8) : List Int := l.map fun b => (b.toNat : Int)
/-- Is the text not too long? -/
def okG (h : Int) : List S37 → Int → Bool
  | [], _ => true
  | p :: l, a => if a + (givesS p h).size > 65536 then false else okG h l (a + (givesS p h).size)
theorem okG_cons (h : Int) (p : S37) (l : List S37) (a : Int) : okG h (p :: l) a = if a + (givesS p h).size > 65536 then false else okG h l (a + (givesS p h).size) := rfl
theorem okG_spans (h : Int) : ∀ (l : List S37) (a : Int) (acc : List (Int × Int)), (spansG h l a acc).isSome = okG h l a
  | [], _, _ => rfl
  | p :: l, a, acc => by
    unfold spansG okG
    split
    · rfl
    · exact okG_spans h l _ _
theorem okG_len (h : Int) : ∀ (l : List S37) (a : Int), a ≤ 65536 → okG h l a = true → a + (givesT h l).length ≤ 65536
  | [], a, ha, _ => by simp [givesT]; exact ha
  | p :: l, a, ha, hk => by
    unfold okG at hk
    split at hk
    · cases hk
    · rename_i hb
      have ih := okG_len h l _ (by omega) hk
      have e : givesT h (p :: l) = (givesS p h).data.toList ++ givesT h l := by simp [givesT]
      have e2 : (givesS p h).data.toList.length = (givesS p h).size := by rw [Array.length_toList]; rfl
      rw [e, List.length_append, e2]
      omega
/-- What Read answers. -/
def readP (h : Int) (L : List S37) : ByteArray × Int := if rightL 0 L = true then (if 0 ≤ h ∧ h < 4 then (if okG h L 0 = true then (⟨(givesT h L).toArray⟩, 0) else (⟨#[]⟩, 1)) else (⟨#[]⟩, 2)) else (⟨#[]⟩, 51)
theorem read_eq (L : List S37) (h : Int) (hl : L.length ≤ 4398046511104) (hs : rightL 0 L = true → ∀ p ∈ L, (givesS p h).size ≤ 140737488355328) (k : Nat) (hk : L.length + 1 ≤ k) : hand_Read.f k L h = some (readP h L) := by
  unfold hand_Read.f hand_Spans.f readP
  rw [hands_eq L hl k hk, Option.bind_some]
  by_cases hr : rightL 0 L = true
  · rw [if_pos hr, if_pos hr]
    dsimp only
    rw [if_pos rfl]
    by_cases hh : 0 ≤ h ∧ h < 4
    · have hpc : (∀ p ∈ L, pieceOk h p) ∧ L.length ≤ 4294967296 * 1024 := ⟨fun p hp => by
        obtain ⟨b, hb⟩ := right_mem L 0 hr p hp
        exact ⟨right_gives b p h hh.1 hb, hs hr p hp⟩, by omega⟩
      rw [if_pos hh, if_pos hh, if_pos hpc, Option.bind_some]
      have hi := okG_spans h L 0 []
      cases hg : spansG h L 0 [] with
      | none =>
        rw [hg] at hi
        have h0 : okG h L 0 = false := hi.symm
        rw [h0]
        rfl
      | some q =>
        rw [hg] at hi
        have h0 : okG h L 0 = true := hi.symm
        rw [h0]
        rfl
    · rw [if_neg hh, if_neg hh, Option.bind_some]
      rfl
  · rw [if_neg hr, if_neg hr]
    dsimp only
    rw [if_neg (by decide), Option.bind_some]
    rfl
/-- How many words are lost. -/
def lostP : List S37 → Int
  | [] => 0
  | p :: l => (if p.f0 = 2 then p.f2 else 0) + lostP l
theorem lost_range : ∀ (L : List S37) (a : Int), rightL a L = true → 0 ≤ lostP L ∧ lostP L ≤ 99 * (L.length : Int)
  | [], _, _ => by simp [lostP]
  | p :: l, a, h => by
    unfold rightL at h
    rw [Bool.and_eq_true] at h
    have ih := lost_range l p.f0 h.2
    have h1 := h.1
    unfold rightB at h1
    unfold lostP
    rw [List.length_cons]
    by_cases h2 : p.f0 = 2
    · rw [if_neg (by omega), if_neg (by omega), if_pos h2] at h1
      simp at h1
      rw [if_pos h2]
      omega
    · rw [if_neg h2]
      omega
theorem lost_loop (L : List S37) (hl : L.length ≤ 4398046511104) (hr : ∀ p ∈ L, ∃ b, rightB b p = true) : ∀ (d i k : Nat) (n : Int), i + d = L.length → 0 ≤ n → n ≤ 99 * (i : Int) → d + 1 ≤ k → hand_Lost.l0 k n L (L.length : Int) (i : Int) = some (n + lostP (L.drop i), 0)
  | 0, i, k, n, hd, h0, h1, hk => by
    obtain ⟨k, rfl⟩ : ∃ m, k = m + 1 := ⟨k - 1, by omega⟩
    rw [hand_Lost.l0, if_neg (by omega), List.drop_of_length_le (by omega)]
    simp [lostP]
  | d + 1, i, k, n, hd, h0, h1, hk => by
    obtain ⟨k, rfl⟩ : ∃ m, k = m + 1 := ⟨k - 1, by omega⟩
    have hi : i < L.length := by omega
    have e2 : ((i + 1 : Nat) : Int) = (i : Int) + 1 := by omega
    obtain ⟨b, hb⟩ := hr L[i] (List.getElem_mem hi)
    have hc : lostP (L.drop i) = (if L[i].f0 = 2 then L[i].f2 else 0) + lostP (L.drop (i + 1)) := by rw [List.drop_eq_getElem_cons hi]; rfl
    have hz : 0 ≤ (if L[i].f0 = 2 then L[i].f2 else 0) ∧ (if L[i].f0 = 2 then L[i].f2 else 0) ≤ 99 := by
      by_cases h2 : L[i].f0 = 2
      · have h3 := hb
        unfold rightB at h3
        rw [if_neg (by omega), if_neg (by omega), if_pos h2] at h3
        simp at h3
        rw [if_pos h2]
        omega
      · rw [if_neg h2]; omega
    rw [hand_Lost.l0, if_pos (by omega), if_pos (by omega), if_pos (by omega), rdP L i hi, hc]
    by_cases h2 : L[i].f0 = 2
    · rw [if_pos h2] at hz ⊢
      rw [if_pos h2, ws (n + _) (by omega) (by omega), ws _ (by omega) (by omega), ← e2, lost_loop L hl hr d (i + 1) k _ (by omega) (by omega) (by omega) (by omega)]
      congr 2
      omega
    · rw [if_neg h2, if_neg h2, ws _ (by omega) (by omega), ← e2, lost_loop L hl hr d (i + 1) k n (by omega) h0 (by omega) (by omega)]
      congr 2
      omega
def lostAll (L : List S37) : Int × Int := if rightL 0 L = true then (lostP L, 0) else (0, 51)
theorem lost_eq (L : List S37) (hl : L.length ≤ 4398046511104) (k : Nat) (hk : L.length + 1 ≤ k) : hand_Lost.f k L = some (lostAll L) := by
  unfold hand_Lost.f lostAll
  rw [hands_eq L hl k hk, Option.bind_some]
  by_cases hr : rightL 0 L = true
  · rw [if_pos hr, if_pos hr]
    dsimp only
    rw [if_pos rfl]
    have := lost_loop L hl (right_mem L 0 hr) L.length 0 k 0 (by omega) (by omega) (by omega) hk
    simpa using this
  · rw [if_neg hr, if_neg hr]
    dsimp only
    rw [if_neg (by decide)]
theorem aw6 : readP 0 [⟨3, [⟨#[97]⟩, ⟨#[98]⟩], 0⟩, ⟨2, [], 1⟩] = (⟨#[97, 226, 151, 140, 32]⟩, 0) ∧ readP 3 [⟨3, [⟨#[97]⟩, ⟨#[98]⟩], 0⟩, ⟨2, [], 1⟩] = (⟨#[98, 226, 151, 140, 32]⟩, 0) ∧ readP 4 [⟨3, [⟨#[97]⟩, ⟨#[98]⟩], 0⟩, ⟨2, [], 1⟩] = (⟨#[]⟩, 2) := by decide +kernel
theorem awake6 (k : Nat) (hk : 3 ≤ k) : siglumlaw06_awake.f k = some true := by
  unfold siglumlaw06_awake.f
  obtain ⟨a0, a3, a4⟩ := aw6
  have hz : ∀ h : Int, ∀ p ∈ ([⟨3, [⟨#[97]⟩, ⟨#[98]⟩], 0⟩, ⟨2, [], 1⟩] : List S37), (givesS p h).size ≤ 140737488355328 := by
    intro h p hp
    simp at hp
    rcases hp with rfl | rfl
    · unfold givesS givesP
      rw [if_neg (by decide)]
      dsimp only
      unfold rdOf
      generalize (if h < (([⟨#[97]⟩, ⟨#[98]⟩] : List ByteArray).length : Int) - 1 then h else (([⟨#[97]⟩, ⟨#[98]⟩] : List ByteArray).length : Int) - 1).toNat = q
      match q with
      | 0 => decide
      | 1 => decide
      | q + 2 => simp
    · unfold givesS givesP
      rw [if_pos (by decide)]
      decide
  rw [Option.bind_some, read_eq _ 0 (by decide) (fun _ => hz 0) k hk, Option.bind_some, read_eq _ 3 (by decide) (fun _ => hz 3) k hk, Option.bind_some, read_eq _ 4 (by decide) (fun _ => hz 4) k hk, Option.bind_some, a0, a3, a4]
  decide +kernel
theorem gives_size (b : Int) (p : S37) (h : Int) (hr : rightB b p = true) (hz : ∀ z ∈ p.f1, z.size ≤ 140737488351232) : (givesS p h).size ≤ 140737488355328 := by
  have hrd : ∀ j : Int, (rdOf ByteArray.empty p.f1 j).size ≤ 140737488351232 := by
    intro j
    unfold rdOf
    rw [List.getD_eq_getElem?_getD]
    cases hq : p.f1[j.toNat]? with
    | none => exact Nat.zero_le _
    | some z => exact hz z (List.mem_of_getElem? hq)
  unfold givesS givesP
  by_cases h2 : p.f0 = 2
  · rw [if_pos h2]
    unfold rightB at hr
    rw [if_neg (by omega), if_neg (by omega), if_pos h2] at hr
    simp at hr
    show (lostL p.f2.toNat).toArray.size ≤ _
    rw [List.size_toArray, lostL_length]
    omega
  · rw [if_neg h2]
    exact Nat.le_trans (hrd _) (by decide)
end Go.Proofs.Ytpmiaaphmgoapaa.Pure
/-
  HandJoins: what two lists of pieces give, one behind the other, is what both give together.
-/
namespace Go.Proofs.Ytpmiaaphmgoapaa.Pure
open Go.RowKit Go.Proofs Go.Proofs.Ytpmiaaphmgoapaa.H Go.Proofs.YtpmiaaphmgoapaaW.PrintWords Go.Proofs.YtpmiaaphmgoapaaW.PrintLast Go.Proofs.YtpmiaaphmgoapaaW.PrintMore
/-- The kind of the last piece. -/
def lastK (L : List S37) (a : Int) : Int := match L.getLast? with | some p => p.f0 | none => a
theorem lastK_cons (p : S37) (L : List S37) (a : Int) : lastK (p :: L) a = lastK L p.f0 := by
  unfold lastK
  cases L with
  | nil => rfl
  | cons q L => rw [List.getLast?_cons_cons]; cases hq : (q :: L).getLast? with
    | none => simp at hq
    | some z => rfl
theorem right_app : ∀ (A B : List S37) (a : Int), rightL a (A ++ B) = (rightL a A && rightL (lastK A a) B) := by
  intro A
  induction A with
  | nil => intro B a; rw [List.nil_append, rightL, Bool.true_and]; rfl
  | cons p A ih => intro B a; rw [List.cons_append, rightL, rightL, ih, lastK_cons, Bool.and_assoc]
theorem rightB_0 (p : S37) (a : Int) (h : p.f0 = 1 → a ≠ 1) : rightB a p = rightB 0 p := by
  unfold rightB
  by_cases h1 : p.f0 = 1
  · rw [if_pos h1, if_pos h1, decide_eq_true (h h1), decide_eq_true (show (0 : Int) ≠ 1 by omega)]
  · rw [if_neg h1, if_neg h1]
theorem right_0 (B : List S37) (a : Int) (h : ∀ p, B.head? = some p → p.f0 = 1 → a ≠ 1) : rightL a B = rightL 0 B := by
  cases B with
  | nil => rfl
  | cons p B => rw [rightL, rightL, rightB_0 p a (h p rfl)]
theorem gives_app (h : Int) (A B : List S37) : givesT h (A ++ B) = givesT h A ++ givesT h B := by
  unfold givesT
  rw [List.flatMap_append]
theorem lost_app : ∀ (A B : List S37), lostP (A ++ B) = lostP A + lostP B := by
  intro A
  induction A with
  | nil => intro B; rw [List.nil_append, lostP, Int.zero_add]
  | cons p A ih => intro B; rw [List.cons_append, lostP, lostP, ih, Int.add_assoc]
theorem okG_of (h : Int) : ∀ (L : List S37) (n : Int), n + (givesT h L).length ≤ 65536 → okG h L n = true := by
  intro L
  induction L with
  | nil => intro n _; rfl
  | cons p L ih =>
    intro n hn
    rw [show givesT h (p :: L) = (givesS p h).data.toList ++ givesT h L from by unfold givesT; rw [List.flatMap_cons], List.length_append, show (givesS p h).data.toList.length = (givesS p h).size from by rw [Array.length_toList]; rfl] at hn
    rw [okG_cons, if_neg (by omega)]
    exact ih _ (by omega)
theorem bulkP (L : List S37) (h : (L.map fun y => (1 + ((y.f1.map fun y => (y.size + 1)).sum + 1) + 1 + 1)).sum ≤ 1048576) : L.length ≤ 1048576 ∧ ∀ p ∈ L, ∀ z ∈ p.f1, z.size ≤ 1048576 := by
  have inner : ∀ (l : List ByteArray), ∀ z ∈ l, z.size ≤ (l.map fun y => (y.size + 1)).sum := by
    intro l
    induction l with
    | nil => intro z hz; cases hz
    | cons y l ih =>
      intro z hz
      rw [List.map_cons, List.sum_cons]
      rcases List.mem_cons.1 hz with rfl | hz
      · omega
      · have := ih z hz; omega
  have outer : ∀ (L : List S37), L.length ≤ (L.map fun y => (1 + ((y.f1.map fun y => (y.size + 1)).sum + 1) + 1 + 1)).sum ∧ ∀ p ∈ L, (p.f1.map fun y => (y.size + 1)).sum ≤ (L.map fun y => (1 + ((y.f1.map fun y => (y.size + 1)).sum + 1) + 1 + 1)).sum := by
    intro L
    induction L with
    | nil => exact ⟨Nat.zero_le _, fun p hp => by cases hp⟩
    | cons y L ih =>
      rw [List.map_cons, List.sum_cons, List.length_cons]
      refine ⟨by omega, fun p hp => ?_⟩
      rcases List.mem_cons.1 hp with rfl | hp
      · omega
      · have := ih.2 p hp; omega
  obtain ⟨a, b⟩ := outer L
  exact ⟨by omega, fun p hp z hz => by have := b p hp; have := inner p.f1 z hz; omega⟩
theorem HandJoins (A B : List S37) (h : Int) (_ : (∀ y ∈ A, (((Lit.int .i64 y.f0).wf = true) ∧ ((∀ z ∈ y.f1, (z.size ≤ maxLen)) ∧ y.f1.length ≤ maxLen) ∧ ((Lit.int .i64 y.f2).wf = true))) ∧ A.length ≤ maxLen) (_ : (∀ y ∈ B, (((Lit.int .i64 y.f0).wf = true) ∧ ((∀ z ∈ y.f1, (z.size ≤ maxLen)) ∧ y.f1.length ≤ maxLen) ∧ ((Lit.int .i64 y.f2).wf = true))) ∧ B.length ≤ maxLen) (_ : (Lit.int .i64 h).wf = true)
    (hb : ((A.map fun y => (1 + ((y.f1.map fun y => (y.size + 1)).sum + 1) + 1 + 1)).sum + 1) + ((B.map fun y => (1 + ((y.f1.map fun y => (y.size + 1)).sum + 1) + 1 + 1)).sum + 1) + 1 ≤ 1048576) : ∃ k, siglumlaw06_HandJoins.f k A B h = some true := by
  obtain ⟨lA, sA⟩ := bulkP A (by omega)
  obtain ⟨lB, sB⟩ := bulkP B (by omega)
  have sz : ∀ (L : List S37), (∀ p ∈ L, ∀ z ∈ p.f1, z.size ≤ 1048576) → rightL 0 L = true → ∀ p ∈ L, (givesS p h).size ≤ 140737488355328 := fun L hL hr p hp => by
    obtain ⟨b, hb⟩ := right_mem L 0 hr p hp
    exact gives_size b p h hb (fun z hz => by have := hL p hp z hz; omega)
  refine ⟨2097200, ?_⟩
  unfold siglumlaw06_HandJoins.f
  have hj : ∀ s t, siglumlaw06_HandJoins.j0 2097200 A B h s t true = some true := fun s t => by rw [siglumlaw06_HandJoins.j0, if_pos rfl]
  rw [awake6 _ (by omega), Option.bind_some, if_pos rfl, read_eq A h (by omega) (sz A sA) _ (by omega), Option.bind_some, read_eq B h (by omega) (sz B sB) _ (by omega), Option.bind_some]
  by_cases hA : (readP h A).2 = 0
  · by_cases hB : (readP h B).2 = 0
    · rw [if_pos hA, if_pos hB]
      have ok : ∀ L : List S37, (readP h L).2 = 0 → rightL 0 L = true ∧ (0 ≤ h ∧ h < 4) ∧ readP h L = (⟨(givesT h L).toArray⟩, 0) := by
        intro L hL
        unfold readP at hL ⊢
        by_cases a : rightL 0 L = true
        · rw [if_pos a] at hL ⊢
          by_cases b : 0 ≤ h ∧ h < 4
          · rw [if_pos b] at hL ⊢
            by_cases c : okG h L 0 = true
            · rw [if_pos c]; exact ⟨a, b, rfl⟩
            · rw [if_neg c] at hL; cases hL
          · rw [if_neg b] at hL; cases hL
        · rw [if_neg a] at hL; cases hL
      obtain ⟨rA, hh, eA⟩ := ok A hA
      obtain ⟨rB, _, eB⟩ := ok B hB
      rw [eA, eB]
      dsimp only
      have zA : (⟨(givesT h A).toArray⟩ : ByteArray).size = (givesT h A).length := by show (givesT h A).toArray.size = _; rw [List.size_toArray]
      have zB : (⟨(givesT h B).toArray⟩ : ByteArray).size = (givesT h B).length := by show (givesT h B).toArray.size = _; rw [List.size_toArray]
      rw [zA, zB]
      have lenA := okG_len h A 0 (by omega) (by
        unfold readP at hA
        rw [if_pos rA, if_pos hh] at hA
        by_cases c : okG h A 0 = true
        · exact c
        · rw [if_neg c] at hA; cases hA)
      rw [ws (65536 - ((givesT h A).length : Int)) (by omega) (by omega)]
      by_cases hlen : ((givesT h B).length : Int) > 65536 - ((givesT h A).length : Int)
      · rw [if_pos hlen]; exact hj _ _
      · rw [if_neg hlen]
        have main : (∀ p, B.head? = some p → p.f0 = 1 → lastK A 0 ≠ 1) → siglumlaw06_HandJoins.j0 2097200 A B h ⟨(givesT h A).toArray⟩ ⟨(givesT h B).toArray⟩ false = some true := by
          intro hc
          have rAB : rightL 0 (A ++ B) = true := by rw [right_app, rA, Bool.true_and, right_0 B _ hc]; exact rB
          have sAB : ∀ p ∈ A ++ B, ∀ z ∈ p.f1, z.size ≤ 1048576 := fun p hp => (List.mem_append.1 hp).elim (sA p) (sB p)
          have lAB : (A ++ B).length ≤ 2097152 := by rw [List.length_append]; omega
          have eAB : readP h (A ++ B) = (⟨(givesT h A ++ givesT h B).toArray⟩, 0) := by
            unfold readP
            rw [if_pos rAB, if_pos hh, if_pos (okG_of h (A ++ B) 0 (by rw [gives_app, List.length_append]; omega)), gives_app]
          have eL : ∀ L : List S37, rightL 0 L = true → lostAll L = (lostP L, 0) := fun L hL => by unfold lostAll; rw [if_pos hL]
          have g1 := lost_range A 0 rA
          have g2 := lost_range B 0 rB
          rw [siglumlaw06_HandJoins.j0, if_neg (by decide), if_pos (by simp only [List.length_nil]; omega), Option.bind_some, List.nil_append, if_pos (by omega), Option.bind_some, read_eq (A ++ B) h (by omega) (sz (A ++ B) sAB) _ (by omega), Option.bind_some, lost_eq A (by omega) _ (by omega), Option.bind_some, lost_eq B (by omega) _ (by omega), Option.bind_some, lost_eq (A ++ B) (by omega) _ (by omega), Option.bind_some, eAB, eL A rA, eL B rB, eL (A ++ B) rAB, lost_app]
          dsimp only
          rw [if_pos rfl, zA, zB, if_pos (by omega), if_pos ?_, if_pos rfl, if_pos rfl, if_pos rfl, ws (lostP A + lostP B) (by omega) (by omega)]
          · simp
          · rw [toList_data, toList_data]
            simp
        by_cases nA : (A.length : Int) > 0
        · rw [if_pos nA]
          by_cases nB : (B.length : Int) > 0
          · have e1 : ((A.length : Int) - 1) = ((A.length - 1 : Nat) : Int) := by omega
            obtain ⟨q, B', rfl⟩ : ∃ q B', B = q :: B' := by
              cases B with
              | nil => exact absurd nB (by simp)
              | cons q B' => exact ⟨q, B', rfl⟩
            have eb : rd_T37 (q :: B') 0 = q := rfl
            have hlast : lastK A 0 = A[A.length - 1].f0 := by
              unfold lastK
              rw [List.getLast?_eq_getElem?, List.getElem?_eq_getElem (by omega)]
            rw [if_pos nB, ws ((A.length : Int) - 1) (by omega) (by omega), if_pos (by omega), if_pos (by omega), e1, rdP A (A.length - 1) (by omega), eb]
            by_cases k1 : A[A.length - 1].f0 = 1
            · rw [if_pos k1, if_pos (by omega)]
              by_cases k2 : q.f0 = 1
              · rw [beq_iff_eq.2 k2]; exact hj _ _
              · rw [beq_eq_false_iff_ne.2 k2]
                exact main (fun p hp hp1 => by
                  rw [List.head?_cons] at hp
                  cases hp
                  exact absurd hp1 k2)
            · rw [if_neg k1]
              exact main (fun p _ _ => by rw [hlast]; exact k1)
          · rw [if_neg nB]
            exact main (fun p hp _ => by
              cases B with
              | nil => cases hp
              | cons q B' => exact absurd (by rw [List.length_cons]; omega) nB)
        · rw [if_neg nA]
          exact main (fun p _ _ => by
            cases A with
            | nil => unfold lastK; simp
            | cons q A' => exact absurd (by rw [List.length_cons]; omega) nA)
    · rw [if_pos hA, if_neg hB]; exact hj _ _
  · rw [if_neg hA]; exact hj _ _
end Go.Proofs.Ytpmiaaphmgoapaa.Pure
/-
  How an argument's reading as data gives the kinds that the print speaks of: integers, bools, strings, slices, structs of one-cell fields; and that the bulk of what is read is no more than the data's bulk.
-/
namespace Go.Proofs.Ytpmiaaphmgoapaa.Op
open Go.RowKit Go.ChangeShapes Go.WideShapes Go.Deep Go.Proofs.YtpmiaaphmgoapaaW.PrintWords
theorem bulk_pos {H : Type} (d : DataW H) : 1 ≤ Rows.uptoBulk d := by
  cases d with
  | lit l => cases l <;> simp [Rows.uptoBulk]
  | nil => simp [Rows.uptoBulk]
  | ptr d => simp [Rows.uptoBulk]
  | slice elems spare => simp [Rows.uptoBulk]
  | agg parts => simp [Rows.uptoBulk]
  | iface t d => simp [Rows.uptoBulk]
  | map entries => simp [Rows.uptoBulk]
  | held h => simp [Rows.uptoBulk]
theorem bulk_append {H : Type} (l r : List (DataW H)) : Rows.uptoBulkAll (l ++ r) = Rows.uptoBulkAll l + Rows.uptoBulkAll r := by
  induction l with
  | nil => simp [Rows.uptoBulkAll]
  | cons x l ih => simp only [List.cons_append, Rows.uptoBulkAll, ih]; omega
theorem bulk_bound {H : Type} {l : List (DataW H)} (hk : Rows.uptoSmall H l = true) : Rows.uptoBulkAll l ≤ 1048576 := of_decide_eq_true hk
/-- A reading of type t gives a value of kind d, good, of no more bulk. -/
def Opens (P : Program) {α : Type} (t : TypeId) (d : Kd α) (good : α → Prop) (bulk : α → Nat) : Prop :=
  ∀ {H : Type} {enc : TypeId × Value → H} {w : World} {base : Nat} {spare : Nat → Bool} {held : Bool} {fuel : Nat} {cs : List Value} {x : DataW H × List MemPlace},
    DataW.trod enc P w base spare held fuel t cs = some x → ∃ a : α, d.K w a cs ∧ good a ∧ bulk a ≤ Rows.uptoBulk x.1
variable {P : Program}
theorem opens_int {t : TypeId} {k : IntKind} (ht : P.underlying t = some (.int k)) : Opens P t (Kd.int k) (fun n => (Lit.int k n).wf = true) (fun _ => 1) := by
  intro H enc w base spare held fuel cs x h
  obtain ⟨n, rfl, rfl, hw⟩ := DataW.trod_int ht h
  exact ⟨n, rfl, hw, bulk_pos _⟩
theorem opens_string {t : TypeId} (ht : P.underlying t = some .string) : Opens P t Kd.string (fun s => s.size ≤ maxLen) (fun s => s.size + 1) := by
  intro H enc w base spare held fuel cs x h
  obtain ⟨n, rfl, rfl, hw⟩ := DataW.trod_string ht h
  refine ⟨n, rfl, hw, ?_⟩
  simp [Rows.uptoBulk]
theorem opens_slice {α : Type} {t e : TypeId} {d : Kd α} {good : α → Prop} {bulk : α → Nat} (ht : P.underlying t = some (.slice e)) (hc : P.cellsOf e = d.sz) (h : Opens P e d good bulk) :
    Opens P t (Kd.slice e d) (fun l => (∀ x ∈ l, good x) ∧ l.length ≤ maxLen) (fun l => (l.map bulk).sum + 1) := by
  intro H enc w base spare held fuel cs x hx
  rcases open_slice ht hx with ⟨rfl, rfl⟩ | ⟨a, len, cap, m, n, D, Pl, rfl, hb, hl, hm, hmm, rfl, hi⟩
  · exact ⟨[], ⟨none, 0, rfl, Nat.le_refl _, rfl, Nat.zero_le _, fun h0 => absurd h0 (Nat.lt_irrefl _)⟩, ⟨fun _ hx => absurd hx (List.not_mem_nil), Nat.zero_le _⟩, bulk_pos _⟩
  · have hlm : len ≤ m := by rw [hmm]; split <;> omega
    have key : ∀ j, j ≤ len → ∃ l : List α, l.length = j ∧ (∀ i p, l[i]? = some p → ∃ c, w.cells? base (a.add (i * P.cellsOf e)) (P.cellsOf e) = some c ∧ d.K w p c) ∧ (∀ x ∈ l, good x) ∧ (l.map bulk).sum ≤ Rows.uptoBulkAll ((List.range j).map D) := by
      intro j
      induction j with
      | zero => intro _; exact ⟨[], rfl, fun i p hp => by simp at hp, fun _ hx => absurd hx (List.not_mem_nil), by simp⟩
      | succ j ih =>
        intro hj
        obtain ⟨l, hll, h1, h2, h3⟩ := ih (by omega)
        obtain ⟨cs', hcs, htr⟩ := hi j (by omega)
        obtain ⟨p, hK, hg, hbk⟩ := h htr
        refine ⟨l ++ [p], by simp [hll], fun i q hq => ?_, fun x hx => ?_, ?_⟩
        · rcases Nat.lt_trichotomy i l.length with hlt | heq | hgt
          · rw [List.getElem?_append_left hlt] at hq
            exact h1 i q hq
          · subst heq
            simp at hq
            subst hq
            rw [hll]
            exact ⟨cs', hcs, hK⟩
          · rw [List.getElem?_eq_none (by simp; omega)] at hq
            cases hq
        · rcases List.mem_append.1 hx with hx | hx
          · exact h2 x hx
          · rw [List.mem_singleton.1 hx]; exact hg
        · rw [List.map_append, List.sum_append, List.range_succ, List.map_append, bulk_append]
          simp only [List.map_cons, List.map_nil, List.sum_cons, List.sum_nil, Rows.uptoBulkAll]
          have hbk' : bulk p ≤ Rows.uptoBulk (D j) := hbk
          omega
    obtain ⟨l, hll, h1, h2, h3⟩ := key len (Nat.le_refl _)
    refine ⟨l, ⟨some a, cap, by rw [hll], by omega, rfl, by rw [hll]; unfold maxLen at hm; omega, fun _ => ⟨a, rfl, fun j p hp => ?_⟩⟩, ⟨h2, by rw [hll]; omega⟩, ?_⟩
    · obtain ⟨c, hcc, hK⟩ := h1 j p hp
      obtain ⟨_, hcl, hat⟩ := World.cells?_some hcc
      refine ⟨c, by rw [hcl, hc], hK, fun i u hu => ?_⟩
      have hil : i < P.cellsOf e := by
        rw [← hcl]
        exact (List.getElem?_eq_some_iff.1 hu).1
      rw [← hc, ← Go.Deep.add_add, hat i hil, hu]
    · show (l.map bulk).sum + 1 ≤ Rows.uptoBulkAll ((List.range len).map D) + Rows.uptoBulkAll _ + 1
      omega
/-- A struct of one-cell fields. -/
theorem open_fields {H : Type} {enc : TypeId × Value → H} {w : World} {base : Nat} {spare : Nat → Bool} {held : Bool} {t : TypeId} {fs : Array Field} {fuel : Nat} {cs : List Value} {x : DataW H × List MemPlace} (he : P.underlying t = some (.struct fs))
    (hone : oneCellFields P fs = true) (hC : P.cellsOf t = fs.size) (h : DataW.trod enc P w base spare held fuel t cs = some x) :
    ∃ (ys : List (DataW H × List MemPlace)) (n : Nat), x.1 = .agg (ys.map (·.1)) ∧ ys.length = fs.size ∧ cs.length = fs.size ∧
      ∀ (j : Nat) (f : Field), fs[j]? = some f → ∃ (v : Value) (y : DataW H × List MemPlace), cs[j]? = some v ∧ ys[j]? = some y ∧ DataW.trod enc P w base spare held n f.type [v] = some y := by
  obtain ⟨ys, n', hn', hy, hlen, hyl, hf⟩ := DataW.trod_struct he h
  refine ⟨ys, n', by rw [hy], hyl, by rw [hlen, hC], fun j f hj => ?_⟩
  obtain ⟨ho, hk⟩ := hone_of hone j f hj
  have hjl : j < fs.size := (Array.getElem?_eq_some_iff.1 hj).1
  have hcl : j < cs.length := by rw [hlen, hC]; exact hjl
  have h1 := hf j f hj
  rw [ho, hk] at h1
  have hone' : (cs.drop j).take 1 = [cs[j]] := by
    rw [List.drop_eq_getElem_cons hcl]
    rfl
  rw [hone'] at h1
  have hys : ys[j]? = some (ys[j]'(by omega)) := List.getElem?_eq_getElem (by omega)
  exact ⟨_, _, List.getElem?_eq_getElem hcl, hys, h1.trans hys⟩
end Go.Proofs.Ytpmiaaphmgoapaa.Op
