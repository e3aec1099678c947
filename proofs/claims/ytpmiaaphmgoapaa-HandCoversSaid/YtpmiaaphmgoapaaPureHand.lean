/-
  Pieces of a marked text, in plain lists: which are right; what they give.
-/
import Derived.Test.YtpmiaaphmgoapaaHxf19
import Derived.Test.YtpmiaaphmgoapaaHxf12
import Derived.Test.YtpmiaaphmgoapaaHxf21
import Derived.Test.YtpmiaaphmgoapaaHxf20
import Derived.Test.YtpmiaaphmgoapaaHxf13
import Derived.Test.YtpmiaaphmgoapaaHxf9
import Derived.Test.YtpmiaaphmgoapaaHxf26
import Derived.Test.YtpmiaaphmgoapaaHxf29
namespace Go.Proofs.Ytpmiaaphmgoapaa.Pure
open Go.RowKit Go.Proofs Go.Proofs.Ytpmiaaphmgoapaa.H Go.Proofs.YtpmiaaphmgoapaaW.PrintWords Go.Proofs.YtpmiaaphmgoapaaW.PrintLast Go.Proofs.YtpmiaaphmgoapaaW.PrintMore
theorem ws (x : Int) (h : -9223372036854775808 ≤ x) (h2 : x < 9223372036854775808) : wrap64 x = x := by
  unfold wrap64
  omega
theorem rdP (l : List S37) (i : Nat) (h : i < l.length) : rd_T37 l (i : Int) = l[i] := by
  unfold rd_T37
  rw [Int.toNat_natCast, List.getD_eq_getElem?_getD, List.getElem?_eq_getElem h]
  rfl
theorem toList_data (s : ByteArray) : s.toList = s.data.toList := ByteArray.toList_eq s
/-- May this piece be, behind that kind? -/
def rightB (ahead : Int) (p : S37) : Bool :=
  if p.f0 = 1 then decide (p.f1.length = 1) && !decide ((rdOf ByteArray.empty p.f1 0).data.toList = []) && decide (p.f2 = 0) && decide (ahead ≠ 1)
  else if p.f0 = 4 then decide (p.f1.length = 1) && !decide ((rdOf ByteArray.empty p.f1 0).data.toList = []) && decide (p.f2 = 0)
  else if p.f0 = 2 then decide (p.f1.length = 0) && decide (1 ≤ p.f2) && decide (p.f2 ≤ 99)
  else if p.f0 = 3 then decide (2 ≤ p.f1.length) && decide (p.f1.length ≤ 4) && decide (p.f2 = 0)
  else false
def rightL : Int → List S37 → Bool
  | _, [] => true
  | a, p :: l => rightB a p && rightL p.f0 l
theorem right_eq (p : S37) (a : Int) : mark_right.f p.f0 p.f1 p.f2 a = some (rightB a p) := by
  unfold mark_right.f rightB
  simp only [toList_data]
  by_cases h1 : p.f0 = 1
  · rw [if_pos h1, if_pos h1]
    by_cases h2 : p.f1.length = 1
    · rw [if_pos (by omega), if_pos (by omega)]
      by_cases h3 : (rdOf ByteArray.empty p.f1 0).data.toList = []
      · rw [if_pos h3]; simp [h2, h3]
      · rw [if_neg h3]
        by_cases h4 : p.f2 = 0
        · rw [if_pos h4]; simp [h2, h3, h4]; rfl
        · rw [if_neg h4]; simp [h2, h3, h4]
    · rw [if_neg (by omega)]; simp [h2]
  · rw [if_neg h1, if_neg h1]
    by_cases k1 : p.f0 = 4
    · rw [if_pos k1, if_pos k1]
      by_cases h2 : p.f1.length = 1
      · rw [if_pos (by omega), if_pos (by omega)]
        by_cases h3 : (rdOf ByteArray.empty p.f1 0).data.toList = []
        · rw [if_pos h3]; simp [h2, h3]
        · rw [if_neg h3]; simp [h2, h3]; rfl
      · rw [if_neg (by omega)]; simp [h2]
    · rw [if_neg k1, if_neg k1]
      by_cases k2 : p.f0 = 2
      · rw [if_pos k2, if_pos k2]
        by_cases h2 : p.f1.length = 0
        · rw [if_pos (by omega)]
          by_cases h3 : p.f2 ≥ 1
          · rw [if_pos h3]
            have : (1 ≤ p.f2) := h3
            simp [h2, this]
          · rw [if_neg h3]
            have : ¬ (1 ≤ p.f2) := h3
            simp [this]
        · rw [if_neg (by omega)]; simp [h2]
      · rw [if_neg k2, if_neg k2]
        by_cases k3 : p.f0 = 3
        · rw [if_pos k3, if_pos k3]
          by_cases h2 : 2 ≤ p.f1.length
          · rw [if_pos (by omega)]
            by_cases h3 : p.f1.length ≤ 4
            · rw [if_pos (by omega)]; simp [h2, h3]; rfl
            · rw [if_neg (by omega)]; simp [h3]
          · rw [if_neg (by omega)]; simp [h2]
        · rw [if_neg k3, if_neg k3]
theorem check_loop (L : List S37) (hl : L.length ≤ 4398046511104) : ∀ (d i k : Nat) (a : Int), i + d = L.length → d + 1 ≤ k → mark_check.l0 k a L (L.length : Int) (i : Int) = some (if rightL a (L.drop i) = true then 0 else 51)
  | 0, i, k, a, hd, hk => by
    obtain ⟨k, rfl⟩ : ∃ m, k = m + 1 := ⟨k - 1, by omega⟩
    rw [mark_check.l0, if_neg (by omega), List.drop_of_length_le (by omega)]
    rfl
  | d + 1, i, k, a, hd, hk => by
    obtain ⟨k, rfl⟩ : ∃ m, k = m + 1 := ⟨k - 1, by omega⟩
    have hi : i < L.length := by omega
    have e2 : ((i + 1 : Nat) : Int) = (i : Int) + 1 := by omega
    rw [mark_check.l0, if_pos (by omega), if_pos (by omega), if_pos (by omega), rdP L i hi, right_eq, Option.bind_some, List.drop_eq_getElem_cons hi]
    unfold rightL
    by_cases hr : rightB a L[i] = true
    · rw [if_pos hr, ws ((i : Int) + 1) (by omega) (by omega), ← e2, check_loop L hl d (i + 1) k _ (by omega) (by omega), hr, Bool.true_and]
    · rw [if_neg hr]
      have : rightB a L[i] = false := by simpa using hr
      rw [this, Bool.false_and]
      rfl
theorem check_eq (L : List S37) (hl : L.length ≤ 4398046511104) (k : Nat) (hk : L.length + 1 ≤ k) : mark_check.f k L = some (if rightL 0 L = true then 0 else 51) := by
  unfold mark_check.f
  have := check_loop L hl L.length 0 k 0 (by omega) hk
  simpa using this
/-- How many hands wrote. -/
def handsL : Int → List S37 → Int
  | n, [] => n
  | n, p :: l => handsL (if p.f0 = 3 then max n (p.f1.length : Int) else n) l
theorem mx_eq (a b : Int) : mx a b = max a b := by
  unfold mx
  omega
theorem hands_loop (L : List S37) (hl : L.length ≤ 4398046511104) : ∀ (d i k : Nat) (n : Int), i + d = L.length → d + 1 ≤ k → mark_Hands.l0 k n L (L.length : Int) (i : Int) = some (handsL n (L.drop i), 0)
  | 0, i, k, n, hd, hk => by
    obtain ⟨k, rfl⟩ : ∃ m, k = m + 1 := ⟨k - 1, by omega⟩
    rw [mark_Hands.l0, if_neg (by omega), List.drop_of_length_le (by omega)]
    rfl
  | d + 1, i, k, n, hd, hk => by
    obtain ⟨k, rfl⟩ : ∃ m, k = m + 1 := ⟨k - 1, by omega⟩
    have hi : i < L.length := by omega
    have e2 : ((i + 1 : Nat) : Int) = (i : Int) + 1 := by omega
    rw [mark_Hands.l0, if_pos (by omega), if_pos (by omega), if_pos (by omega), rdP L i hi, List.drop_eq_getElem_cons hi, mx_eq]
    unfold handsL
    by_cases h3 : L[i].f0 = 3
    · rw [if_pos h3, if_pos h3, ws ((i : Int) + 1) (by omega) (by omega), ← e2, hands_loop L hl d (i + 1) k _ (by omega) (by omega)]
    · rw [if_neg h3, if_neg h3, ws ((i : Int) + 1) (by omega) (by omega), ← e2, hands_loop L hl d (i + 1) k _ (by omega) (by omega)]
theorem hands_eq (L : List S37) (hl : L.length ≤ 4398046511104) (k : Nat) (hk : L.length + 1 ≤ k) : mark_Hands.f k L = some (if rightL 0 L = true then (handsL 1 L, 0) else (0, 51)) := by
  unfold mark_Hands.f
  rw [check_eq L hl k hk, Option.bind_some]
  by_cases h : rightL 0 L = true
  · rw [if_pos h, if_pos rfl, if_pos h]
    have := hands_loop L hl L.length 0 k 1 (by omega) hk
    simpa using this
  · rw [if_neg h, if_neg (by decide), if_neg h]
theorem right_mem : ∀ (L : List S37) (a : Int), rightL a L = true → ∀ p ∈ L, ∃ b, rightB b p = true
  | [], _, _, p, hp => by cases hp
  | q :: L, a, h, p, hp => by
    unfold rightL at h
    rw [Bool.and_eq_true] at h
    rcases List.mem_cons.1 hp with rfl | hp
    · exact ⟨a, h.1⟩
    · exact right_mem L q.f0 h.2 p hp
theorem right_gives (b : Int) (p : S37) (h : Int) (hh : 0 ≤ h) (hr : rightB b p = true) : givesOk p.f0 p.f1.length p.f2 h := by
  unfold rightB at hr
  unfold givesOk
  split at hr
  · rename_i h1
    simp at hr
    rw [if_neg (by omega)]
    omega
  · split at hr
    · simp at hr
      rw [if_neg (by omega)]
      omega
    · split at hr
      · rename_i h2
        simp at hr
        rw [if_pos h2]
        omega
      · split at hr
        · simp at hr
          rename_i h2 _
          rw [if_neg h2]
          omega
        · cases hr
/-- The kind of the piece ahead. -/
def prevK (L : List S37) (i : Nat) : Int := if i = 0 then 0 else (rd_T37 L ((i - 1 : Nat) : Int)).f0
theorem prevK_succ (L : List S37) (i : Nat) (h : i < L.length) : prevK L (i + 1) = L[i].f0 := by
  unfold prevK
  rw [if_neg (by omega), show i + 1 - 1 = i from by omega, rdP L i h]
theorem ref_right_loop (L : List S37) (hl : L.length ≤ 4398046511104) : ∀ (d i k : Nat), i + d = L.length → 3 * d + 1 ≤ k → siglumref05_Right.l0 k L (i : Int) = some (rightL (prevK L i) (L.drop i))
  | 0, i, k, hd, hk => by
    obtain ⟨k, rfl⟩ : ∃ m, k = m + 1 := ⟨k - 1, by omega⟩
    rw [siglumref05_Right.l0, if_neg (by omega), List.drop_of_length_le (by omega)]
    rfl
  | d + 1, i, k, hd, hk => by
    obtain ⟨k, rfl⟩ : ∃ m, k = m + 3 := ⟨k - 3, by omega⟩
    have hi : i < L.length := by omega
    have e2 : ((i + 1 : Nat) : Int) = (i : Int) + 1 := by omega
    have hw : wrap64 ((i : Int) + 1) = ((i + 1 : Nat) : Int) := by rw [ws _ (by omega) (by omega), e2]
    have ih0 : ∀ m, 3 * d + 1 ≤ m → siglumref05_Right.l0 m L (wrap64 ((i : Int) + 1)) = some (rightL L[i].f0 (L.drop (i + 1))) := fun m hm => by
      rw [hw, ref_right_loop L hl d (i + 1) m (by omega) hm, prevK_succ L i hi]
    rw [List.drop_eq_getElem_cons hi]
    unfold rightL
    rw [siglumref05_Right.l0, if_pos (by omega), if_pos (by omega), rdP L i hi]
    obtain ⟨p, hp⟩ : ∃ p, L[i] = p := ⟨_, rfl⟩
    rw [hp] at ih0 ⊢
    have hj2 : ∀ b : Bool, siglumref05_Right.j2 (k + 1) L (i : Int) b p.f0 p.f1 p.f2 = some (!b && (!(decide (p.f0 = 1) && decide (prevK L i = 1))) && rightL p.f0 (L.drop (i + 1))) := by
      intro b
      rw [siglumref05_Right.j2]
      cases b with
      | true => rw [if_pos rfl]; rfl
      | false =>
        rw [if_neg (by decide)]
        by_cases h1 : p.f0 = 1
        · rw [if_pos h1]
          by_cases h0 : (i : Int) > 0
          · have hwm : wrap64 ((i : Int) - 1) = ((i - 1 : Nat) : Int) := by rw [ws _ (by omega) (by omega)]; omega
            have hpk : prevK L i = (rd_T37 L ((i - 1 : Nat) : Int)).f0 := by unfold prevK; rw [if_neg (by omega)]
            rw [if_pos h0, hwm, if_pos (by omega), if_pos (by omega), hpk]
            by_cases h2 : (rd_T37 L ((i - 1 : Nat) : Int)).f0 = 1
            · rw [if_pos h2]; simp [h1, h2]
            · rw [if_neg h2, ih0 k (by omega)]; simp [h2]
          · have hpk : prevK L i = 0 := by unfold prevK; rw [if_pos (by omega)]
            rw [if_neg h0, ih0 k (by omega), hpk]
            simp
        · rw [if_neg h1, ih0 k (by omega)]
          simp [h1]
    have hB : ∀ q : Bool, q = true → siglumref05_Right.j1 (k + 2) L (i : Int) ((p.f1.length : Nat) : Int) p.f0 q p.f0 p.f1 p.f2 = some ((decide (p.f1.length = 1) && !decide ((rdOf ByteArray.empty p.f1 0).data.toList = []) && decide (p.f2 = 0)) && (!(decide (p.f0 = 1) && decide (prevK L i = 1))) && rightL p.f0 (L.drop (i + 1))) := by
      intro q hq
      rw [siglumref05_Right.j1, if_pos hq]
      simp only [toList_data]
      by_cases h2 : p.f1.length = 1
      · rw [if_pos (by omega), if_pos (by omega)]
        by_cases h3 : (rdOf ByteArray.empty p.f1 0).data.toList = []
        · rw [if_pos h3, hj2]; simp [h2, h3]
        · rw [if_neg h3, hj2]
          by_cases h4 : p.f2 = 0
          · simp [h2, h3, h4]
          · simp [h2, h3, h4]
      · rw [if_neg (by omega), hj2]; simp [h2]
    by_cases h1 : p.f0 = 1
    · rw [if_pos h1, hB (p.f0 == 1) (by rw [h1]; rfl)]
      unfold rightB
      rw [if_pos h1]
      congr 1
      simp [h1, Bool.and_assoc]
    · rw [if_neg h1]
      by_cases h4 : p.f0 = 4
      · rw [hB (p.f0 == 4) (by rw [h4]; rfl)]
        unfold rightB
        rw [if_neg h1, if_pos h4]
        congr 1
        simp [h4]
      · have hf : (p.f0 == 4) = false := beq_eq_false_iff_ne.2 h4
        unfold rightB
        rw [if_neg h1, if_neg h4, hf, siglumref05_Right.j1, if_neg (by decide)]
        by_cases h2 : p.f0 = 2
        · rw [if_pos h2, if_pos h2]
          by_cases a1 : p.f1.length = 0
          · rw [if_pos (by omega)]
            by_cases a2 : p.f2 < 1
            · rw [if_pos a2]
              have : ¬ (1 ≤ p.f2) := by omega
              simp [this]
            · rw [if_neg a2]
              have a2' : 1 ≤ p.f2 := by omega
              by_cases a3 : p.f2 > 99
              · rw [if_pos a3]
                have : ¬ (p.f2 ≤ 99) := by omega
                simp [this]
              · rw [if_neg a3, ih0 (k + 1) (by omega)]
                have a3' : p.f2 ≤ 99 := by omega
                simp [a1, a2', a3']
          · rw [if_neg (by omega)]; simp [a1]
        · rw [if_neg h2, if_neg h2]
          by_cases h3 : p.f0 = 3
          · rw [if_pos h3, if_pos h3]
            by_cases a1 : 2 ≤ p.f1.length
            · rw [if_neg (by omega)]
              by_cases a2 : p.f1.length ≤ 4
              · rw [if_neg (by omega)]
                by_cases a3 : p.f2 = 0
                · rw [if_pos a3, ih0 (k + 1) (by omega)]; simp [a1, a2, a3]
                · rw [if_neg a3]; simp [a3]
              · rw [if_pos (by omega)]; simp [a2]
            · rw [if_pos (by omega)]; simp [a1]
          · rw [if_neg h3, if_neg h3]; rfl
theorem ref_right_eq (L : List S37) (hl : L.length ≤ 4398046511104) (k : Nat) (hk : 3 * L.length + 1 ≤ k) : siglumref05_Right.f k L = some (rightL 0 L) := by
  unfold siglumref05_Right.f
  have := ref_right_loop L hl L.length 0 k (by omega) hk
  simpa [prevK] using this
end Go.Proofs.Ytpmiaaphmgoapaa.Pure
