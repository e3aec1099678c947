/-
  Which pieces two hands read otherwise: by both ways the same.
-/
import Derived.Test.YtpmiaaphmgoapaaPureHandReads
import Derived.Test.YtpmiaaphmgoapaaHx7
import Derived.Test.YtpmiaaphmgoapaaHx8
import Derived.Test.YtpmiaaphmgoapaaHx9
namespace Go.Proofs.Ytpmiaaphmgoapaa.Pure
open Go.RowKit Go.Proofs Go.Proofs.Ytpmiaaphmgoapaa.H Go.Proofs.YtpmiaaphmgoapaaW.PrintWords Go.Proofs.YtpmiaaphmgoapaaW.PrintLast Go.Proofs.YtpmiaaphmgoapaaW.PrintMore
/-- Which pieces give the one hand another text than the other. -/
def diffs (a b : Int) : List S37 → Nat → List Int
  | [], _ => []
  | p :: l, i => if (givesS p a).toList = (givesS p b).toList then diffs a b l (i + 1) else (i : Int) :: diffs a b l (i + 1)
theorem gives_eq (b : Int) (p : S37) (h : Int) (hh : 0 ≤ h) (hr : rightB b p = true) : hand_gives.f p.f0 p.f1 p.f2 h = some (givesS p h) := by
  unfold hand_gives.f
  rw [if_pos (right_gives b p h hh hr)]
  rfl
theorem changed_loop (L : List S37) (a b : Int) (ha : 0 ≤ a) (hb : 0 ≤ b) (hl : L.length ≤ 4398046511104) (hr : ∀ p ∈ L, ∃ b, rightB b p = true) : ∀ (d i k : Nat) (acc : List Int), i + d = L.length → acc.length ≤ i → d + 1 ≤ k →
    hand_Changed.l0 k a b acc L (L.length : Int) (i : Int) = some (acc ++ diffs a b (L.drop i) i, 0)
  | 0, i, k, acc, hd, h0, hk => by
    obtain ⟨k, rfl⟩ : ∃ m, k = m + 1 := ⟨k - 1, by omega⟩
    rw [hand_Changed.l0, if_neg (by omega), List.drop_of_length_le (by omega)]
    simp [diffs]
  | d + 1, i, k, acc, hd, h0, hk => by
    obtain ⟨k, rfl⟩ : ∃ m, k = m + 1 := ⟨k - 1, by omega⟩
    have hi : i < L.length := by omega
    have e2 : ((i + 1 : Nat) : Int) = (i : Int) + 1 := by omega
    obtain ⟨c, hc⟩ := hr L[i] (List.getElem_mem hi)
    have hdr : L.drop i = L[i] :: L.drop (i + 1) := List.drop_eq_getElem_cons hi
    rw [hand_Changed.l0, if_pos (by omega), if_pos (by omega), if_pos (by omega), rdP L i hi, gives_eq c L[i] a ha hc, Option.bind_some, gives_eq c L[i] b hb hc, Option.bind_some, ws _ (by omega) (by omega), ← e2, hdr]
    unfold diffs
    by_cases h : (givesS L[i] a).toList = (givesS L[i] b).toList
    · rw [if_pos h, if_pos h, changed_loop L a b ha hb hl hr d (i + 1) k acc (by omega) (by omega) (by omega)]
    · rw [if_neg h, if_neg h, if_pos (by omega), changed_loop L a b ha hb hl hr d (i + 1) k _ (by omega) (by simp; omega) (by omega)]
      simp
def changedP (a b : Int) (L : List S37) : List Int × Int := if rightL 0 L = true then (if (0 ≤ a ∧ a < 4) ∧ (0 ≤ b ∧ b < 4) then (diffs a b L 0, 0) else ([], 2)) else ([], 51)
theorem wrong_eq (a : Int) : hand_wrong.f a = some (!decide (0 ≤ a ∧ a < 4)) := by
  unfold hand_wrong.f
  by_cases h : a < 0
  · rw [if_pos h]
    have : ¬ (0 ≤ a ∧ a < 4) := by omega
    simp [this]
  · rw [if_neg h]
    by_cases h4 : a ≥ 4
    · have : ¬ (0 ≤ a ∧ a < 4) := by omega
      simp [this, h4]
    · have : (0 ≤ a ∧ a < 4) := by omega
      simp [this]
theorem changed_eq (L : List S37) (a b : Int) (hl : L.length ≤ 4398046511104) (k : Nat) (hk : L.length + 2 ≤ k) : hand_Changed.f k L a b = some (changedP a b L) := by
  unfold hand_Changed.f changedP
  obtain ⟨k, rfl⟩ : ∃ m, k = m + 1 := ⟨k - 1, by omega⟩
  rw [hands_eq L hl (k + 1) (by omega), Option.bind_some, wrong_eq, wrong_eq, Option.bind_some, Option.bind_some]
  by_cases hr : rightL 0 L = true
  · rw [if_pos hr, if_pos hr]
    dsimp only
    rw [if_pos rfl]
    by_cases ha : 0 ≤ a ∧ a < 4
    · rw [if_neg (by simp [ha])]
      by_cases hb : 0 ≤ b ∧ b < 4
      · rw [if_pos ⟨ha, hb⟩, hand_Changed.j0, if_neg (by simp [hb])]
        have := changed_loop L a b ha.1 hb.1 hl (right_mem L 0 hr) L.length 0 k [] (by omega) (by simp) (by omega)
        simpa using this
      · rw [if_neg (fun e => hb e.2), hand_Changed.j0, if_pos (by simp [hb])]
    · rw [if_pos (by simp [ha]), if_neg (fun e => ha e.1), hand_Changed.j0, if_pos rfl]
  · rw [if_neg hr, if_neg hr]
    dsimp only
    rw [if_neg (by decide)]
theorem refchanged_loop (L : List S37) (a b : Int) (ha : 0 ≤ a) (hb : 0 ≤ b) (hl : L.length ≤ 4398046511104) (hr : ∀ p ∈ L, ∃ b, rightB b p = true) : ∀ (d i k : Nat) (acc : List Int), i + d = L.length → acc.length ≤ i → d + 101 ≤ k →
    siglumref06_Changed.l0 k L a b acc (i : Int) = some (acc ++ diffs a b (L.drop i) i, 0)
  | 0, i, k, acc, hd, h0, hk => by
    obtain ⟨k, rfl⟩ : ∃ m, k = m + 1 := ⟨k - 1, by omega⟩
    rw [siglumref06_Changed.l0, if_neg (by omega), List.drop_of_length_le (by omega)]
    simp [diffs]
  | d + 1, i, k, acc, hd, h0, hk => by
    obtain ⟨k, rfl⟩ : ∃ m, k = m + 1 := ⟨k - 1, by omega⟩
    have hi : i < L.length := by omega
    have e2 : ((i + 1 : Nat) : Int) = (i : Int) + 1 := by omega
    obtain ⟨c, hc⟩ := hr L[i] (List.getElem_mem hi)
    have hdr : L.drop i = L[i] :: L.drop (i + 1) := List.drop_eq_getElem_cons hi
    rw [siglumref06_Changed.l0, if_pos (by omega), if_pos (by omega), rdP L i hi, refgives_eq c L[i] a ha hc k (by omega), Option.bind_some, refgives_eq c L[i] b hb hc k (by omega), Option.bind_some, ws _ (by omega) (by omega), ← e2, hdr]
    unfold diffs
    by_cases h : (givesS L[i] a).toList = (givesS L[i] b).toList
    · rw [if_pos h, if_pos h, refchanged_loop L a b ha hb hl hr d (i + 1) k acc (by omega) (by omega) (by omega)]
    · rw [if_neg h, if_neg h, if_pos (by omega), refchanged_loop L a b ha hb hl hr d (i + 1) k _ (by omega) (by simp; omega) (by omega)]
      simp
theorem refhand_eq (a : Int) : siglumref06_hand.f a = some (decide (0 ≤ a ∧ a < 4)) := by
  unfold siglumref06_hand.f
  by_cases h : a ≥ 0
  · rw [if_pos h]
    have : (0 ≤ a) := h
    simp [this]
  · rw [if_neg h]
    have : ¬ (0 ≤ a) := h
    simp [this]
theorem refchanged_eq (L : List S37) (a b : Int) (hl : L.length ≤ 4398046511104) (k : Nat) (hk : 3 * L.length + 103 ≤ k) : siglumref06_Changed.f k L a b = some (changedP a b L) := by
  unfold siglumref06_Changed.f changedP
  obtain ⟨k, rfl⟩ : ∃ m, k = m + 1 := ⟨k - 1, by omega⟩
  rw [ref_right_eq L hl (k + 1) (by omega), Option.bind_some, refhand_eq, refhand_eq, Option.bind_some, Option.bind_some]
  by_cases hr : rightL 0 L = true
  · rw [if_pos hr, if_pos hr]
    by_cases ha : 0 ≤ a ∧ a < 4
    · rw [if_pos (by simp [ha])]
      by_cases hb : 0 ≤ b ∧ b < 4
      · rw [if_pos ⟨ha, hb⟩, siglumref06_Changed.j0, if_neg (by simp [hb])]
        have := refchanged_loop L a b ha.1 hb.1 hl (right_mem L 0 hr) L.length 0 k [] (by omega) (by simp) (by omega)
        simpa using this
      · rw [if_neg (fun e => hb e.2), siglumref06_Changed.j0, if_pos (by simp [hb])]
    · rw [if_neg (by simp [ha]), if_neg (fun e => ha e.1), siglumref06_Changed.j0, if_pos rfl]
  · rw [if_neg hr, if_neg hr]
theorem same_loop (l : List Int) (hl : l.length ≤ 4398046511104) : ∀ (d i k : Nat), i + d = l.length → d + 1 ≤ k → siglumlaw06_HandChanges.l0 k l l (l.length : Int) (i : Int) = some true
  | 0, i, k, hd, hk => by
    obtain ⟨k, rfl⟩ : ∃ m, k = m + 1 := ⟨k - 1, by omega⟩
    rw [siglumlaw06_HandChanges.l0, if_neg (by omega)]
  | d + 1, i, k, hd, hk => by
    obtain ⟨k, rfl⟩ : ∃ m, k = m + 1 := ⟨k - 1, by omega⟩
    have e2 : ((i + 1 : Nat) : Int) = (i : Int) + 1 := by omega
    rw [siglumlaw06_HandChanges.l0, if_pos (by omega), if_pos (by omega), if_pos (by omega), if_pos (by omega), if_pos rfl, ws _ (by omega) (by omega), ← e2, same_loop l hl d (i + 1) k (by omega) (by omega)]
theorem diffs_len (a b : Int) : ∀ (L : List S37) (i : Nat), (diffs a b L i).length ≤ L.length
  | [], _ => Nat.le_refl _
  | p :: l, i => by
    unfold diffs
    have := diffs_len a b l (i + 1)
    split
    · rw [List.length_cons]; omega
    · rw [List.length_cons, List.length_cons]; omega
theorem changed_len (a b : Int) (L : List S37) : (changedP a b L).1.length ≤ L.length := by
  unfold changedP
  split
  · split
    · exact diffs_len a b L 0
    · exact Nat.zero_le _
  · exact Nat.zero_le _
theorem HandChanges (L : List S37) (a b : Int) (g : (∀ y ∈ L, (((Lit.int .i64 y.f0).wf = true) ∧ ((∀ z ∈ y.f1, (z.size ≤ 140737488351232)) ∧ y.f1.length * 16 ≤ 140737488351232) ∧ ((Lit.int .i64 y.f2).wf = true))) ∧ L.length * 40 ≤ 140737488351232) (_ : (Lit.int .i64 a).wf = true) (_ : (Lit.int .i64 b).wf = true) : ∃ k, siglumlaw06_HandChanges.f k L a b = some true := by
  have hl : L.length ≤ 4398046511104 := by omega
  refine ⟨3 * L.length + 104, ?_⟩
  unfold siglumlaw06_HandChanges.f
  have hc := changed_len a b L
  rw [awake6 _ (by omega), Option.bind_some, if_pos rfl, changed_eq L a b hl _ (by omega), Option.bind_some, refchanged_eq L a b hl _ (by omega), Option.bind_some, if_pos rfl, siglumlaw06_HandChanges.j0, if_neg (by simp)]
  exact same_loop (changedP a b L).1 (by omega) (changedP a b L).1.length 0 _ (by omega) (by omega)
theorem toList_inj {x y : ByteArray} (h : x.toList = y.toList) : x = y := by
  rw [toList_data, toList_data] at h
  apply ByteArray.ext
  exact Array.toList_inj.1 h
theorem diffs_nil (a b : Int) : ∀ (L : List S37) (i : Nat), diffs a b L i = [] → ∀ p ∈ L, givesS p a = givesS p b
  | [], _, _, p, hp => by cases hp
  | q :: l, i, h, p, hp => by
    unfold diffs at h
    by_cases e : (givesS q a).toList = (givesS q b).toList
    · rw [if_pos e] at h
      rcases List.mem_cons.1 hp with rfl | hp
      · exact toList_inj e
      · exact diffs_nil a b l (i + 1) h p hp
    · rw [if_neg e] at h
      cases h
theorem diffs_of (a b : Int) : ∀ (L : List S37) (i : Nat), (∀ p ∈ L, givesS p a = givesS p b) → diffs a b L i = []
  | [], _, _ => rfl
  | q :: l, i, h => by
    unfold diffs
    rw [if_pos (by rw [h q List.mem_cons_self])]
    exact diffs_of a b l (i + 1) fun p hp => h p (List.mem_cons_of_mem _ hp)
theorem okG_same (a b : Int) : ∀ (L : List S37) (n : Int), (∀ p ∈ L, givesS p a = givesS p b) → okG a L n = okG b L n
  | [], _, _ => rfl
  | q :: l, n, h => by
    rw [okG_cons, okG_cons, h q List.mem_cons_self, okG_same a b l _ fun p hp => h p (List.mem_cons_of_mem _ hp)]
theorem givesT_same (a b : Int) : ∀ (L : List S37), (∀ p ∈ L, givesS p a = givesS p b) → givesT a L = givesT b L
  | [], _ => rfl
  | q :: l, h => by
    have e : ∀ h : Int, givesT h (q :: l) = (givesS q h).data.toList ++ givesT h l := fun h => by simp [givesT]
    rw [e, e, h q List.mem_cons_self, givesT_same a b l fun p hp => h p (List.mem_cons_of_mem _ hp)]
theorem hands_ge : ∀ (L : List S37) (n : Int), n ≤ handsL n L
  | [], n => Int.le_refl _
  | p :: l, n => by
    unfold handsL
    have := hands_ge l (if p.f0 = 3 then max n (p.f1.length : Int) else n)
    split at this <;> rename_i h3
    · rw [if_pos h3]; omega
    · rw [if_neg h3]; exact this
theorem hands_mem : ∀ (L : List S37) (n : Int), ∀ p ∈ L, p.f0 = 3 → (p.f1.length : Int) ≤ handsL n L
  | [], _, p, hp, _ => by cases hp
  | q :: l, n, p, hp, h3 => by
    unfold handsL
    rcases List.mem_cons.1 hp with rfl | hp
    · rw [if_pos h3]
      have := hands_ge l (max n (p.f1.length : Int))
      omega
    · exact hands_mem l _ p hp h3
theorem hands_le : ∀ (L : List S37) (n a : Int), rightL a L = true → n ≤ 4 → handsL n L ≤ 4
  | [], n, _, _, h => h
  | p :: l, n, a, hr, h => by
    unfold rightL at hr
    rw [Bool.and_eq_true] at hr
    unfold handsL
    refine hands_le l _ _ hr.2 ?_
    split
    · rename_i h3
      have h1 := hr.1
      unfold rightB at h1
      rw [if_neg (by omega), if_neg (by omega), if_neg (by omega), if_pos h3] at h1
      simp at h1
      omega
    · exact h
theorem gives_last (c : Int) (p : S37) (n a b : Int) (hr : rightB c p = true) (hn : p.f0 = 3 → (p.f1.length : Int) ≤ n) (ha : n - 1 ≤ a) (hb : n - 1 ≤ b) (ha0 : 0 ≤ a) (hb0 : 0 ≤ b) : givesS p a = givesS p b := by
  unfold givesS givesP
  by_cases h2 : p.f0 = 2
  · rw [if_pos h2, if_pos h2]
  · rw [if_neg h2, if_neg h2]
    have hlen : (p.f1.length : Int) - 1 ≤ a ∧ (p.f1.length : Int) - 1 ≤ b := by
      by_cases h3 : p.f0 = 3
      · have := hn h3
        omega
      · unfold rightB at hr
        by_cases h1 : p.f0 = 1
        · rw [if_pos h1] at hr
          simp at hr
          omega
        · by_cases h4 : p.f0 = 4
          · rw [if_neg h1, if_pos h4] at hr
            simp at hr
            omega
          · rw [if_neg h1, if_neg h4, if_neg h2, if_neg h3] at hr
            cases hr
    rw [if_neg (by omega), if_neg (by omega)]
theorem HandLater (L : List S37) (a b : Int) (g : (∀ y ∈ L, (((Lit.int .i64 y.f0).wf = true) ∧ ((∀ z ∈ y.f1, (z.size ≤ 140737488351232)) ∧ y.f1.length * 16 ≤ 140737488351232) ∧ ((Lit.int .i64 y.f2).wf = true))) ∧ L.length * 40 ≤ 140737488351232) (_ : (Lit.int .i64 a).wf = true) (_ : (Lit.int .i64 b).wf = true) : ∃ k, siglumlaw06_HandLater.f k L a b = some true := by
  have hl : L.length ≤ 4398046511104 := by omega
  have hs : ∀ h : Int, rightL 0 L = true → ∀ p ∈ L, (givesS p h).size ≤ 140737488355328 := fun h hr p hp => by
    obtain ⟨c, hc⟩ := right_mem L 0 hr p hp
    exact gives_size c p h hc (g.1 p hp).2.1.1
  refine ⟨3 * L.length + 104, ?_⟩
  unfold siglumlaw06_HandLater.f
  have hj : ∀ k, siglumlaw06_HandLater.j0 (k + 1) L a b true = some true := fun k => by rw [siglumlaw06_HandLater.j0, if_pos rfl]
  rw [awake6 _ (by omega), Option.bind_some, if_pos rfl, hj]
  by_cases h1 : a < 0
  · rw [if_pos h1]
  rw [if_neg h1]
  by_cases h2 : a ≥ 4
  · rw [if_pos h2]
  rw [if_neg h2]
  by_cases h3 : b < 0
  · rw [if_pos h3]
  rw [if_neg h3]
  by_cases h4 : b ≥ 4
  · rw [if_pos h4]
  rw [if_neg h4, ref_right_eq L hl _ (by omega), Option.bind_some]
  by_cases hr : rightL 0 L = true
  · have hcp : changedP a b L = (diffs a b L 0, 0) := by
      unfold changedP
      rw [if_pos hr, if_pos (by omega)]
    have hhl := hands_le L 1 0 hr (by omega)
    have hhg := hands_ge L 1
    have hlast : ¬ (a < handsL 1 L - 1) → ¬ (b < handsL 1 L - 1) → diffs a b L 0 = [] := fun ea eb => diffs_of a b L 0 fun p hp => by
      obtain ⟨c, hc⟩ := right_mem L 0 hr p hp
      exact gives_last c p (handsL 1 L) a b hc (hands_mem L 1 p hp) (by omega) (by omega) (by omega) (by omega)
    rw [hr, siglumlaw06_HandLater.j0, if_neg (by decide), changed_eq L a b hl _ (by omega), Option.bind_some, read_eq L a hl (hs a) _ (by omega), Option.bind_some, read_eq L b hl (hs b) _ (by omega), Option.bind_some, hcp]
    dsimp only
    rw [if_pos rfl, hands_eq L hl _ (by omega), if_pos hr, Option.bind_some]
    dsimp only
    rw [ws (handsL 1 L - 1) (by omega) (by omega)]
    have hend : (if a < handsL 1 L - 1 then some true else if b < handsL 1 L - 1 then some true else some (((diffs a b L 0).length : Int) == 0)) = some true := by
      by_cases ea : a < handsL 1 L - 1
      · rw [if_pos ea]
      · rw [if_neg ea]
        by_cases eb : b < handsL 1 L - 1
        · rw [if_pos eb]
        · rw [if_neg eb, hlast ea eb]
          rfl
    rw [hend]
    by_cases h0 : ((diffs a b L 0).length : Int) = 0
    · have hnil : diffs a b L 0 = [] := List.eq_nil_of_length_eq_zero (by omega)
      have hsame := diffs_nil a b L 0 hnil
      have hrd : readP a L = readP b L := by
        unfold readP
        rw [if_pos hr, if_pos hr, if_pos (show 0 ≤ a ∧ a < 4 by omega), if_pos (show 0 ≤ b ∧ b < 4 by omega), okG_same a b L 0 hsame, givesT_same a b L hsame]
      rw [if_pos h0, hrd, if_pos rfl, if_pos rfl]
    · rw [if_neg h0]
  · have hf : rightL 0 L = false := by simpa using hr
    rw [hf]
    exact hj _
end Go.Proofs.Ytpmiaaphmgoapaa.Pure
