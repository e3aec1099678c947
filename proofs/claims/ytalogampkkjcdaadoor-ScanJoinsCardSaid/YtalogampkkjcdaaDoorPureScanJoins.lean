/-
  The tokens are the text, place by place; no two words and no two blanks stand side by side.
-/
import Derived.Test.YtalogampkkjcdaaDoorPureScan
import Derived.Test.YtalogampkkjcdaaDoorCx11
namespace Go.Proofs.YtalogampkkjcdaaDoor.Pure
open Go.RowKit Go.Proofs.YtalogampkkjcdaaDoor.C Go.Proofs.YtalogampkkjcdaaDoorW.PrintWords Go.Proofs.YtalogampkkjcdaaDoorW.PrintLast
section
variable (L : List S75)
theorem wordE_stop : ∀ f i, i ≤ L.length → L.length + 1 ≤ i + f → wordyB (rd (kinds L) (wordE (kinds L) f i : Nat)) = false
  | 0, i, h, hf => by omega
  | f + 1, i, h, hf => by
    by_cases hi : i < L.length
    · unfold wordE
      by_cases hw : wordyB (rd (kinds L) (i : Int)) = true
      · rw [if_pos hw]; exact wordE_stop f (i + 1) hi (by omega)
      · rw [if_neg hw]
        split
        · exact wordE_stop f (i + 1) hi (by omega)
        · exact Bool.eq_false_iff.2 hw
    · have hd := kinds_dead L i (by omega)
      rw [wordE, if_neg (by rw [hd.1]; decide), if_neg (fun x => hd.2.1 x.1)]
      exact hd.1
theorem blankE_stop : ∀ f i, i ≤ L.length → L.length + 1 ≤ i + f → rd (kinds L) (blankE (kinds L) f i : Nat) ≠ 5
  | 0, i, h, hf => by omega
  | f + 1, i, h, hf => by
    by_cases hi : i < L.length
    · unfold blankE
      by_cases hw : rd (kinds L) (i : Int) = 5
      · rw [if_pos hw]; exact blankE_stop f (i + 1) hi (by omega)
      · rw [if_neg hw]; exact hw
    · have hd := kinds_dead L i (by omega)
      rw [blankE, if_neg hd.2.2]
      exact hd.2.2
theorem tokS_kind (i : Nat) (hi : i < L.length) : 1 ≤ (tokS L (kinds L) i).1 ∧ (tokS L (kinds L) i).1 ≤ 5 ∧
    ((tokS L (kinds L) i).1 = 1 → wordyB (rd (kinds L) (i : Int)) = true ∧ wordyB (rd (kinds L) ((tokS L (kinds L) i).2 : Nat)) = false) ∧
    ((tokS L (kinds L) i).1 = 2 → rd (kinds L) (i : Int) = 5 ∧ rd (kinds L) ((tokS L (kinds L) i).2 : Nat) ≠ 5) := by
  unfold tokS
  by_cases hw : wordyB (rd (kinds L) (i : Int)) = true
  · rw [if_pos hw]
    dsimp only
    exact ⟨by decide, by decide, (fun _ => ⟨hw, wordE_stop L _ i (by omega) (by omega)⟩), (fun h => absurd h (by decide))⟩
  · rw [if_neg hw]
    by_cases h5 : rd (kinds L) (i : Int) = 5
    · rw [if_pos h5]
      dsimp only
      exact ⟨by decide, by decide, (fun h => absurd h (by decide)), (fun _ => ⟨h5, blankE_stop L _ i (by omega) (by omega)⟩)⟩
    · rw [if_neg h5]
      by_cases h6 : rd (kinds L) (i : Int) = 6
      · rw [if_pos h6]
        dsimp only
        exact ⟨by decide, by decide, (fun h => absurd h (by decide)), (fun h => absurd h (by decide))⟩
      · rw [if_neg h6]
        by_cases h7 : rd (kinds L) (i : Int) = 7 ∨ rd (kinds L) (i : Int) = 4
        · rw [if_pos h7]
          dsimp only
          exact ⟨by decide, by decide, (fun h => absurd h (by decide)), (fun h => absurd h (by decide))⟩
        · rw [if_neg h7]
          dsimp only
          exact ⟨by decide, by decide, (fun h => absurd h (by decide)), (fun h => absurd h (by decide))⟩
end
theorem get_tok (l : List S51) (i : Nat) (h : i < l.length) : rd_T51 l (i : Int) = l[i] := by
  unfold rd_T51
  rw [Int.toNat_natCast, List.getD_eq_getElem?_getD, List.getElem?_eq_getElem h]
  rfl
theorem cell_first (s : ByteArray) : cellAt s (gCells s s.size 0) 0 = 0 := by
  unfold cellAt
  by_cases h : 0 < s.size
  · obtain ⟨f, hf⟩ : ∃ f, s.size = f + 1 := ⟨s.size - 1, by omega⟩
    have e : gCells s s.size 0 = gCell s 0 :: gCells s f (0 + (Utf8.decode s 0).2) := by
      have := gCells_step s f 0 h
      rw [← hf] at this
      exact this
    rw [e, if_pos (by simp)]
    rfl
  · have h0 : s.size = 0 := by omega
    rw [gCells_end s s.size 0 h, if_neg (by simp), h0]
    rfl
theorem slice_len (s : ByteArray) (a b : Int) (h0 : 0 ≤ a) (h1 : a ≤ b) (h2 : b ≤ (s.size : Int)) : ((s.extract a.toNat b.toNat).size : Int) = b - a := by
  rw [ByteArray.size_extract]
  omega
theorem joins_loop (s : ByteArray) (hs : s.size ≤ 65536) (L : List S75) (hL : gCells s s.size 0 = L) (hl : L.length ≤ 65536) (T : List S51) (hT : T.length ≤ 65536) : ∀ f i k (pre : List S51), i ≤ L.length → L.length ≤ i + f → pre ++ tokL s 0 L (kinds L) f i = T → 2 * f + 4 ≤ k →
    (∀ p : S51, pre.getLast? = some p → (p.f0 = 1 → wordyB (rd (kinds L) (i : Int)) = false) ∧ (p.f0 = 2 → rd (kinds L) (i : Int) ≠ 5)) →
    siglumlaw04_ScanJoins.l0 k s T 0 (cellAt s L i) T (T.length : Int) (pre.length : Int) = some true
  | f, i, k, pre, hi, hf, hp, hk, hlast => by
    obtain ⟨k, rfl⟩ : ∃ g, k = g + 2 := ⟨k - 2, by omega⟩
    rw [siglumlaw04_ScanJoins.l0]
    by_cases h : i < L.length
    · obtain ⟨f, rfl⟩ : ∃ g, f = g + 1 := ⟨f - 1, by omega⟩
      have hin := cells_in s s.size 0 (Nat.zero_le _)
      have hinc := cells_inc s s.size 0 (Nat.zero_le _)
      rw [hL] at hin hinc
      obtain ⟨⟨t, n⟩, hS⟩ : ∃ S, tokS L (kinds L) i = S := ⟨_, rfl⟩
      obtain ⟨h1, h2⟩ := tokS_le L (kinds L) (kinds_rest L) i h
      obtain ⟨k1, k2, k3, k4⟩ := tokS_kind L i h
      rw [tokL_step s 0 L (kinds L) f i h t n hS] at hp
      rw [hS] at h1 h2 k1 k2 k3 k4
      dsimp only at h1 h2 k1 k2 k3 k4
      have hlen : pre.length < T.length := by rw [← hp]; simp
      have hget : T[pre.length] = tok1 s 0 L t i n := by subst hp; simp
      have hi0 := (hin i h).1
      have hi1 := (hin i h).2
      have hA : cellAt s L i = L[i].f0 := by unfold cellAt; rw [if_pos h, Pl.get_rd L i h]
      have hB : L[i].f0 < cellAt s L n ∧ cellAt s L n ≤ (s.size : Int) := by
        unfold cellAt
        by_cases hn : n < L.length
        · rw [if_pos hn, Pl.get_rd L n hn]
          exact ⟨hinc i n h hn h1, Int.le_of_lt (hin n hn).2⟩
        · rw [if_neg hn]
          exact ⟨hi1, Int.le_refl _⟩
      obtain ⟨a, ha⟩ : ∃ a, L[i].f0 = a := ⟨_, rfl⟩
      obtain ⟨b, hb⟩ : ∃ b, cellAt s L n = b := ⟨_, rfl⟩
      have htok : tok1 s 0 L t i n = ⟨t, a, s.extract a.toNat b.toNat⟩ := by unfold tok1; rw [Pl.get_rd L i h, ha, hb, Int.zero_add]
      rw [ha] at hA hB hi0 hi1
      rw [hb] at hB
      have hsz := slice_len s a b (by omega) (by omega) hB.2
      have ih := joins_loop s hs L hL hl T hT f n k (pre ++ [tok1 s 0 L t i n]) h2 (by omega) (by rw [List.append_assoc, List.singleton_append]; exact hp) (by omega) (by
        intro p hpp
        rw [List.getLast?_append] at hpp
        simp at hpp
        subst hpp
        rw [htok]
        exact ⟨fun e => (k3 e).2, fun e => (k4 e).2⟩)
      rw [List.length_append, List.length_singleton, hb] at ih
      have hne : (s.extract a.toNat b.toNat).toList ≠ ([] : List UInt8) := fun e => by
        have := congrArg List.length e
        rw [ByteArray.toList_eq, Array.length_toList] at this
        have hz : (s.extract a.toNat b.toNat).size = 0 := this
        omega
      rw [if_pos (by omega), if_pos (by omega), if_pos (by omega), get_tok T pre.length hlen, hget, htok]
      dsimp only
      rw [hA, if_pos rfl, if_neg hne, Pl.wrap_id ((s.size : Int) - a) (by omega) (by omega), hsz, show a + (b - a) = b from by omega, Pl.wrap_id b (by omega) (by omega), if_neg (by omega), if_pos (by omega), if_pos (by omega), if_pos (by omega), if_pos rfl, if_neg (by omega), decide_eq_false (by omega), siglumlaw04_ScanJoins.j1, if_neg (by decide), Pl.wrap_id (((pre.length : Nat) : Int) + 1) (by omega) (by omega), hsz, show a + (b - a) = b from by omega, Pl.wrap_id b (by omega) (by omega)]
      have ih2 : siglumlaw04_ScanJoins.l0 k s T 0 b T (T.length : Int) ((pre.length : Int) + 1) = some true := ih
      rw [ih2]
      by_cases hm : pre = []
      · subst hm
        rw [if_neg (by simp)]
      · have hm2 : 0 < pre.length := List.length_pos_iff.2 hm
        have hT2 : rd_T51 T ((pre.length : Int) - 1) = pre.getLast hm := by
          rw [show (pre.length : Int) - 1 = ((pre.length - 1 : Nat) : Int) from by omega, get_tok T _ (by omega), List.getLast_eq_getElem]
          subst hp
          exact List.getElem_append_left (by omega)
        have hq := hlast (pre.getLast hm) (List.getLast?_eq_some_getLast hm)
        rw [if_pos (by omega), Pl.wrap_id ((pre.length : Int) - 1) (by omega) (by omega), if_pos (by omega), if_pos (by omega), hT2]
        by_cases he : t = (pre.getLast hm).f0
        · rw [if_pos he, if_neg ?_]
          intro h2'
          have ht : t = 1 ∨ t = 2 := by omega
          rcases ht with ht | ht
          · have := hq.1 (he.symm.trans ht)
            rw [(k3 ht).1] at this
            cases this
          · exact hq.2 (he.symm.trans ht) (k4 ht).1
        · rw [if_neg he]
    · rw [tokL_end _ _ _ _ _ _ h, List.append_nil] at hp
      subst hp
      have hA : cellAt s L i = (s.size : Int) := by unfold cellAt; rw [if_neg h]
      rw [if_neg (by omega), if_pos rfl, hA]
      simp
  termination_by f => f
theorem ScanJoins (a0 : ByteArray) (_ : a0.size ≤ maxLen) (_ : a0.size ≤ 140737488351232) : ∃ k, siglumlaw04_ScanJoins.f k a0 = some true := by
  refine ⟨2 * a0.size + 200, ?_⟩
  unfold siglumlaw04_ScanJoins.f
  rw [scan_awake, Option.bind_some, if_pos rfl]
  by_cases h : a0.size ≤ 65536
  · have hl := gCells_len a0 a0.size 0
    have h2 := toks_len a0
    have := joins_loop a0 h _ rfl (by omega) (toks a0) (by omega) (gCells a0 a0.size 0).length 0 (2 * a0.size + 200) [] (Nat.zero_le _) (by omega) rfl (by omega) (fun p hp => by cases hp)
    rw [cell_first] at this
    rw [scan_some a0 h, Option.bind_some, if_neg (by omega)]
    exact this
  · rw [scan_long a0 h, Option.bind_some, if_pos (by omega)]
    rfl
end Go.Proofs.YtalogampkkjcdaaDoor.Pure
