/-
  The document's tokens, cell by cell, are the program's: both as one plain function of the cells' kinds.
-/
import Derived.Test.YtalogampkkjcdaaDoorCFacts
import Derived.Test.YtalogampkkjcdaaDoorCKind
import Derived.Test.YtalogampkkjcdaaDoorCx7
import Derived.Test.YtalogampkkjcdaaDoorCx9
import Derived.Test.YtalogampkkjcdaaDoorCx10
namespace Go.Proofs.YtalogampkkjcdaaDoor.Pure
open Go.RowKit Go.Proofs.YtalogampkkjcdaaDoor.C Go.Proofs.YtalogampkkjcdaaDoorW.PrintWords Go.Proofs.YtalogampkkjcdaaDoorW.PrintLast

/-- A cell's kind. -/
def kc (c : S75) : Int := if c.f3 = true then 1 else kindOf' c.f2
  where kindOf' := Pl.kindOf
theorem cell_kc (k : Nat) (c : S75) (h : 8 ≤ k) : kind_Cell.f k c.f0 c.f1 c.f2 c.f3 c.f4 = some (kc c) := Pl.cell_ge k _ _ _ _ _ h
theorem ref_kc (k : Nat) (c : S75) (h : 16 ≤ k) : siglumref02_Cell.f k c.f0 c.f1 c.f2 c.f3 c.f4 = some (kc c) := Pl.refcell_ge k _ _ _ _ _ h
/-- The kinds of cells, and what stands behind them. -/
def kinds (L : List S75) : List Int := L.map kc ++ [-1]
theorem kindsL_map : ∀ L : List S75, kindsL L = some (L.map kc)
  | [] => rfl
  | c :: L => by rw [kindsL, cell_kc 16 c (by omega), Option.bind_some, kindsL_map L]; rfl
/-- A text's tokens. -/
def toks (s : ByteArray) : List S51 := tokL s 0 (gCells s s.size 0) (kinds (gCells s s.size 0)) (gCells s s.size 0).length 0
theorem scan_some (s : ByteArray) (h : s.size ≤ 65536) : scan_Tokens.f s = some (toks s, 0) := by
  unfold scan_Tokens.f scan_tokens.f
  rw [if_neg (by omega), if_pos ⟨by omega, by omega, by omega⟩, kindsL_map]
  rfl
theorem scan_long (s : ByteArray) (h : ¬ s.size ≤ 65536) : scan_Tokens.f s = some ([], 1) := by
  unfold scan_Tokens.f
  rw [if_pos (by omega)]
section
variable (L : List S75)
theorem kinds_len : (kinds L).length = L.length + 1 := by simp [kinds]
theorem kinds_at (i : Nat) (h : i < L.length) : rd (kinds L) (i : Int) = kc L[i] := by
  rw [rd_get _ i (by rw [kinds_len]; omega)]
  unfold kinds
  rw [List.getElem_append_left (by simpa using h), List.getElem_map]
theorem kinds_last : rd (kinds L) (L.length : Int) = -1 := by
  rw [rd_get _ L.length (by rw [kinds_len]; omega)]
  unfold kinds
  rw [List.getElem_append_right (by simp)]
  simp
theorem kinds_rest (i : Nat) (h : L.length ≤ i) : rd (kinds L) (i : Int) = -1 ∨ rd (kinds L) (i : Int) = 0 := kinds_end (L.map kc) L.length (List.length_map _) i h
theorem kinds_dead (i : Nat) (h : L.length ≤ i) : wordyB (rd (kinds L) (i : Int)) = false ∧ rd (kinds L) (i : Int) ≠ 4 ∧ rd (kinds L) (i : Int) ≠ 5 := by
  rcases kinds_rest L i h with e | e <;> (rw [e]; decide)
theorem ref_wordy (k : Nat) (c : S75) (h : 16 ≤ k) : siglumref04_wordy.f k c.f0 c.f1 c.f2 c.f3 c.f4 = some (wordyB (kc c)) := by
  unfold siglumref04_wordy.f wordyB
  rw [ref_kc k c h, Option.bind_some]
  by_cases h1 : kc c = 1
  · simp [h1]
  · by_cases h2 : kc c = 2
    · simp [h2]
    · simp [h1, h2]; rfl
theorem word_eq (hL : L.length ≤ 4294967296) : ∀ f i k, i ≤ L.length → L.length + 1 ≤ i + f → f + 20 ≤ k → siglumref04_word.l0 k L (i : Int) = some ((wordE (kinds L) f i : Nat) : Int) := by
  intro f
  induction f using Nat.strongRecOn with
  | _ f ih =>
    intro i k hi hf hk
    obtain ⟨f, rfl⟩ : ∃ g, f = g + 1 := ⟨f - 1, by omega⟩
    obtain ⟨k, rfl⟩ : ∃ g, k = g + 1 := ⟨k - 1, by omega⟩
    rw [siglumref04_word.l0, wordE]
    by_cases h : i < L.length
    · rw [if_pos (by omega), if_pos (by omega), Pl.get_rd L i h, ref_wordy k _ (by omega), Option.bind_some, ref_kc k _ (by omega), Option.bind_some, kinds_at L i h, Pl.wrap_id ((i : Int) + 1) (by omega) (by omega), Pl.wrap_id ((i : Int) + 2) (by omega) (by omega)]
      have e1 : (i : Int) + 1 = ((i + 1 : Nat) : Int) := rfl
      by_cases hw : wordyB (kc L[i]) = true
      · rw [if_pos hw, if_pos hw, e1]
        exact ih f (by omega) (i + 1) k (by omega) (by omega) (by omega)
      · rw [if_neg hw, if_neg hw]
        by_cases h4 : kc L[i] = 4
        · rw [if_pos h4]
          by_cases h2 : i + 1 < L.length
          · rw [if_pos (by omega), if_pos (by omega), e1, Pl.get_rd L (i + 1) h2, ref_wordy k _ (by omega), Option.bind_some, kinds_at L (i + 1) h2]
            by_cases hw2 : wordyB (kc L[i + 1]) = true
            · rw [if_pos hw2, if_pos ⟨h4, hw2⟩]
              obtain ⟨f, rfl⟩ : ∃ g, f = g + 1 := ⟨f - 1, by omega⟩
              rw [wordE, if_pos (by rw [kinds_at L (i + 1) h2]; exact hw2)]
              exact ih f (by omega) (i + 2) k (by omega) (by omega) (by omega)
            · rw [if_neg hw2, if_neg (fun x => hw2 x.2)]
          · rw [if_neg (by omega), if_neg (fun x => by have := (kinds_dead L (i + 1) (by omega)).1; rw [this] at x; exact absurd x.2 (by decide))]
        · rw [if_neg h4, if_neg (fun x => h4 x.1)]
    · have hd := kinds_dead L i (by omega)
      rw [if_neg (by omega), if_neg (by rw [hd.1]; decide), if_neg (fun x => hd.2.1 x.1)]
theorem blank_eq (hL : L.length ≤ 4294967296) : ∀ f i k, i ≤ L.length → L.length + 1 ≤ i + f → f + 20 ≤ k → siglumref04_token.l0 k L (i : Int) = some (2, ((blankE (kinds L) f i : Nat) : Int))
  | 0, i, k, hi, hf, _ => by omega
  | f + 1, i, k, hi, hf, hk => by
    obtain ⟨k, rfl⟩ : ∃ g, k = g + 1 := ⟨k - 1, by omega⟩
    rw [siglumref04_token.l0, blankE]
    by_cases h : i < L.length
    · rw [if_pos (by omega), if_pos (by omega), Pl.get_rd L i h, ref_kc k _ (by omega), Option.bind_some, kinds_at L i h, Pl.wrap_id ((i : Int) + 1) (by omega) (by omega)]
      have e1 : (i : Int) + 1 = ((i + 1 : Nat) : Int) := rfl
      by_cases h5 : kc L[i] = 5
      · rw [if_pos h5, if_pos h5, e1]
        exact blank_eq hL f (i + 1) k (by omega) (by omega) (by omega)
      · rw [if_neg h5, if_neg h5]
    · rw [if_neg (by omega), if_neg (kinds_dead L i (by omega)).2.2]
theorem token_eq (hL : L.length ≤ 4294967296) (i k : Nat) (h : i < L.length) (hk : L.length + 30 ≤ k) : siglumref04_token.f k L (i : Int) = some ((tokS L (kinds L) i).1, ((tokS L (kinds L) i).2 : Int)) := by
  unfold siglumref04_token.f siglumref04_word.f tokS
  rw [if_pos (by omega), if_pos (by omega), Pl.get_rd L i h, ref_kc k _ (by omega), Option.bind_some, ref_wordy k _ (by omega), Option.bind_some, kinds_at L i h, word_eq L hL (L.length + 1) i k (by omega) (by omega) (by omega), blank_eq L hL (L.length + 1) i k (by omega) (by omega) (by omega), Pl.wrap_id ((i : Int) + 1) (by omega) (by omega), Pl.wrap_id ((i : Int) + 2) (by omega) (by omega)]
  have e1 : (i : Int) + 1 = ((i + 1 : Nat) : Int) := rfl
  have e2 : (i : Int) + 2 = ((i + 2 : Nat) : Int) := rfl
  rw [Option.bind_some, e1, e2]
  by_cases hw : wordyB (kc L[i]) = true
  · rw [if_pos hw, if_pos hw]
  · rw [if_neg hw, if_neg hw]
    by_cases h5 : kc L[i] = 5
    · rw [if_pos h5, if_pos h5]
    · rw [if_neg h5, if_neg h5]
      by_cases h6 : kc L[i] = 6
      · rw [if_pos h6, if_pos h6]
        by_cases h13 : L[i].f2 = 13
        · rw [if_pos h13]
          by_cases hn : i + 1 < L.length
          · rw [if_pos (by omega), if_pos (by omega)]
            by_cases h10 : (rd_T75 L ((i + 1 : Nat) : Int)).f2 = 10
            · rw [if_pos h10, if_pos ⟨h13, hn, h10⟩]
            · rw [if_neg h10, if_neg (fun x => h10 x.2.2)]
          · rw [if_neg (by omega), if_neg (fun x => hn x.2.1)]
        · rw [if_neg h13, if_neg (fun x => h13 x.1)]
      · rw [if_neg h6, if_neg h6]
        by_cases h7 : kc L[i] = 7
        · rw [if_pos h7, if_pos (.inl h7)]
        · rw [if_neg h7]
          by_cases h4 : kc L[i] = 4
          · rw [if_pos h4, if_pos (.inr h4)]
          · rw [if_neg h4, if_neg (fun x => x.elim h7 h4)]
end
theorem toks_loop (s : ByteArray) (hs : s.size ≤ 65536) (L : List S75) (hL : gCells s s.size 0 = L) (hl : L.length ≤ 65536) : ∀ f i k acc, i ≤ L.length → L.length ≤ i + f → acc.length ≤ i → f + L.length + 40 ≤ k →
    siglumref04_Tokens.l0 k s L acc (i : Int) = some (acc ++ tokL s 0 L (kinds L) f i, 0)
  | f, i, k, acc, hi, hf, ha, hk => by
    obtain ⟨k, rfl⟩ : ∃ g, k = g + 1 := ⟨k - 1, by omega⟩
    rw [siglumref04_Tokens.l0]
    by_cases h : i < L.length
    · obtain ⟨f, rfl⟩ : ∃ g, f = g + 1 := ⟨f - 1, by omega⟩
      have hin := cells_in s s.size 0 (Nat.zero_le _)
      have hinc := cells_inc s s.size 0 (Nat.zero_le _)
      rw [hL] at hin hinc
      obtain ⟨h1, h2⟩ := tokS_le L (kinds L) (kinds_rest L) i h
      obtain ⟨⟨t, n⟩, hT⟩ : ∃ T, tokS L (kinds L) i = T := ⟨_, rfl⟩
      rw [if_pos (by omega), token_eq L (by omega) i k h (by omega), Option.bind_some, tokL_step s 0 L (kinds L) f i h t n hT, hT]
      rw [hT] at h1 h2
      dsimp only at h1 h2 ⊢
      have hi0 := (hin i h).1
      have hi1 := (hin i h).2
      have ih := toks_loop s hs L hL hl f n k (acc ++ [tok1 s 0 L t i n]) h2 (by omega) (by rw [List.length_append]; simp; omega) (by omega)
      rw [List.append_assoc, List.singleton_append] at ih
      rw [← ih]
      unfold tok1 cellAt
      rw [Int.zero_add, Pl.get_rd L i h]
      by_cases hn : n < L.length
      · have hn0 := hinc i n h hn h1
        have hn1 := (hin n hn).2
        rw [if_pos hn, if_pos (by omega), if_pos (by omega), if_pos (by omega), if_pos (by omega), Pl.get_rd L n hn, if_pos (by omega), if_pos (by omega), if_pos (by omega)]
      · rw [if_neg hn, if_neg (by omega), if_pos (by omega), if_pos (by omega), if_pos (by omega), if_pos (Int.le_refl _), if_pos (by omega)]
    · rw [if_neg (by omega), tokL_end _ _ _ _ _ _ h, List.append_nil]
  termination_by f => f
theorem ref_some (s : ByteArray) (k : Nat) (h : s.size ≤ 65536) (hk : 2 * s.size + 100 ≤ k) : siglumref04_Tokens.f k s = some (toks s, 0) := by
  have hl := gCells_len s s.size 0
  have := toks_loop s h _ rfl (by omega) (gCells s s.size 0).length 0 k [] (Nat.zero_le _) (by omega) (Nat.zero_le _) (by omega)
  unfold siglumref04_Tokens.f
  rw [if_neg (by omega), Pl.cells_eq k s (by omega) (by omega), Option.bind_some]
  exact this
theorem ref_long (s : ByteArray) (k : Nat) (h : ¬ s.size ≤ 65536) : siglumref04_Tokens.f k s = some ([], 1) := by
  unfold siglumref04_Tokens.f
  rw [if_pos (by omega)]
theorem toks_len (s : ByteArray) : (toks s).length ≤ (gCells s s.size 0).length := by
  have : ∀ (L : List S75) (K : List Int) f i, (tokL s 0 L K f i).length ≤ f := by
    intro L K f
    induction f with
    | zero => intro i; exact Nat.le_refl _
    | succ f ih =>
      intro i
      unfold tokL
      split
      · rw [List.length_cons]; exact Nat.succ_le_succ (ih _)
      · exact Nat.zero_le _
  exact this _ _ _ _
theorem same_loop (l : List S51) (hl : l.length ≤ 4294967296) : ∀ d i k, i + d = l.length → d + 1 ≤ k → siglumref04_Same.l0 k l l (i : Int) = some true
  | d, i, k, hd, hk => by
    obtain ⟨k, rfl⟩ : ∃ g, k = g + 1 := ⟨k - 1, by omega⟩
    rw [siglumref04_Same.l0]
    by_cases h : i < l.length
    · obtain ⟨d, rfl⟩ : ∃ g, d = g + 1 := ⟨d - 1, by omega⟩
      have ih := same_loop l hl d (i + 1) k (by omega) (by omega)
      rw [if_pos (by omega), if_pos (by omega), if_pos (by omega), Pl.wrap_id ((i : Int) + 1) (by omega) (by omega), if_neg (by simp)]
      exact ih
    · rw [if_neg (by omega)]
  termination_by d => d
theorem same_eq (l : List S51) (k : Nat) (hl : l.length ≤ 4294967296) (hk : l.length + 1 ≤ k) : siglumref04_Same.f k l l = some true := by
  unfold siglumref04_Same.f
  rw [if_pos rfl]
  exact same_loop l hl l.length 0 k (by omega) hk
theorem scan_awake : siglumlaw04_awake.f = some true := by decide +kernel
end Go.Proofs.YtalogampkkjcdaaDoor.Pure
