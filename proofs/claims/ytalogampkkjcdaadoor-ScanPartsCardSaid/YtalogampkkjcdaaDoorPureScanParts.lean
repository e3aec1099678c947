/-
  A newline parts two texts: cells, kinds, tokens.
-/
import Derived.Test.YtalogampkkjcdaaDoorPureScan
import Derived.Test.YtalogampkkjcdaaDoorPureCut
import Derived.Test.YtalogampkkjcdaaDoorFx7
namespace Go.Proofs.YtalogampkkjcdaaDoor.Pure
open Go.RowKit Go.Proofs.YtalogampkkjcdaaDoor.F Go.Proofs.YtalogampkkjcdaaDoorW.PrintWords Go.Proofs.YtalogampkkjcdaaDoorW.PrintLast
theorem cell_first (s : ByteArray) : cellAt s (gCells s s.size 0) 0 = 0 := by
  have := cellAt_pos s 0 (Nat.zero_le _)
  exact this
/-- Two texts with a newline between them. -/
def nl (s t : ByteArray) : ByteArray := (s ++ (⟨#[10]⟩ : ByteArray)) ++ t
theorem nl_size (s t : ByteArray) : (nl s t).size = s.size + 1 + t.size := by
  unfold nl
  rw [ByteArray.size_append, ByteArray.size_append]
  rfl
theorem nl_head (s t : ByteArray) (i : Nat) (h : i < s.size) : s.get! i = (nl s t).get! i := by
  have h1 : (s ++ (⟨#[10]⟩ : ByteArray)).size = s.size + 1 := by rw [ByteArray.size_append]; rfl
  unfold nl
  rw [get_append _ _ i (by omega), get_append _ _ i h]
theorem nl_mid (s t : ByteArray) : (nl s t).get! s.size = 10 := by
  have h1 : (s ++ (⟨#[10]⟩ : ByteArray)).size = s.size + 1 := by rw [ByteArray.size_append]; rfl
  unfold nl
  rw [get_append _ _ s.size (by omega), Utf.get_lt _ _ (by omega), ByteArray.getElem_append_right (Nat.le_refl _)]
  simp
  rfl
theorem nl_tail (s t : ByteArray) : (nl s t).extract (s.size + 1) (nl s t).size = t := by
  have h1 : (s ++ (⟨#[10]⟩ : ByteArray)).size = s.size + 1 := by rw [ByteArray.size_append]; rfl
  rw [nl_size]
  unfold nl
  rw [ByteArray.extract_append_eq_right h1.symm (by rw [h1])]
theorem dec_nl (s t : ByteArray) (p : Nat) (hp : p < s.size) : Utf8.decode s p = Utf8.decode (nl s t) p := by
  have hz2 := nl_size s t
  have ga := nl_head s t
  have g10 := nl_mid s t
  rw [Lib.decode_at, Lib.decode_at, hz2, ga p hp]
  refine dec_same _ _ _ _ _ _ _ _ _ (by omega) (by omega) (Utf.byte_lt _ _) (Utf.byte_lt _ _) (Utf.byte_lt _ _) (Utf.byte_lt _ _) (Utf.byte_lt _ _) (Utf.byte_lt _ _) (Utf.byte_lt _ _) (fun h => by rw [ga _ (by omega)]) (fun h => by rw [ga _ (by omega)]) (fun h => by rw [ga _ (by omega)]) ?_
  by_cases c4 : 4 ≤ s.size - p
  · left
    intro h
    have := h.1
    unfold Pl.want at this
    repeat' split at this
    all_goals omega
  · right
    have hd : s.size = p + 1 ∨ s.size = p + 2 ∨ s.size = p + 3 := by omega
    rcases hd with e | e | e
    · left
      exact ⟨by omega, by rw [← e, g10]; decide⟩
    · right; left
      exact ⟨by omega, by rw [← e, g10]; decide⟩
    · right; right
      exact ⟨by omega, by rw [← e, g10]; decide⟩
theorem cells_head (s t : ByteArray) : ∀ f i g, s.size ≤ i + f → i ≤ s.size → (nl s t).size ≤ i + g → gCells (nl s t) g i = gCells s f i ++ gCells (nl s t) (nl s t).size s.size
  | 0, i, g, hf, hi, hg => by
    have e : i = s.size := by omega
    subst e
    exact gCells_more _ _ _ _ (by omega) (by omega)
  | f + 1, i, g, hf, hi, hg => by
    have hz := nl_size s t
    by_cases h : i < s.size
    · obtain ⟨g, rfl⟩ : ∃ z, g = z + 1 := ⟨g - 1, by omega⟩
      have hw := Utf.width_le s i h
      have hw1 := Utf.width_pos s i h
      have hd := dec_nl s t i h
      rw [gCells_step _ g i (by omega), gCells_step s f i h, ← hd, ← cell_of s (nl s t) i h (by omega) hd (nl_head s t i h), cells_head s t f _ g (by omega) hw (by omega)]
      rfl
    · have e : i = s.size := by omega
      subst e
      rw [gCells_end s _ _ h]
      exact gCells_more _ _ _ _ (by omega) (by omega)
theorem nl_cell (s t : ByteArray) : Utf8.decode (nl s t) s.size = (10, 1) := by
  have g10 := nl_mid s t
  have hz := nl_size s t
  rw [Lib.decode_at, g10]
  unfold Lib.decodeN
  rw [if_pos (by decide)]
  rfl
theorem cells_nl (s t : ByteArray) : gCells (nl s t) (nl s t).size 0 = gCells s s.size 0 ++ (⟨(s.size : Int), 1, 10, false, 0⟩ : S75) :: (gCells t t.size 0).map (fun c => ({ c with f0 := c.f0 + ((s.size + 1 : Nat) : Int) } : S75)) := by
  have hz := nl_size s t
  have hc := nl_cell s t
  obtain ⟨g, hg⟩ : ∃ g, (nl s t).size = g + 1 := ⟨(nl s t).size - 1, by omega⟩
  rw [cells_head s t s.size 0 _ (by omega) (by omega) (by omega)]
  congr 1
  have e := gCells_step (nl s t) g s.size (by omega)
  rw [← hg, hc] at e
  rw [e]
  congr 1
  · unfold gCell Utf.bad
    rw [hc]
    rfl
  · have h3 := tail_cells (nl s t) (s.size + 1) (by omega) g 0
    rw [nl_tail, Nat.add_zero] at h3
    rw [← h3]
    congr 1
    exact gCells_more _ _ _ _ (by omega) (by omega)
section
variable (Ku : List Int) (L : List S75) (hA : ∀ i : Nat, i < L.length → rd Ku (i : Int) = rd (kinds L) (i : Int)) (hD : wordyB (rd Ku (L.length : Int)) = false ∧ rd Ku (L.length : Int) ≠ 4 ∧ rd Ku (L.length : Int) ≠ 5)
include hA hD
theorem word_head : ∀ f g i, i ≤ L.length → L.length + 1 ≤ i + f → L.length + 1 ≤ i + g → wordE Ku f i = wordE (kinds L) g i
  | 0, g, i, hi, hf, _ => by omega
  | f + 1, g, i, hi, hf, hg => by
    obtain ⟨g, rfl⟩ : ∃ z, g = z + 1 := ⟨g - 1, by omega⟩
    unfold wordE
    by_cases h : i < L.length
    · have ih := word_head f g (i + 1) h (by omega) (by omega)
      rw [hA i h, ih]
      have hw : wordyB (rd Ku ((i + 1 : Nat) : Int)) = wordyB (rd (kinds L) ((i + 1 : Nat) : Int)) := by
        by_cases h2 : i + 1 < L.length
        · rw [hA (i + 1) h2]
        · have e : i + 1 = L.length := by omega
          rw [e, hD.1, (kinds_dead L L.length (Nat.le_refl _)).1]
      rw [hw]
    · have e : i = L.length := by omega
      subst e
      have hd := kinds_dead L L.length (Nat.le_refl _)
      rw [if_neg (by rw [hD.1]; decide), if_neg (fun x => hD.2.1 x.1), if_neg (by rw [hd.1]; decide), if_neg (fun x => hd.2.1 x.1)]
theorem blank_head : ∀ f g i, i ≤ L.length → L.length + 1 ≤ i + f → L.length + 1 ≤ i + g → blankE Ku f i = blankE (kinds L) g i
  | 0, g, i, hi, hf, _ => by omega
  | f + 1, g, i, hi, hf, hg => by
    obtain ⟨g, rfl⟩ : ∃ z, g = z + 1 := ⟨g - 1, by omega⟩
    unfold blankE
    by_cases h : i < L.length
    · rw [hA i h, blank_head f g (i + 1) h (by omega) (by omega)]
    · have e : i = L.length := by omega
      subst e
      rw [if_neg hD.2.2, if_neg (kinds_dead L L.length (Nat.le_refl _)).2.2]
end
theorem word_fuel (L : List S75) (f g i : Nat) (hi : i ≤ L.length) (hf : L.length + 1 ≤ i + f) (hg : L.length + 1 ≤ i + g) : wordE (kinds L) f i = wordE (kinds L) g i :=
  word_head (kinds L) L (fun _ _ => rfl) (kinds_dead L L.length (Nat.le_refl _)) f g i hi hf hg
theorem blank_fuel (L : List S75) (f g i : Nat) (hi : i ≤ L.length) (hf : L.length + 1 ≤ i + f) (hg : L.length + 1 ≤ i + g) : blankE (kinds L) f i = blankE (kinds L) g i :=
  blank_head (kinds L) L (fun _ _ => rfl) (kinds_dead L L.length (Nat.le_refl _)) f g i hi hf hg
theorem word_shift (Ku Kt : List Int) (a : Nat) (h : ∀ j : Nat, rd Ku ((a + j : Nat) : Int) = rd Kt (j : Int)) : ∀ f j, wordE Ku f (a + j) = a + wordE Kt f j
  | 0, j => rfl
  | f + 1, j => by
    unfold wordE
    rw [h j, show a + j + 1 = a + (j + 1) from rfl, h (j + 1), word_shift Ku Kt a h f (j + 1)]
    split
    · rfl
    · split <;> rfl
theorem blank_shift (Ku Kt : List Int) (a : Nat) (h : ∀ j : Nat, rd Ku ((a + j : Nat) : Int) = rd Kt (j : Int)) : ∀ f j, blankE Ku f (a + j) = a + blankE Kt f j
  | 0, j => rfl
  | f + 1, j => by
    unfold blankE
    rw [h j, show a + j + 1 = a + (j + 1) from rfl, blank_shift Ku Kt a h f (j + 1)]
    split <;> rfl
/-- Tokens' kinds and ends in the first text. -/
theorem tokS_head (Lu L : List S75) (Ku : List Int) (hA : ∀ i : Nat, i < L.length → rd Ku (i : Int) = rd (kinds L) (i : Int)) (hD : wordyB (rd Ku (L.length : Int)) = false ∧ rd Ku (L.length : Int) ≠ 4 ∧ rd Ku (L.length : Int) ≠ 5)
    (hl : L.length < Lu.length) (hF : ∀ i : Nat, i < L.length → (rd_T75 Lu (i : Int)).f2 = (rd_T75 L (i : Int)).f2) (i : Nat) (hi : i < L.length) (hcr : i + 1 = L.length → (rd_T75 L (i : Int)).f2 ≠ 13) : tokS Lu Ku i = tokS L (kinds L) i := by
  unfold tokS
  rw [hA i hi, word_head Ku L hA hD (Lu.length + 1) (L.length + 1) i (by omega) (by omega) (by omega), blank_head Ku L hA hD (Lu.length + 1) (L.length + 1) i (by omega) (by omega) (by omega), hF i hi]
  by_cases h2 : i + 1 < L.length
  · rw [hF (i + 1) h2]
    have h3 : i + 1 < Lu.length := by omega
    simp only [h2, h3]
  · have h13 := hcr (by omega)
    have e1 : ¬ ((rd_T75 L (i : Int)).f2 = 13 ∧ i + 1 < Lu.length ∧ (rd_T75 Lu ((i + 1 : Nat) : Int)).f2 = 10) := fun x => h13 x.1
    have e2 : ¬ ((rd_T75 L (i : Int)).f2 = 13 ∧ i + 1 < L.length ∧ (rd_T75 L ((i + 1 : Nat) : Int)).f2 = 10) := fun x => h13 x.1
    rw [if_neg e1, if_neg e2]
/-- Tokens' kinds and ends in the second text. -/
theorem tokS_tail (Lu L : List S75) (Ku : List Int) (a : Nat) (hk : ∀ j : Nat, rd Ku ((a + j : Nat) : Int) = rd (kinds L) (j : Int)) (hl : Lu.length = a + L.length) (hF : ∀ j : Nat, j < L.length → (rd_T75 Lu ((a + j : Nat) : Int)).f2 = (rd_T75 L (j : Int)).f2) (j : Nat) (hj : j < L.length) :
    tokS Lu Ku (a + j) = ((tokS L (kinds L) j).1, a + (tokS L (kinds L) j).2) := by
  unfold tokS
  rw [hk j, word_shift Ku (kinds L) a hk, blank_shift Ku (kinds L) a hk, word_fuel L (Lu.length + 1) (L.length + 1) j (by omega) (by omega) (by omega), blank_fuel L (Lu.length + 1) (L.length + 1) j (by omega) (by omega) (by omega), hF j hj]
  have hc : ((rd_T75 L (j : Int)).f2 = 13 ∧ a + j + 1 < Lu.length ∧ (rd_T75 Lu ((a + j + 1 : Nat) : Int)).f2 = 10) ↔ ((rd_T75 L (j : Int)).f2 = 13 ∧ j + 1 < L.length ∧ (rd_T75 L ((j + 1 : Nat) : Int)).f2 = 10) := by
    by_cases h2 : j + 1 < L.length
    · have := hF (j + 1) h2
      rw [show a + j + 1 = a + (j + 1) from rfl, this]
      exact ⟨fun x => ⟨x.1, h2, x.2.2⟩, fun x => ⟨x.1, by omega, x.2.2⟩⟩
    · exact ⟨fun x => absurd x.2.1 (by omega), fun x => absurd x.2.1 h2⟩
  split
  · rfl
  · split
    · rfl
    · split
      · by_cases h : (rd_T75 L (j : Int)).f2 = 13 ∧ j + 1 < L.length ∧ (rd_T75 L ((j + 1 : Nat) : Int)).f2 = 10
        · rw [if_pos h, if_pos (hc.2 h)]
          rfl
        · rw [if_neg h, if_neg (fun x => h (hc.1 x))]
          rfl
      · split <;> rfl
section
def sh (n : Nat) (c : S75) : S75 := { c with f0 := c.f0 + (n : Int) }
def nlc (s : ByteArray) : S75 := ⟨(s.size : Int), 1, 10, false, 0⟩
theorem get_a (A B : List S75) (i : Nat) (h : i < A.length) : rd_T75 (A ++ B) (i : Int) = rd_T75 A (i : Int) := by
  rw [Pl.get_rd _ i (by rw [List.length_append]; omega), Pl.get_rd A i h, List.getElem_append_left h]
theorem get_m (A B : List S75) (c : S75) : rd_T75 (A ++ c :: B) (A.length : Int) = c := by
  rw [Pl.get_rd _ A.length (by rw [List.length_append]; simp), List.getElem_append_right (Nat.le_refl _)]
  simp
theorem get_b (A B : List S75) (c : S75) (n j : Nat) (h : j < B.length) : rd_T75 (A ++ c :: B.map (sh n)) ((A.length + 1 + j : Nat) : Int) = sh n (rd_T75 B (j : Int)) := by
  rw [Pl.get_rd _ (A.length + 1 + j) (by rw [List.length_append, List.length_cons, List.length_map]; omega), Pl.get_rd B j h, List.getElem_append_right (by omega)]
  simp only [show A.length + 1 + j - A.length = j + 1 from by omega, List.getElem_cons_succ, List.getElem_map]
theorem kinds_a (A B : List S75) (i : Nat) (h : i < A.length) : rd (kinds (A ++ B)) (i : Int) = rd (kinds A) (i : Int) := by
  rw [kinds_at _ i (by rw [List.length_append]; omega), kinds_at A i h, List.getElem_append_left h]
theorem kinds_m (A B : List S75) (c : S75) : rd (kinds (A ++ c :: B)) (A.length : Int) = kc c := by
  rw [kinds_at _ A.length (by rw [List.length_append]; simp), List.getElem_append_right (Nat.le_refl _)]
  simp
theorem kinds_b (A B : List S75) (c : S75) (n : Nat) (j : Nat) : rd (kinds (A ++ c :: B.map (sh n))) ((A.length + 1 + j : Nat) : Int) = rd (kinds B) (j : Int) := by
  have e : kinds (A ++ c :: B.map (sh n)) = (A.map kc ++ [kc c]) ++ kinds B := by
    unfold kinds
    rw [List.map_append, List.map_cons, List.map_map]
    have e2 : kc ∘ sh n = kc := rfl
    rw [e2]
    simp
  rw [e]
  unfold rd
  rw [Int.toNat_natCast, Int.toNat_natCast, List.getD_eq_getElem?_getD, List.getD_eq_getElem?_getD, List.getElem?_append_right (by simp only [List.length_append, List.length_map, List.length_singleton]; omega)]
  simp only [List.length_append, List.length_map, List.length_singleton, show A.length + 1 + j - (A.length + 1) = j from by omega]
end
theorem ext_head (s t : ByteArray) (a b : Nat) (hb : b ≤ s.size) : (nl s t).extract a b = s.extract a b := by
  unfold nl
  apply ByteArray.ext
  have h1 : s.data.size = s.size := rfl
  simp only [ByteArray.data_extract, ByteArray.data_append, Array.extract_append]
  have e1 : b - (s.data ++ #[10]).size = 0 := by rw [Array.size_append]; omega
  have e2 : b - s.data.size = 0 := by omega
  rw [e1, e2]
  simp
theorem ext_tail (s t : ByteArray) (a b : Nat) : (nl s t).extract (s.size + 1 + a) (s.size + 1 + b) = t.extract a b := by
  unfold nl
  apply ByteArray.ext
  have h1 : s.data.size = s.size := rfl
  simp only [ByteArray.data_extract, ByteArray.data_append, Array.extract_append]
  have e0 : (s.data ++ #[10]).size = s.size + 1 := by rw [Array.size_append, h1]; rfl
  rw [e0, show s.size + 1 + a - (s.size + 1) = a from by omega, show s.size + 1 + b - (s.size + 1) = b from by omega]
  have e3 : s.data.extract (s.size + 1 + a) (s.size + 1 + b) = #[] := by
    apply Array.eq_empty_of_size_eq_zero
    rw [Array.size_extract]
    omega
  have e4 : (#[10] : Array UInt8).extract (s.size + 1 + a - s.data.size) (s.size + 1 + b - s.data.size) = #[] := by
    apply Array.eq_empty_of_size_eq_zero
    rw [Array.size_extract]
    simp
    omega
  rw [e3, e4]
  simp
theorem tokL_fuel (s : ByteArray) (L : List S75) : ∀ f g i, L.length ≤ i + f → L.length ≤ i + g → tokL s 0 L (kinds L) f i = tokL s 0 L (kinds L) g i
  | 0, g, i, hf, hg => by rw [tokL_end _ _ _ _ _ _ (by omega), tokL_end _ _ _ _ _ _ (by omega)]
  | f + 1, g, i, hf, hg => by
    by_cases h : i < L.length
    · obtain ⟨g, rfl⟩ : ∃ z, g = z + 1 := ⟨g - 1, by omega⟩
      obtain ⟨h1, h2⟩ := tokS_le L (kinds L) (kinds_rest L) i h
      obtain ⟨⟨t, n⟩, hT⟩ : ∃ T, tokS L (kinds L) i = T := ⟨_, rfl⟩
      rw [hT] at h1 h2
      rw [tokL_step s 0 L (kinds L) f i h t n hT, tokL_step s 0 L (kinds L) g i h t n hT, tokL_fuel s L f g n (by omega) (by omega)]
    · rw [tokL_end _ _ _ _ _ _ h, tokL_end _ _ _ _ _ _ h]
theorem u_len (s : ByteArray) (A B U : List S75) (hU : U = A ++ nlc s :: B.map (sh (s.size + 1))) : U.length = A.length + 1 + B.length := by
  rw [hU, List.length_append, List.length_cons, List.length_map]
  omega
section
variable (s t : ByteArray) (A B U : List S75) (hU : U = A ++ nlc s :: B.map (sh (s.size + 1)))
include hU
theorem cellAt_a (i : Nat) (h : i ≤ A.length) : cellAt (nl s t) U i = cellAt s A i := by
  have hl := u_len s A B U hU
  unfold cellAt
  rw [if_pos (by omega)]
  by_cases hi : i < A.length
  · rw [if_pos hi, hU, get_a A _ i hi]
  · have e : i = A.length := by omega
    subst e
    rw [if_neg hi, hU, get_m]
    rfl
theorem cellAt_b (j : Nat) (h : j ≤ B.length) : cellAt (nl s t) U (A.length + 1 + j) = ((s.size + 1 : Nat) : Int) + cellAt t B j := by
  have hl := u_len s A B U hU
  have hz := nl_size s t
  unfold cellAt
  by_cases hj : j < B.length
  · rw [if_pos (by omega), if_pos hj, hU, get_b A B _ _ j hj]
    unfold sh
    dsimp only
    omega
  · rw [if_neg (by omega), if_neg hj, hz]
    omega
theorem tok_a (hA : gCells s s.size 0 = A) (k : Int) (i n : Nat) (hi : i < A.length) (hn : n ≤ A.length) : tok1 (nl s t) 0 U k i n = tok1 s 0 A k i n := by
  have e := cellAt_a s t A B U hU n hn
  have hc := cellAt_pos s n (by rw [hA]; exact hn)
  have hp := pos_range s n 0 (Nat.zero_le _)
  rw [hA] at hc
  unfold tok1
  rw [e, hU, get_a A _ i hi, hc]
  rw [ext_head s t _ _ (by rw [Int.toNat_natCast]; exact hp.2)]
theorem tok_b (hB : gCells t t.size 0 = B) (k : Int) (j n : Nat) (hj : j < B.length) (hn : n ≤ B.length) : tok1 (nl s t) 0 U k (A.length + 1 + j) (A.length + 1 + n) = ⟨k, ((s.size + 1 : Nat) : Int) + (tok1 t 0 B k j n).f1, (tok1 t 0 B k j n).f2⟩ := by
  have e := cellAt_b s t A B U hU n hn
  have hc := cellAt_pos t n (by rw [hB]; exact hn)
  have hd := cellAt_pos t j (by rw [hB]; omega)
  rw [hB] at hc hd
  unfold cellAt at hd
  rw [if_pos hj] at hd
  unfold tok1
  rw [e, hU, get_b A B _ _ j hj, hc]
  unfold sh
  dsimp only
  rw [hd]
  have e1 : (((gPos t j 0 : Nat) : Int) + ((s.size + 1 : Nat) : Int)).toNat = s.size + 1 + gPos t j 0 := by omega
  have e2 : (((s.size + 1 : Nat) : Int) + ((gPos t n 0 : Nat) : Int)).toNat = s.size + 1 + gPos t n 0 := by omega
  rw [e1, e2, ext_tail, Int.toNat_natCast, Int.toNat_natCast]
  congr 1
  omega
end
def shT (n : Nat) (x : S51) : S51 := ⟨x.f0, (n : Int) + x.f1, x.f2⟩
theorem toks_nl (s t : ByteArray) (hcr : ∀ i : Nat, i + 1 = (gCells s s.size 0).length → (rd_T75 (gCells s s.size 0) (i : Int)).f2 ≠ 13) :
    toks (nl s t) = toks s ++ (⟨3, (s.size : Int), ⟨#[10]⟩⟩ : S51) :: (toks t).map (shT (s.size + 1)) := by
  obtain ⟨A, hA⟩ : ∃ A, gCells s s.size 0 = A := ⟨_, rfl⟩
  obtain ⟨B, hB⟩ : ∃ B, gCells t t.size 0 = B := ⟨_, rfl⟩
  obtain ⟨U, hU0⟩ : ∃ U, gCells (nl s t) (nl s t).size 0 = U := ⟨_, rfl⟩
  have hU : U = A ++ nlc s :: B.map (sh (s.size + 1)) := by rw [← hU0, cells_nl, hA, hB]; rfl
  have hl := u_len s A B U hU
  unfold toks
  rw [hA, hB, hU0]
  rw [hA] at hcr
  have kA : ∀ i : Nat, i < A.length → rd (kinds U) (i : Int) = rd (kinds A) (i : Int) := fun i hi => by rw [hU]; exact kinds_a A _ i hi
  have kM : rd (kinds U) (A.length : Int) = 6 := by
    rw [hU, kinds_m]
    show kc (nlc s) = 6
    show (if false = true then (1 : Int) else Pl.kindOf 10) = 6
    rw [if_neg (by decide)]
    decide +kernel
  have kB : ∀ j : Nat, rd (kinds U) ((A.length + 1 + j : Nat) : Int) = rd (kinds B) (j : Int) := fun j => by rw [hU]; exact kinds_b A B _ _ j
  have hD : wordyB (rd (kinds U) (A.length : Int)) = false ∧ rd (kinds U) (A.length : Int) ≠ 4 ∧ rd (kinds U) (A.length : Int) ≠ 5 := by rw [kM]; decide
  have hF : ∀ i : Nat, i < A.length → (rd_T75 U (i : Int)).f2 = (rd_T75 A (i : Int)).f2 := fun i hi => by rw [hU, get_a A _ i hi]
  have hFB : ∀ j : Nat, j < B.length → (rd_T75 U ((A.length + 1 + j : Nat) : Int)).f2 = (rd_T75 B (j : Int)).f2 := fun j hj => by rw [hU, get_b A B _ _ j hj]; rfl
  have tail : ∀ f j, B.length ≤ j + f → tokL (nl s t) 0 U (kinds U) f (A.length + 1 + j) = (tokL t 0 B (kinds B) f j).map (shT (s.size + 1)) := by
    intro f
    induction f with
    | zero => intro j h; rfl
    | succ f ih =>
      intro j h
      by_cases hj : j < B.length
      · obtain ⟨h1, h2⟩ := tokS_le B (kinds B) (kinds_rest B) j hj
        obtain ⟨⟨k, n⟩, hT⟩ : ∃ T, tokS B (kinds B) j = T := ⟨_, rfl⟩
        have hS := tokS_tail U B (kinds U) (A.length + 1) kB hl hFB j hj
        rw [hT] at h1 h2 hS
        rw [tokL_step _ 0 U (kinds U) f _ (by omega) k _ hS, tokL_step _ 0 B (kinds B) f j hj k n hT, List.map_cons, ih n (by dsimp only at h1; omega), tok_b s t A B U hU hB k j n hj h2]
        rfl
      · rw [tokL_end _ _ _ _ _ _ (by omega), tokL_end _ _ _ _ _ _ hj]
        rfl
  have mid : tokL (nl s t) 0 U (kinds U) U.length A.length = (⟨3, (s.size : Int), ⟨#[10]⟩⟩ : S51) :: (tokL t 0 B (kinds B) B.length 0).map (shT (s.size + 1)) := by
    obtain ⟨g, hg⟩ : ∃ g, U.length = g + 1 := ⟨U.length - 1, by omega⟩
    have hS := tokS_line1 U (kinds U) A.length kM (fun x => by rw [hU, get_m] at x; exact absurd x.1 (by show ¬ (10 : Int) = 13; decide))
    rw [hg, tokL_step _ 0 U (kinds U) g A.length (by omega) 3 _ hS, tokL_fuel (nl s t) U g B.length (A.length + 1) (by omega) (by omega)]
    have ht := tail B.length 0 (by omega)
    rw [Nat.add_zero] at ht
    rw [ht]
    congr 1
    have e := cellAt_b s t A B U hU 0 (Nat.zero_le _)
    have e0 := cell_first t
    rw [hB] at e0
    rw [e0, Nat.add_zero, Int.add_zero] at e
    unfold tok1
    rw [e, hU, get_m]
    unfold nlc
    dsimp only
    rw [Int.toNat_natCast, Int.toNat_natCast, Int.zero_add]
    have ex : (nl s t).extract s.size (s.size + 1) = (⟨#[10]⟩ : ByteArray) := by
      unfold nl
      apply ByteArray.ext
      have h1 : s.data.size = s.size := rfl
      simp only [ByteArray.data_extract, ByteArray.data_append, Array.extract_append]
      have e0 : (s.data ++ #[10]).size = s.size + 1 := by rw [Array.size_append, h1]; rfl
      rw [e0, h1, show s.size - s.size = 0 from by omega, show s.size + 1 - s.size = 1 from by omega, show s.size - (s.size + 1) = 0 from by omega, show s.size + 1 - (s.size + 1) = 0 from by omega]
      have e3 : s.data.extract s.size (s.size + 1) = #[] := by
        apply Array.eq_empty_of_size_eq_zero
        rw [Array.size_extract]
        omega
      rw [e3]
      simp
    rw [ex]
  have head : ∀ f i, i ≤ A.length → A.length ≤ i + f → tokL (nl s t) 0 U (kinds U) U.length i = tokL s 0 A (kinds A) f i ++ tokL (nl s t) 0 U (kinds U) U.length A.length := by
    intro f
    induction f with
    | zero =>
      intro i hi h
      have e : i = A.length := by omega
      rw [e]
      rfl
    | succ f ih =>
      intro i hi h
      by_cases hj : i < A.length
      · obtain ⟨h1, h2⟩ := tokS_le A (kinds A) (kinds_rest A) i hj
        obtain ⟨⟨k, n⟩, hT⟩ : ∃ T, tokS A (kinds A) i = T := ⟨_, rfl⟩
        have hS := tokS_head U A (kinds U) kA hD (by omega) hF i hj (hcr i)
        rw [hT] at h1 h2 hS
        dsimp only at h1 h2
        obtain ⟨g, hg⟩ : ∃ g, U.length = g + 1 := ⟨U.length - 1, by omega⟩
        have hst := tokL_step (nl s t) 0 U (kinds U) g i (by omega) k n hS
        rw [← hg, tokL_fuel (nl s t) U g U.length n (by omega) (by omega), ih n h2 (by omega)] at hst
        rw [hst, tokL_step _ 0 A (kinds A) f i hj k n hT, tok_a s t A B U hU hA k i n hj h2]
        rfl
      · have e : i = A.length := by omega
        rw [e, tokL_end s _ _ _ _ _ (by omega)]
        rfl
  rw [head A.length 0 (Nat.zero_le _) (by omega), mid]
theorem cell_at (s : ByteArray) : ∀ n f i, s.size ≤ i + f → i ≤ s.size → ∀ h : n < (gCells s f i).length, (gCells s f i)[n] = gCell s (gPos s n i) ∧ gPos s n i < s.size ∧ gPos s (n + 1) i = gPos s n i + (Utf8.decode s (gPos s n i)).2
  | n, 0, i, hf, hi, h => by cases h
  | n, f + 1, i, hf, hi, h => by
    by_cases hlt : i < s.size
    · have e := gCells_step s f i hlt
      have hw := Utf.width_le s i hlt
      have hw1 := Utf.width_pos s i hlt
      simp only [e] at h ⊢
      cases n with
      | zero =>
        refine ⟨rfl, hlt, ?_⟩
        show gPos s 1 i = i + (Utf8.decode s i).2
        unfold gPos
        rw [if_pos hlt]
        rfl
      | succ n =>
        have ih := cell_at s n f (i + (Utf8.decode s i).2) (by omega) hw (by simpa using h)
        have e1 : gPos s (n + 1) i = gPos s n (i + (Utf8.decode s i).2) := by rw [gPos, if_pos hlt]
        have e2 : gPos s (n + 1 + 1) i = gPos s (n + 1) (i + (Utf8.decode s i).2) := by rw [gPos, if_pos hlt]
        rw [e1, e2]
        exact ⟨by simpa using ih.1, ih.2.1, ih.2.2⟩
    · have e := gCells_end s (f + 1) i hlt
      simp only [e] at h
      cases h
theorem cr_byte (s : ByteArray) (p : Nat) (h : (Utf8.decode s p).1 = 13) : (Utf8.decode s p).2 = 1 ∧ (s.get! p).toNat = 13 := by
  rw [Lib.decode_at] at h ⊢
  have k0 := Utf.byte_lt s p
  have k1 := Utf.byte_lt s (p + 1)
  have k2 := Utf.byte_lt s (p + 2)
  have k3 := Utf.byte_lt s (p + 3)
  by_cases h0 : (s.get! p).toNat < 128
  · unfold Lib.decodeN at h ⊢
    rw [if_pos h0] at h ⊢
    exact ⟨rfl, h⟩
  · exfalso
    rcases Lib.decodeN_shape (s.size - p) (s.get! p).toNat (s.get! (p + 1)).toNat (s.get! (p + 2)).toNat (s.get! (p + 3)).toNat with ⟨q, e⟩ | ⟨q1, q2, q3, q4, e⟩ | ⟨q1, q2, q3, q4, q5, q6, e⟩ | ⟨q1, q2, q3, q4, q5, q6, q7, e⟩ | e
    all_goals rw [e] at h
    all_goals dsimp only at h
    all_goals omega
theorem last_cr (s : ByteArray) (h : 0 < s.size → (s.get! (s.size - 1)).toNat ≠ 13) (i : Nat) (hi : i + 1 = (gCells s s.size 0).length) : (rd_T75 (gCells s s.size 0) (i : Int)).f2 ≠ 13 := by
  have hlt : i < (gCells s s.size 0).length := by omega
  obtain ⟨h1, h2, h3⟩ := cell_at s i s.size 0 (by omega) (by omega) hlt
  have h4 := (pos_cell s (i + 1) s.size 0 (by omega) (by omega)).2 hi
  rw [Pl.get_rd _ i hlt, h1]
  intro e
  have e2 : (Utf8.decode s (gPos s i 0)).1 = 13 := by
    have : (((Utf8.decode s (gPos s i 0)).1 : Nat) : Int) = 13 := e
    omega
  obtain ⟨c1, c2⟩ := cr_byte s (gPos s i 0) e2
  rw [h4, c1] at h3
  refine h (by omega) ?_
  rw [show s.size - 1 = gPos s i 0 from by omega]
  exact c2
theorem part_get (l : List S51) (i : Nat) (h : i < l.length) : rd_T51 l (i : Int) = l[i] := by
  unfold rd_T51
  rw [Int.toNat_natCast, List.getD_eq_getElem?_getD, List.getElem?_eq_getElem h]
  rfl
theorem parts_mem (s : ByteArray) (L : List S75) (K : List Int) : ∀ f i, ∀ x ∈ tokL s 0 L K f i, ∃ j t n, j < L.length ∧ tokS L K j = (t, n) ∧ x = tok1 s 0 L t j n
  | 0, i, x, hx => by cases hx
  | f + 1, i, x, hx => by
    by_cases h : i < L.length
    · rw [tokL_step s 0 L K f i h _ _ rfl] at hx
      rcases List.mem_cons.1 hx with e | hx
      · exact ⟨i, _, _, h, rfl, e⟩
      · exact parts_mem s L K f _ x hx
    · rw [tokL_end _ _ _ _ _ _ h] at hx
      cases hx
theorem toks_at (t : ByteArray) (x : S51) (hx : x ∈ toks t) : 0 ≤ x.f1 ∧ x.f1 ≤ (t.size : Int) := by
  obtain ⟨j, k, n, hj, _, rfl⟩ := parts_mem t _ _ _ _ x hx
  have := cells_in t t.size 0 (Nat.zero_le _) j hj
  unfold tok1
  rw [Pl.get_rd _ j hj]
  dsimp only
  omega
theorem parts_l1 (s : ByteArray) (hs : s.size ≤ 30000) (a b : List S51) (x : S51) (ha : a.length ≤ 65536) (hb : b.length ≤ 65536) (hf : ∀ y ∈ b, 0 ≤ y.f1 ∧ y.f1 ≤ 65536) : ∀ d j k, j + d = b.length → d + 1 ≤ k →
    siglumlaw04_ScanParts.l1 k s a b (a ++ x :: b.map (shT (s.size + 1))) (b.length : Int) (j : Int) = some true
  | d, j, k, hd, hk => by
    obtain ⟨k, rfl⟩ : ∃ g, k = g + 1 := ⟨k - 1, by omega⟩
    have hl : (a ++ x :: b.map (shT (s.size + 1))).length = a.length + 1 + b.length := by rw [List.length_append, List.length_cons, List.length_map]; omega
    rw [siglumlaw04_ScanParts.l1]
    by_cases h : j < b.length
    · obtain ⟨d, rfl⟩ : ∃ g, d = g + 1 := ⟨d - 1, by omega⟩
      have ih := parts_l1 s hs a b x ha hb hf d (j + 1) k (by omega) (by omega)
      have e : ((a.length : Int) + 1) + (j : Int) = ((a.length + 1 + j : Nat) : Int) := by omega
      have hg : rd_T51 (a ++ x :: b.map (shT (s.size + 1))) ((a.length + 1 + j : Nat) : Int) = shT (s.size + 1) b[j] := by
        rw [part_get _ _ (by omega), List.getElem_append_right (by omega)]
        simp only [show a.length + 1 + j - a.length = j + 1 from by omega, List.getElem_cons_succ, List.getElem_map]
      have hy := hf b[j] (List.getElem_mem h)
      have e3 : wrap64 (wrap64 ((s.size : Int) + 1) + b[j].f1) = ((s.size + 1 : Nat) : Int) + b[j].f1 := by
        rw [Pl.wrap_id ((s.size : Int) + 1) (by omega) (by omega), Pl.wrap_id _ (by omega) (by omega)]
        omega
      rw [if_pos (by omega), Pl.wrap_id ((a.length : Int) + 1) (by omega) (by omega), Pl.wrap_id (((a.length : Int) + 1) + (j : Int)) (by omega) (by omega), e, hg, part_get b j h, e3, if_pos (by omega), if_pos (by omega), if_pos (by omega), if_pos (by omega), if_pos (show (shT (s.size + 1) b[j]).f0 = b[j].f0 from rfl), if_pos (show (shT (s.size + 1) b[j]).f2.toList = b[j].f2.toList from rfl), if_pos (show (shT (s.size + 1) b[j]).f1 = ((s.size + 1 : Nat) : Int) + b[j].f1 from rfl), Pl.wrap_id ((j : Int) + 1) (by omega) (by omega)]
      exact ih
    · rw [if_neg (by omega)]
  termination_by d => d
theorem parts_l0 (s : ByteArray) (hs : s.size ≤ 30000) (a b : List S51) (ha : a.length ≤ 65536) (hb : b.length ≤ 65536) (hf : ∀ y ∈ b, 0 ≤ y.f1 ∧ y.f1 ≤ 65536) : ∀ d i k, i + d = a.length → d + b.length + 3 ≤ k →
    siglumlaw04_ScanParts.l0 k s a b (a ++ (⟨3, (s.size : Int), ⟨#[10]⟩⟩ : S51) :: b.map (shT (s.size + 1))) (a.length : Int) (i : Int) = some true
  | d, i, k, hd, hk => by
    obtain ⟨k, rfl⟩ : ∃ g, k = g + 1 := ⟨k - 1, by omega⟩
    have hl : (a ++ (⟨3, (s.size : Int), ⟨#[10]⟩⟩ : S51) :: b.map (shT (s.size + 1))).length = a.length + 1 + b.length := by rw [List.length_append, List.length_cons, List.length_map]; omega
    rw [siglumlaw04_ScanParts.l0]
    by_cases h : i < a.length
    · obtain ⟨d, rfl⟩ : ∃ g, d = g + 1 := ⟨d - 1, by omega⟩
      have ih := parts_l0 s hs a b ha hb hf d (i + 1) k (by omega) (by omega)
      rw [if_pos (by omega), if_pos (by omega), if_pos (by omega), if_pos (by omega), part_get _ i (by omega), part_get a i h, List.getElem_append_left h, if_neg (by simp), Pl.wrap_id ((i : Int) + 1) (by omega) (by omega)]
      exact ih
    · have hg : rd_T51 (a ++ (⟨3, (s.size : Int), ⟨#[10]⟩⟩ : S51) :: b.map (shT (s.size + 1))) (a.length : Int) = ⟨3, (s.size : Int), ⟨#[10]⟩⟩ := by
        rw [part_get _ _ (by omega), List.getElem_append_right (Nat.le_refl _)]
        simp
      have e10 : (⟨#[10]⟩ : ByteArray).toList = ([10] : List UInt8) := by rw [ByteArray.toList_eq]
      rw [if_neg (by omega), if_pos (by omega), if_pos (by omega), hg]
      dsimp only
      rw [e10, if_neg (by simp)]
      exact parts_l1 s hs a b _ ha hb hf b.length 0 k (by omega) (by omega)
  termination_by d => d
theorem parts_j0 (a0 a1 : ByteArray) (k : Nat) (h0 : a0.size ≤ 30000) (h1 : a1.size ≤ 30000) (hc : 0 < a0.size → (a0.get! (a0.size - 1)).toNat ≠ 13) (hk : a0.size + a1.size + 100 ≤ k) : siglumlaw04_ScanParts.j0 k a0 a1 false = some true := by
  obtain ⟨k, rfl⟩ : ∃ g, k = g + 2 := ⟨k - 2, by omega⟩
  have l0 := gCells_len a0 a0.size 0
  have l1 := gCells_len a1 a1.size 0
  have m0 := toks_len a0
  have m1 := toks_len a1
  have hz := nl_size a0 a1
  have e1 : (a0 ++ (⟨#[10]⟩ : ByteArray)).size = a0.size + 1 := by rw [ByteArray.size_append]; rfl
  have hS : scan_Tokens.f ((a0 ++ (⟨#[10]⟩ : ByteArray)) ++ a1) = some (toks (nl a0 a1), 0) := scan_some (nl a0 a1) (by omega)
  have hn := toks_nl a0 a1 (last_cr a0 hc)
  have hln : (toks (nl a0 a1)).length = (toks a0).length + 1 + (toks a1).length := by rw [hn, List.length_append, List.length_cons, List.length_map]; omega
  rw [siglumlaw04_ScanParts.j0, if_neg (by decide), scan_some a0 (by omega), Option.bind_some, scan_some a1 (by omega), Option.bind_some, hS, Option.bind_some, e1, if_pos (by omega), if_pos (by omega)]
  dsimp only
  rw [if_pos rfl, if_pos rfl, if_pos rfl, Pl.wrap_id (((toks a0).length : Int) + 1) (by omega) (by omega), Pl.wrap_id ((((toks a0).length : Int) + 1) + ((toks a1).length : Int)) (by omega) (by omega), siglumlaw04_ScanParts.j1]
  have hb : (((toks (nl a0 a1)).length : Int) != ((toks a0).length : Int) + 1 + ((toks a1).length : Int)) = false := bne_eq_false_iff_eq.2 (by omega)
  rw [hb, if_neg (by decide), hn]
  exact parts_l0 a0 h0 (toks a0) (toks a1) (by omega) (by omega) (fun y hy => by have := toks_at a1 y hy; omega) (toks a0).length 0 k (by omega) (by omega)
theorem ScanParts (a0 a1 : ByteArray) (_ : a0.size ≤ maxLen) (_ : a0.size ≤ 140737488351232) (_ : a1.size ≤ maxLen) (_ : a1.size ≤ 140737488351232) : ∃ k, siglumlaw04_ScanParts.f k a0 a1 = some true := by
  refine ⟨a0.size + a1.size + 200, ?_⟩
  have hj : siglumlaw04_ScanParts.j0 (a0.size + a1.size + 200) a0 a1 true = some true := by rw [siglumlaw04_ScanParts.j0, if_pos rfl]
  unfold siglumlaw04_ScanParts.f
  rw [scan_awake, Option.bind_some, if_pos rfl]
  by_cases h0 : a0.size ≤ 30000
  · rw [if_neg (by omega)]
    by_cases h1 : a1.size ≤ 30000
    · rw [if_neg (by omega)]
      by_cases hz : a0.toList = ([] : List UInt8)
      · have he : a0.size = 0 := by
          have := congrArg List.length hz
          rw [ByteArray.toList_eq, Array.length_toList] at this
          exact this
        rw [if_pos hz]
        exact parts_j0 a0 a1 _ h0 h1 (fun h => by omega) (by omega)
      · have he : 0 < a0.size := by
          refine Nat.pos_of_ne_zero fun h => hz ?_
          rw [ByteArray.toList_eq]
          exact Array.toList_eq_nil_iff.2 (Array.eq_empty_of_size_eq_zero h)
        rw [if_neg hz, Pl.wrap_id ((a0.size : Int) - 1) (by omega) (by omega), if_pos (by omega), if_pos (by omega), show (a0.size : Int) - 1 = ((a0.size - 1 : Nat) : Int) from by omega, Pl.bt_nat a0 _ (by omega)]
        by_cases h13 : (a0.get! (a0.size - 1)).toNat = 13
        · rw [show ((((a0.get! (a0.size - 1)).toNat : Nat) : Int) == 13) = true from beq_iff_eq.2 (by omega)]
          exact hj
        · rw [show ((((a0.get! (a0.size - 1)).toNat : Nat) : Int) == 13) = false from beq_eq_false_iff_ne.2 (by omega)]
          exact parts_j0 a0 a1 _ h0 h1 (fun _ => h13) (by omega)
    · rw [if_pos (by omega)]
      exact hj
  · rw [if_pos (by omega)]
    exact hj
end Go.Proofs.YtalogampkkjcdaaDoor.Pure