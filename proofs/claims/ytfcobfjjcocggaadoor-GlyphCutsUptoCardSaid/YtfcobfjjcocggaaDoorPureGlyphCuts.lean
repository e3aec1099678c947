/-
  Every Cut and every Place: by decoding and by the document's cells the same.
-/
import Derived.Test.YtfcobfjjcocggaaDoorCFacts
import Derived.Test.YtfcobfjjcocggaaDoorPureAwake
import Derived.Test.YtfcobfjjcocggaaDoorRange
import Derived.Test.YtfcobfjjcocggaaDoorCxf11
import Derived.Test.YtfcobfjjcocggaaDoorCxf32
import Derived.Test.YtfcobfjjcocggaaDoorCxf34
import Derived.Test.YtfcobfjjcocggaaDoorCxf33
import Derived.Test.YtfcobfjjcocggaaDoorCxf28
set_option linter.unusedSimpArgs false
set_option linter.unusedVariables false
namespace Go.Proofs.YtfcobfjjcocggaaDoor.Pure
open Go.RowKit Go.Proofs.YtfcobfjjcocggaaDoor.C Go.Proofs.YtfcobfjjcocggaaDoorW.PrintWords Go.Proofs.YtfcobfjjcocggaaDoorW.PrintLast
theorem posC_range (s : ByteArray) : ∀ n i, i ≤ s.size → i ≤ gPos s n i ∧ gPos s n i ≤ s.size
  | 0, i, h => ⟨Nat.le_refl _, h⟩
  | n + 1, i, h => by
    unfold gPos
    split
    · have hw := Utf.width_le s i (by omega)
      have := posC_range s n (i + (Utf8.decode s i).2) hw
      omega
    · exact ⟨Nat.le_refl _, h⟩
theorem cells_drop (s : ByteArray) : ∀ n f i, s.size ≤ i + f → i ≤ s.size → gCells s f (gPos s n i) = (gCells s f i).drop n
  | 0, f, i, _, _ => by rw [List.drop_zero]; rfl
  | n + 1, f, i, hf, hi => by
    unfold gPos
    by_cases h : i < s.size
    · obtain ⟨g, rfl⟩ : ∃ g, f = g + 1 := ⟨f - 1, by omega⟩
      have hw1 := Utf.width_pos s i h
      have hw := Utf.width_le s i h
      have hr := posC_range s n (i + (Utf8.decode s i).2) hw
      rw [if_pos h, gCells_step s g i h, List.drop_succ_cons, ← cells_drop s n g _ (by omega) hw]
      exact gCells_more s _ _ _ (by omega) (by omega)
    · rw [if_neg h, gCells_end s f i h, List.drop_nil]
theorem cell_at (s : ByteArray) (n : Nat) (hn : n < (gCells s s.size 0).length) : ((gCells s s.size 0)[n]).f0 = (gPos s n 0 : Int) ∧ gPos s n 0 ≤ s.size := by
  have hr := posC_range s n 0 (by omega)
  have hd := cells_drop s n s.size 0 (by omega) (by omega)
  refine ⟨?_, hr.2⟩
  rw [List.drop_eq_getElem_cons hn] at hd
  by_cases h : gPos s n 0 < s.size
  · obtain ⟨g, hg⟩ : ∃ g, s.size = g + 1 := ⟨s.size - 1, by omega⟩
    rw [show gCells s s.size (gPos s n 0) = gCells s (g + 1) (gPos s n 0) by rw [← hg], gCells_step s g _ h] at hd
    rw [← (List.cons.inj hd).1]
    rfl
  · rw [gCells_end s _ _ h] at hd
    cases hd
theorem pos_last (s : ByteArray) : gPos s (gCells s s.size 0).length 0 = s.size := by
  have hr := posC_range s (gCells s s.size 0).length 0 (by omega)
  have hd := cells_drop s (gCells s s.size 0).length s.size 0 (by omega) (by omega)
  rw [List.drop_length] at hd
  apply Classical.byContradiction
  intro hne
  have h : gPos s (gCells s s.size 0).length 0 < s.size := by omega
  obtain ⟨g, hg⟩ : ∃ g, s.size = g + 1 := ⟨s.size - 1, by omega⟩
  generalize gPos s (gCells s s.size 0).length 0 = p at hd h
  rw [hg, gCells_step s g _ h] at hd
  cases hd
theorem pairs_cells (s : ByteArray) : ∀ f i, Rg.pairs s f i = (gCells s f i).map fun c => (c.f0, c.f2)
  | 0, _ => rfl
  | f + 1, i => by
    by_cases h : i < s.size
    · rw [Rg.pairs_step s f i h, gCells_step s f i h, List.map_cons, pairs_cells s f]
      rfl
    · rw [Rg.pairs_end s _ i h, gCells_end s _ i h]
      rfl
theorem place_loop (a : Int) (L : List S30) (hl : L.length ≤ 4294967296) : ∀ d n k, n + 1 + d = L.length → d + 1 ≤ k →
    siglumref01_Place.l0 k a L (n : Int) = some (((n + ((L.drop (n + 1)).takeWhile fun c => decide (c.f0 ≤ a)).length : Nat) : Int), 0)
  | 0, n, k, hd, hk => by
    obtain ⟨k, rfl⟩ : ∃ m, k = m + 1 := ⟨k - 1, by omega⟩
    rw [siglumref01_Place.l0, Pl.wrap_small ((L.length : Int) - 1) (by omega) (by omega), if_neg (by omega), List.drop_of_length_le (by omega)]
    simp
  | d + 1, n, k, hd, hk => by
    obtain ⟨k, rfl⟩ : ∃ m, k = m + 1 := ⟨k - 1, by omega⟩
    have hi : n + 1 < L.length := by omega
    have e2 : (n : Int) + 1 = ((n + 1 : Nat) : Int) := by omega
    rw [siglumref01_Place.l0, Pl.wrap_small ((L.length : Int) - 1) (by omega) (by omega), if_pos (by omega), Pl.wrap_small ((n : Int) + 1) (by omega) (by omega), e2, if_pos (by omega), if_pos (by omega), Pl.get_rd L (n + 1) hi, List.drop_eq_getElem_cons hi]
    by_cases h : L[n + 1].f0 ≤ a
    · rw [if_pos h, place_loop a L hl d (n + 1) k (by omega) (by omega), List.takeWhile_cons_of_pos (by simpa using h), List.length_cons]
      congr 2
      omega
    · rw [if_neg h, List.takeWhile_cons_of_neg (by simpa using h)]
      rfl
theorem place_eq (s : ByteArray) (hs : s.size ≤ 1048576) (a : Int) (k : Nat) (hk : s.size + 14 ≤ k) : siglumref01_Place.f k s a = glyph_Place.f s a := by
  obtain ⟨k, rfl⟩ : ∃ m, k = m + 1 := ⟨k - 1, by omega⟩
  unfold siglumref01_Place.f glyph_Place.f
  rw [if_pos (show s.size ≤ 4294967296 by omega)]
  by_cases h0 : a < 0
  · rw [if_pos h0, if_pos h0, siglumref01_Place.j0, if_pos rfl]
  · rw [if_neg h0, if_neg h0]
    by_cases h1 : (s.size : Int) ≤ a
    · rw [if_pos h1, show decide (a ≥ (s.size : Int)) = true from decide_eq_true h1, siglumref01_Place.j0, if_pos rfl]
    · rw [if_neg h1, show decide (a ≥ (s.size : Int)) = false from decide_eq_false h1, siglumref01_Place.j0, if_neg (by decide), Pl.cells_eq k s (by omega) (by omega), Option.bind_some]
      have hlen := Pl.cells_le s
      obtain ⟨g, hg⟩ : ∃ g, s.size = g + 1 := ⟨s.size - 1, by omega⟩
      have hL : gCells s s.size 0 = gCell s 0 :: gCells s g (0 + (Utf8.decode s 0).2) := by
        rw [show gCells s s.size 0 = gCells s (g + 1) 0 by rw [← hg]]
        exact gCells_step s g 0 (by omega)
      rw [pairs_cells]
      generalize hT : gCells s g (0 + (Utf8.decode s 0).2) = T at hL
      generalize gCells s s.size 0 = L at hL hlen
      subst hL
      have hloop := place_loop a (gCell s 0 :: T) (by omega) T.length 0 k (by simp; omega) (by simp at hlen; omega)
      rw [show ((0 : Nat) : Int) = 0 from rfl] at hloop
      rw [hloop]
      unfold Rg.placeN
      rw [List.takeWhile_map, List.length_map, List.takeWhile_cons_of_pos (by simp [gCell]; omega), List.length_cons]
      simp only [Function.comp_def, List.drop_succ_cons, List.drop_zero]
      congr 2
      omega
theorem cut_eq (s : ByteArray) (hs : s.size ≤ 1048576) (a : Int) (k : Nat) (hk : s.size + 13 ≤ k) : siglumref01_Cut.f k s a = glyph_Cut.f s a := by
  obtain ⟨m, rfl⟩ : ∃ m, k = m + 1 := ⟨k - 1, by omega⟩
  unfold siglumref01_Cut.f glyph_Cut.f
  have hcl := Pl.cells_length s
  have hle := Pl.cells_le s
  rw [if_pos (show s.size ≤ 4294967296 by omega), Pl.cells_eq (m + 1) s (by omega) (by omega), Option.bind_some, ← hcl]
  by_cases h0 : a < 0
  · rw [if_pos h0, if_pos h0, siglumref01_Cut.j0, if_pos rfl]
  · rw [if_neg h0, if_neg h0]
    by_cases h1 : ((gCells s s.size 0).length : Int) < a
    · rw [if_pos h1, show decide (a > ((gCells s s.size 0).length : Int)) = true from decide_eq_true h1, siglumref01_Cut.j0, if_pos rfl]
    · rw [if_neg h1, show decide (a > ((gCells s s.size 0).length : Int)) = false from decide_eq_false h1, siglumref01_Cut.j0, if_neg (by decide)]
      obtain ⟨n, rfl⟩ : ∃ n : Nat, a = (n : Int) := ⟨a.toNat, by omega⟩
      by_cases h2 : n = (gCells s s.size 0).length
      · rw [if_pos (by omega), Int.toNat_natCast, h2, pos_last, extract_all, extract_none]
      · have hn : n < (gCells s s.size 0).length := by omega
        obtain ⟨hc, hp⟩ := cell_at s n hn
        rw [if_neg (by omega), if_pos (by omega), if_pos (by omega), Pl.get_rd _ n hn, hc, if_pos (by omega), if_pos (by omega), Int.toNat_natCast, Int.toNat_natCast]
theorem cut_some (s : ByteArray) (hs : s.size ≤ 1048576) (a : Int) : ∃ r, glyph_Cut.f s a = some r := by
  unfold glyph_Cut.f
  rw [if_pos (by omega)]
  split
  · exact ⟨_, rfl⟩
  · split
    · exact ⟨_, rfl⟩
    · exact ⟨_, rfl⟩
theorem place_some (s : ByteArray) (hs : s.size ≤ 1048576) (a : Int) : ∃ r, glyph_Place.f s a = some r := by
  unfold glyph_Place.f
  rw [if_pos (by omega)]
  split
  · exact ⟨_, rfl⟩
  · split
    · exact ⟨_, rfl⟩
    · exact ⟨_, rfl⟩
theorem GlyphCuts (a0 : ByteArray) (a1 a2 : Int) (_ : a0.size ≤ maxLen) (_ : (Lit.int .i64 a1).wf = true) (_ : (Lit.int .i64 a2).wf = true) (hb : (a0.size + 1) + 1 + 1 ≤ 1048576) : ∃ k, siglumlaw01_GlyphCuts.f k a0 a1 a2 = some true := by
  refine ⟨a0.size + 14, ?_⟩
  unfold siglumlaw01_GlyphCuts.f
  obtain ⟨r, hr⟩ := cut_some a0 (by omega) a1
  obtain ⟨q, hq⟩ := place_some a0 (by omega) a2
  rw [awake1, Option.bind_some, if_pos rfl, cut_eq a0 (by omega) a1 _ (by omega), hr, Option.bind_some, Option.bind_some, place_eq a0 (by omega) a2 _ (by omega), hq, Option.bind_some, Option.bind_some, if_pos rfl, if_pos rfl, if_pos rfl, if_pos rfl]
  simp
end Go.Proofs.YtfcobfjjcocggaaDoor.Pure
