/-
  Every text's cells, their number, and whether none is bad: as the document says.
-/
import Derived.Test.YtfcobfjjcocggaaDoorVFacts
import Derived.Test.YtfcobfjjcocggaaDoorPureAwake
import Derived.Test.YtfcobfjjcocggaaDoorVx4
import Derived.Test.YtfcobfjjcocggaaDoorVx12
import Derived.Test.YtfcobfjjcocggaaDoorVx15
namespace Go.Proofs.YtfcobfjjcocggaaDoor.Pure
open Go.RowKit Go.Proofs.YtfcobfjjcocggaaDoor.V Go.Proofs.YtfcobfjjcocggaaDoorW.PrintWords Go.Proofs.YtfcobfjjcocggaaDoorW.PrintLast

theorem same_loop (A B : List S30) (hl : A.length ≤ 4294967296) (hlen : B.length = A.length) : ∀ (d i k : Nat), i + d = A.length → d + 1 ≤ k → A.drop i = B.drop i →
    siglumlaw01_same.l0 k A B (A.length : Int) (i : Int) = some true
  | 0, i, k, hd, hk, _ => by
    obtain ⟨k, rfl⟩ : ∃ m, k = m + 1 := ⟨k - 1, by omega⟩
    rw [siglumlaw01_same.l0, if_neg (by omega)]
  | d + 1, i, k, hd, hk, he => by
    obtain ⟨k, rfl⟩ : ∃ m, k = m + 1 := ⟨k - 1, by omega⟩
    have hi : i < A.length := by omega
    have hi2 : i < B.length := by omega
    have e2 : ((i + 1 : Nat) : Int) = (i : Int) + 1 := by omega
    rw [List.drop_eq_getElem_cons hi, List.drop_eq_getElem_cons hi2, List.cons.injEq] at he
    rw [siglumlaw01_same.l0, if_pos (by omega), if_pos (by omega), if_pos (by omega), if_pos (by omega), Pl.get_rd A i hi, Pl.get_rd B i hi2, ← he.1, Pl.wrap_small _ (by omega) (by omega), ← e2]
    rw [if_neg (by simp)]
    exact same_loop A B hl hlen d (i + 1) k (by omega) (by omega) he.2
theorem same_eq (A : List S30) (hl : A.length ≤ 4294967296) (k : Nat) (hk : A.length + 1 ≤ k) : siglumlaw01_same.f k A A = some true := by
  unfold siglumlaw01_same.f
  rw [if_pos rfl]
  have := same_loop A A hl rfl A.length 0 k (by omega) hk rfl
  simpa using this
theorem valid_loop (L : List S30) (hl : L.length ≤ 4294967296) : ∀ (d i k : Nat), i + d = L.length → d + 1 ≤ k →
    siglumref01_Valid.l0 k L (i : Int) = some ((L.drop i).all (fun c => !c.f3))
  | 0, i, k, hd, hk => by
    obtain ⟨k, rfl⟩ : ∃ m, k = m + 1 := ⟨k - 1, by omega⟩
    rw [siglumref01_Valid.l0, if_neg (by omega), List.drop_of_length_le (by omega)]
    rfl
  | d + 1, i, k, hd, hk => by
    obtain ⟨k, rfl⟩ : ∃ m, k = m + 1 := ⟨k - 1, by omega⟩
    have hi : i < L.length := by omega
    have e2 : ((i + 1 : Nat) : Int) = (i : Int) + 1 := by omega
    rw [siglumref01_Valid.l0, if_pos (by omega), if_pos (by omega), Pl.get_rd L i hi, Pl.wrap_small _ (by omega) (by omega), ← e2, List.drop_eq_getElem_cons hi, List.all_cons]
    by_cases h : L[i].f3 = true
    · rw [if_pos h, h]; rfl
    · rw [if_neg h, valid_loop L hl d (i + 1) k (by omega) (by omega)]
      simp at h
      rw [h]; rfl
theorem refvalid (s : ByteArray) (hs : s.size ≤ 4294967296) (k : Nat) (hk : s.size + 12 ≤ k) : siglumref01_Valid.f k s = some ((gCells s s.size 0).all (fun c => !c.f3)) := by
  have hl := Pl.cells_le s
  unfold siglumref01_Valid.f
  rw [Pl.cells_eq k s hs hk, Option.bind_some]
  have := valid_loop (gCells s s.size 0) (by omega) (gCells s s.size 0).length 0 k (by omega) (by omega)
  simpa using this
theorem GlyphCells (a0 : ByteArray) (_ : a0.size ≤ maxLen) (hb : (a0.size + 1) ≤ 1048576) : ∃ k, siglumlaw01_GlyphCells.f k a0 = some true := by
  refine ⟨a0.size + 40, ?_⟩
  have hs : a0.size ≤ 4294967296 := by omega
  have hl := Pl.cells_le a0
  unfold siglumlaw01_GlyphCells.f glyph_Cells.f glyph_Count.f glyph_Valid.f
  rw [awake1, Pl.cells_eq _ a0 hs (by omega), if_pos hs, if_pos hs, if_pos hs]
  simp only [Option.bind_some, if_true]
  rw [same_eq _ (by omega) _ (by omega), refvalid a0 hs _ (by omega), Pl.valid_cells, Pl.cells_length]
  simp
end Go.Proofs.YtfcobfjjcocggaaDoor.Pure
