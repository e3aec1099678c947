/-
  Plain facts on the list of a text's cells: its length is the runes' number, its runes are the text's, its bytes give the text back; the document's written runes are the model's encoding.
-/
import Derived.Test.YtfcobfjjcocggaaDoorCGlyph
import Derived.Test.YtfcobfjjcocggaaDoorEnc
import Derived.Laws.BytesArg
import Derived.Test.YtfcobfjjcocggaaDoorCxf14
namespace Go.Proofs.YtfcobfjjcocggaaDoor.C
open Go.RowKit Go.Proofs.YtfcobfjjcocggaaDoorW.PrintWords Go.Proofs.YtfcobfjjcocggaaDoorW.PrintLast
namespace Pl

theorem get_rd (l : List S30) (i : Nat) (h : i < l.length) : rd_T30 l (i : Int) = l[i] := by
  unfold rd_T30
  rw [Int.toNat_natCast, List.getD_eq_getElem?_getD, List.getElem?_eq_getElem h]
  rfl
theorem cells_count (s : ByteArray) : ∀ f i, (gCells s f i).length = Lib.runeCountFrom s f i
  | 0, _ => rfl
  | f + 1, i => by
    unfold gCells Lib.runeCountFrom
    split
    · rw [List.length_cons, cells_count s f]; omega
    · rfl
theorem cells_length (s : ByteArray) : (gCells s s.size 0).length = Lib.runeCount s := cells_count s s.size 0
theorem cells_le (s : ByteArray) : (gCells s s.size 0).length ≤ s.size := by rw [cells_length]; exact Lib.runeCount_le s
theorem cells_valid (s : ByteArray) : ∀ f i, s.size ≤ i + f → Lib.validGoD f (s.data.toList.drop i) = (gCells s f i).all (fun c => !c.f3)
  | 0, i, h => by rw [Utf.valid_end s 0 i (by omega)]; rfl
  | f + 1, i, h => by
    by_cases hi : i < s.size
    · have := Utf.width_pos s i hi
      rw [Utf.valid_step s f i hi, gCells_step s f i hi, List.all_cons, cells_valid s f _ (by omega)]
      rfl
    · rw [Utf.valid_end s _ i hi, gCells_end s _ i hi]; rfl
theorem valid_cells (s : ByteArray) : Lib.validD s.data.toList = (gCells s s.size 0).all (fun c => !c.f3) := by
  have := cells_valid s s.size 0 (by omega)
  unfold Lib.validD
  rw [Array.length_toList]
  simpa using this
theorem cell_byte (s : ByteArray) (i : Nat) : 0 ≤ (gCell s i).f4 ∧ (gCell s i).f4 < 256 := by
  show 0 ≤ (if Utf.bad s i = true then bt s i else 0) ∧ (if Utf.bad s i = true then bt s i else 0) < 256
  split
  · unfold bt
    split
    · rename_i h
      have := (s[((i : Int)).toNat]'h).toNat_lt
      omega
    · omega
  · omega
theorem cells_byte (s : ByteArray) : ∀ f i, ∀ c ∈ gCells s f i, 0 ≤ c.f4 ∧ c.f4 < 256
  | 0, _, c, h => by cases h
  | f + 1, i, c, h => by
    unfold gCells at h
    split at h
    · rcases List.mem_cons.1 h with rfl | h
      · exact cell_byte s i
      · exact cells_byte s f _ c h
    · cases h
theorem cell_bytes (s : ByteArray) (i : Nat) (h : i < s.size) : cBytes (gCell s i) = (s.data.toList.drop i).take (Utf8.decode s i).2 := by
  unfold cBytes
  cases hb : Utf.bad s i
  · have e : (gCell s i).f3 = false := hb
    have e3 : (gCell s i).f2 = ((Utf8.decode s i).1 : Int) := rfl
    rw [if_neg (by rw [e]; decide), e3]
    exact Utf.encode_bytes s i h hb
  · have e : (gCell s i).f3 = true := hb
    have e4 : (gCell s i).f4 = bt s i := by show (if Utf.bad s i = true then bt s i else 0) = _; rw [if_pos hb]
    rw [if_pos e, e4, bt_nat s i h, ((Utf.bad_iff s i).1 hb).2, ← Utf.bad_bytes s i h]
    simp
/-- The cells give the text back. -/
theorem text_cells (s : ByteArray) : ∀ f i, s.size ≤ i + f → gText (gCells s f i) = s.data.toList.drop i
  | 0, i, h => by
    rw [List.drop_of_length_le (by rw [Array.length_toList]; exact h)]
    rfl
  | f + 1, i, h => by
    by_cases hi : i < s.size
    · have := Utf.width_pos s i hi
      have ih := text_cells s f (i + (Utf8.decode s i).2) (by omega)
      rw [gCells_step s f i hi]
      unfold gText at ih ⊢
      rw [List.flatMap_cons, ih, cell_bytes s i hi, ← List.drop_drop, List.take_append_drop]
    · rw [gCells_end s _ i hi, List.drop_of_length_le (by rw [Array.length_toList]; exact Nat.le_of_not_lt hi)]
      rfl
theorem text_back (s : ByteArray) : (⟨(gText (gCells s s.size 0)).toArray⟩ : ByteArray) = s := by
  rw [text_cells s s.size 0 (by omega)]
  rfl
end Pl
end Go.Proofs.YtfcobfjjcocggaaDoor.C
