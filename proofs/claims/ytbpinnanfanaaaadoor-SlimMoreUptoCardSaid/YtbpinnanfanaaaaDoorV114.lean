import Derived.Test.YtbpinnanfanaaaaDoorV15
import Derived.Laws.BitsLemmas
import Derived.Lib.MapLaws
import Derived.Lib.RuneBytes
import Derived.Laws.BytesArg
import Derived.Test.YtbpinnanfanaaaaDoorV17
/-
  The document's cells, byte by byte, are the model's decoding: the same list of cells.
-/
namespace Go.Proofs.YtbpinnanfanaaaaDoor.M
open Go.RowKit Go.Proofs.YtbpinnanfanaaaaDoorW.PrintWords Go.Proofs.YtbpinnanfanaaaaDoorW.PrintLast
namespace Pl
theorem wrap32_small (x : Int) (h : 0 ≤ x) (h2 : x < 2147483648) : wrap32 x = x := by
  unfold wrap32
  omega
def want (b : Int) : Int := if b < 128 then 1 else if 194 ≤ b ∧ b ≤ 223 then 2 else if 224 ≤ b ∧ b ≤ 239 then 3 else if 240 ≤ b ∧ b ≤ 244 then 4 else 0
def sec (a b : Int) : Prop := if a = 224 then 160 ≤ b ∧ b ≤ 191 else if a = 237 then 128 ≤ b ∧ b ≤ 159 else if a = 240 then 144 ≤ b ∧ b ≤ 191 else if a = 244 then 128 ≤ b ∧ b ≤ 143 else 128 ≤ b ∧ b ≤ 191
instance (a b : Int) : Decidable (sec a b) := by unfold sec; infer_instance
/-- How many bytes fit. -/
def fitN (s : ByteArray) (i w : Int) : Int :=
  if 1 < w ∧ i + 1 < s.size ∧ sec (bt s i) (bt s (i + 1)) then
    (if 2 < w ∧ i + 2 < s.size ∧ (128 ≤ bt s (i + 2) ∧ bt s (i + 2) ≤ 191) then
      (if 3 < w ∧ i + 3 < s.size ∧ (128 ≤ bt s (i + 3) ∧ bt s (i + 3) ≤ 191) then 4 else 3) else 2) else 1
theorem two (x y : Int) (hx : 0 ≤ x) (hx2 : x < 256) (hy : 0 ≤ y) (hy2 : y < 256) :
    Go.bits .or .i32 (wrap32 ((wrap32 (Go.bits .and .u8 x 31)) * 64)) (wrap32 (Go.bits .and .u8 y 63)) = x % 32 * 64 + y % 64 := by
  rw [u8_and31 x hx hx2, u8_and63 y hy hy2, wrap32_small (x % 32) (by omega) (by omega), wrap32_small (y % 64) (by omega) (by omega), wrap32_small (x % 32 * 64) (by omega) (by omega)]
  exact i32_or6 _ _ (by omega) (by omega) (by omega) (by omega) (by omega)
theorem three (x y z : Int) (hx : 0 ≤ x) (hx2 : x < 256) (hy : 0 ≤ y) (hy2 : y < 256) (hz : 0 ≤ z) (hz2 : z < 256) :
    Go.bits .or .i32 (Go.bits .or .i32 (wrap32 ((wrap32 (Go.bits .and .u8 x 15)) * 4096)) (wrap32 ((wrap32 (Go.bits .and .u8 y 63)) * 64))) (wrap32 (Go.bits .and .u8 z 63)) = x % 16 * 4096 + y % 64 * 64 + z % 64 := by
  rw [u8_and15 x hx hx2, u8_and63 y hy hy2, u8_and63 z hz hz2, wrap32_small (x % 16) (by omega) (by omega), wrap32_small (y % 64) (by omega) (by omega), wrap32_small (z % 64) (by omega) (by omega), wrap32_small (x % 16 * 4096) (by omega) (by omega), wrap32_small (y % 64 * 64) (by omega) (by omega)]
  rw [i32_or12 (x % 16 * 4096) (y % 64 * 64) (by omega) (by omega) (by omega) (by omega) (by omega)]
  exact i32_or6 _ _ (by omega) (by omega) (by omega) (by omega) (by omega)
def tup (c : S93) : Int × Int × Int × Bool × Int := (c.f0, c.f1, c.f2, c.f3, c.f4)
end Pl
end Go.Proofs.YtbpinnanfanaaaaDoor.M
/-
  Plain facts on the model's Utf8.encode and Utf8.decode: encoding is the library's table; what was decoded from good bytes encodes to just those bytes.
-/
namespace Go.Proofs.YtbpinnanfanaaaaDoor.Utf
open Go.RowKit
end Go.Proofs.YtbpinnanfanaaaaDoor.Utf
/-
  Plain facts on the list of a text's cells: its length is the runes' number, its runes are the text's, its bytes give the text back; the document's written runes are the model's encoding.
-/
namespace Go.Proofs.YtbpinnanfanaaaaDoor.M
open Go.RowKit Go.Proofs.YtbpinnanfanaaaaDoorW.PrintWords Go.Proofs.YtbpinnanfanaaaaDoorW.PrintLast
namespace Pl
theorem get_rd (l : List S93) (i : Nat) (h : i < l.length) : rd_T93 l (i : Int) = l[i] := by
  unfold rd_T93
  rw [Int.toNat_natCast, List.getD_eq_getElem?_getD, List.getElem?_eq_getElem h]
  rfl
theorem cells_count (s : ByteArray) : ∀ f i, (gCells s f i).length = Lib.runeCountFrom s f i
  | 0, _ => rfl
  | f + 1, i => by
    unfold gCells Lib.runeCountFrom
    split
    · rw [List.length_cons, cells_count s f]; omega
    · rfl
theorem cells_length (s : ByteArray) : (gCells s s.size 0).length = Lib.runeCount s := cells_count s s.size 0
theorem cells_le (s : ByteArray) : (gCells s s.size 0).length ≤ s.size := by rw [cells_length]; exact Lib.runeCount_le s
theorem cell_byte (s : ByteArray) (i : Nat) : 0 ≤ (gCell s i).f4 ∧ (gCell s i).f4 < 256 := by
  show 0 ≤ (if Utf.bad s i = true then bt s i else 0) ∧ (if Utf.bad s i = true then bt s i else 0) < 256
  split
  · unfold bt
    split
    · rename_i h
      have := (s[((i : Int)).toNat]'h).toNat_lt
      omega
    · omega
  · omega
theorem cells_byte (s : ByteArray) : ∀ f i, ∀ c ∈ gCells s f i, 0 ≤ c.f4 ∧ c.f4 < 256
  | 0, _, c, h => by cases h
  | f + 1, i, c, h => by
    unfold gCells at h
    split at h
    · rcases List.mem_cons.1 h with rfl | h
      · exact cell_byte s i
      · exact cells_byte s f _ c h
    · cases h
end Pl
end Go.Proofs.YtbpinnanfanaaaaDoor.M
/-
  A text's pieces (its cells' bytes), as the program has them and as the document has them: two cells are the same just where their bytes are.
-/
namespace Go.Proofs.YtbpinnanfanaaaaDoor.Pure
open Go.RowKit Go.Proofs.YtbpinnanfanaaaaDoor.M Go.Proofs.YtbpinnanfanaaaaDoorW.PrintWords Go.Proofs.YtbpinnanfanaaaaDoorW.PrintLast
theorem ws (x : Int) (h : -9223372036854775808 ≤ x) (h2 : x < 9223372036854775808) : wrap64 x = x := by
  unfold wrap64
  omega
/-- A cell's piece of its text. -/
def pc (s : ByteArray) (c : S93) : ByteArray := s.extract c.f0.toNat (c.f0 + c.f1).toNat
/-- A text's pieces. -/
def pcs (s : ByteArray) : List ByteArray := (gCells s s.size 0).map (pc s)
/-- A text's pieces as lists of bytes. -/
def cb (s : ByteArray) : List (List UInt8) := (pcs s).map (·.toList)
theorem pcs_len (s : ByteArray) : (pcs s).length = (gCells s s.size 0).length := by unfold pcs; rw [List.length_map]
theorem cb_len (s : ByteArray) : (cb s).length = (gCells s s.size 0).length := by unfold cb; rw [List.length_map, pcs_len]
theorem cells_range (s : ByteArray) : ∀ f i, i ≤ s.size → ∀ c ∈ gCells s f i, ∃ j, j < s.size ∧ c = gCell s j
  | 0, _, _, c, h => by cases h
  | f + 1, i, hi, c, h => by
    unfold gCells at h
    split at h
    · rename_i hlt
      rcases List.mem_cons.1 h with rfl | h
      · exact ⟨i, hlt, rfl⟩
      · exact cells_range s f _ (Utf.width_le s i hlt) c h
    · cases h
theorem pieces_loop (s : ByteArray) (hs : s.size ≤ 4294967296) (L : List S93) (hl : L.length ≤ 4294967296) (hL : ∀ c ∈ L, ∃ j, j < s.size ∧ c = gCell s j) : ∀ (d i k : Nat) (acc : List ByteArray), i + d = L.length → acc.length = i → d + 1 ≤ k →
    dist_pieces.l0 k s acc L (L.length : Int) (i : Int) = some (acc ++ (L.drop i).map (pc s))
  | 0, i, k, acc, hd, ha, hk => by
    obtain ⟨k, rfl⟩ : ∃ m, k = m + 1 := ⟨k - 1, by omega⟩
    rw [dist_pieces.l0, if_neg (by omega), List.drop_of_length_le (by omega)]
    simp
  | d + 1, i, k, acc, hd, ha, hk => by
    obtain ⟨k, rfl⟩ : ∃ m, k = m + 1 := ⟨k - 1, by omega⟩
    have hi : i < L.length := by omega
    obtain ⟨j, hj, hc⟩ := hL _ (List.getElem_mem hi)
    have e2 : ((i + 1 : Nat) : Int) = (i : Int) + 1 := by omega
    have hw1 := Utf.width_pos s j hj
    have hw2 := Utf.width_le s j hj
    have f0 : (rd_T93 L (i : Int)).f0 = (j : Int) := by rw [Pl.get_rd L i hi, hc]; rfl
    have f1 : (rd_T93 L (i : Int)).f1 = ((Utf8.decode s j).2 : Int) := by rw [Pl.get_rd L i hi, hc]; rfl
    have hp : pc s L[i] = s.extract j (j + (Utf8.decode s j).2) := by
      rw [hc]
      show s.extract ((j : Int)).toNat ((j : Int) + ((Utf8.decode s j).2 : Int)).toNat = _
      rw [Int.toNat_natCast]
      congr 1
    rw [dist_pieces.l0, if_pos (by omega), if_pos (by omega), if_pos (by omega), f0, f1, if_pos (by omega), ws ((j : Int) + _) (by omega) (by omega), if_pos (by omega), if_pos (by omega), if_pos (by omega), ws ((i : Int) + 1) (by omega) (by omega), ← e2]
    rw [pieces_loop s hs L hl hL d (i + 1) k _ (by omega) (by simp; omega) (by omega), List.drop_eq_getElem_cons hi, List.map_cons, hp]
    have e3 : ((j : Int) + ((Utf8.decode s j).2 : Int)).toNat = j + (Utf8.decode s j).2 := by omega
    rw [e3, Int.toNat_natCast]
    simp
theorem pieces_eq (s : ByteArray) (hs : s.size ≤ 4294967296) (k : Nat) (hk : s.size + 1 ≤ k) : dist_pieces.f k s = some (pcs s) := by
  have hl := Pl.cells_le s
  unfold dist_pieces.f glyph_Cells.f
  rw [if_pos hs, Option.bind_some]
  have := pieces_loop s hs (gCells s s.size 0) (by omega) (cells_range s s.size 0 (by omega)) (gCells s s.size 0).length 0 k [] (by omega) rfl (by omega)
  simpa [pcs] using this
theorem both_eq (a b : ByteArray) (ha : a.size ≤ 4294967296) (hb : b.size ≤ 4294967296) (k : Nat) (hk : a.size + 1 ≤ k) (hk2 : b.size + 1 ≤ k) :
    dist_both.f k a b = if (pcs a).length ≤ 256 ∧ (pcs b).length ≤ 256 then some (pcs a, pcs b, 0) else some ([], [], 1) := by
  unfold dist_both.f
  rw [pieces_eq a ha k hk, Option.bind_some, pieces_eq b hb k hk2, Option.bind_some]
  by_cases h1 : (pcs a).length ≤ 256
  · rw [if_neg (by omega)]
    by_cases h2 : (pcs b).length ≤ 256
    · rw [if_neg (by omega), if_pos ⟨h1, h2⟩]
    · rw [if_pos (by omega), if_neg (fun h => h2 h.2)]
  · rw [if_pos (by omega), if_neg (fun h => h1 h.1)]
theorem ext_toList (s : ByteArray) (i n : Nat) : (s.extract i (i + n)).data.toList = (s.data.toList.drop i).take n := by
  rw [ByteArray.data_extract]
  simp [List.extract_eq_take_drop]
theorem toList_data (s : ByteArray) : s.toList = s.data.toList := ByteArray.toList_eq s
/-- The bytes of the piece of the cell at j. -/
theorem piece_bytes (s : ByteArray) (j : Nat) : (pc s (gCell s j)).toList = (s.data.toList.drop j).take (Utf8.decode s j).2 := by
  rw [toList_data]
  show (s.extract ((j : Int)).toNat ((j : Int) + ((Utf8.decode s j).2 : Int)).toNat).data.toList = _
  have e3 : ((j : Int) + ((Utf8.decode s j).2 : Int)).toNat = j + (Utf8.decode s j).2 := by omega
  rw [e3, Int.toNat_natCast, ext_toList]
/-- A text is the bytes of its pieces. -/
theorem cells_bytes (s : ByteArray) : ∀ f i, s.size ≤ i + f → ((gCells s f i).map (fun c => (pc s c).toList)).flatten = s.data.toList.drop i
  | 0, i, h => by
    rw [List.drop_of_length_le (by rw [Array.length_toList]; have : s.data.size = s.size := rfl; omega)]
    rfl
  | f + 1, i, h => by
    unfold gCells
    split
    · rename_i hlt
      have := Utf.width_pos s i hlt
      rw [List.map_cons, List.flatten_cons, cells_bytes s f _ (by omega), piece_bytes, ← List.drop_drop]
      exact List.take_append_drop _ _
    · rw [List.drop_of_length_le (by rw [Array.length_toList]; have : s.data.size = s.size := rfl; omega)]
      rfl
theorem cb_flat (s : ByteArray) : (cb s).flatten = s.data.toList := by
  have := cells_bytes s s.size 0 (by omega)
  rw [List.drop_zero] at this
  unfold cb pcs
  rw [List.map_map]
  exact this
theorem cb_inj (a b : ByteArray) : cb a = cb b ↔ a.toList = b.toList := by
  constructor
  · intro h
    rw [toList_data, toList_data, ← cb_flat a, ← cb_flat b, h]
  · intro h
    rw [toList_data, toList_data] at h
    have : a = b := by
      apply ByteArray.ext
      apply Array.ext'
      exact h
    rw [this]
end Go.Proofs.YtbpinnanfanaaaaDoor.Pure
