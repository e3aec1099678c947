/-
  Plain facts on the model's Utf8.decode (no program in them): widths, shifts, rune lengths, and that utf8's two tables stand behind a call that changes nothing below.
-/
import Derived.Shelf.Unicode.DecodeAny
import Derived.Lib.RuneCount
import Derived.Lib.Small
import Derived.Lib.RuneBytes
import Derived.Lib.ValidU
import Derived.WalkKit
namespace Go.Proofs.YtfcobfjjcocggaaDoor.Utf
open Go.RowKit

theorem tabs_step {g0 g1 : Nat} {w W : World} (h : Lib.Utf8Tabs g0 g1 w) (hb : Below w.heap.size w W) : Lib.Utf8Tabs g0 g1 W :=
  ⟨fun c hc => (hb.cell (World.block_lt_of_cell? w _ (h.1 c hc))).trans (h.1 c hc), fun i hi =>
    ⟨(hb.cell (World.block_lt_of_cell? w _ (h.2 i hi).1)).trans (h.2 i hi).1, (hb.cell (World.block_lt_of_cell? w _ (h.2 i hi).2)).trans (h.2 i hi).2⟩⟩

theorem get_ge (s : ByteArray) (k : Nat) (h : s.size ≤ k) : s.get! k = 0 := by
  cases s with
  | mk d => exact getElem!_neg d k (by have : d.size ≤ k := h; omega)
theorem get_lt (s : ByteArray) (k : Nat) (h : k < s.size) : s.get! k = s[k]'h := Utf8W.get!_of_lt s k h
theorem byte_lt (s : ByteArray) (k : Nat) : (s.get! k).toNat < 256 := (s.get! k).toNat_lt

theorem get_extract (s : ByteArray) (i j k : Nat) (hj : j ≤ s.size) (hk : i + k < j) : (s.extract i j).get! k = s.get! (i + k) := by
  rw [get_lt _ _ (by rw [ByteArray.size_extract]; omega), get_lt _ _ (by omega)]
  simp [ByteArray.getElem_extract]

theorem get_tail (s : ByteArray) (i k : Nat) : (s.extract i s.size).get! k = s.get! (i + k) := by
  by_cases h : i + k < s.size
  · exact get_extract s i s.size k (Nat.le_refl _) h
  · rw [get_ge _ _ (by rw [ByteArray.size_extract]; omega), get_ge _ _ (by omega)]

/-- What is decoded behind a cut's begin. -/
theorem decode_tail (s : ByteArray) (i j : Nat) : Utf8.decode (s.extract i s.size) j = Utf8.decode s (i + j) := by
  rw [Lib.decode_at, Lib.decode_at, get_tail s i j, get_tail s i (j + 1), get_tail s i (j + 2), get_tail s i (j + 3)]
  have : (s.extract i s.size).size - j = s.size - (i + j) := by rw [ByteArray.size_extract]; omega
  rw [this]; rfl

theorem width_cases (s : ByteArray) (i : Nat) (h : i < s.size) :
    ((Utf8.decode s i).2 = 1 ∨ (Utf8.decode s i).2 = 2 ∨ (Utf8.decode s i).2 = 3 ∨ (Utf8.decode s i).2 = 4) ∧ i + (Utf8.decode s i).2 ≤ s.size := by
  rw [Lib.decode_at]
  unfold Lib.decodeN
  repeat' split
  all_goals (dsimp only; omega)
theorem width_pos (s : ByteArray) (i : Nat) (h : i < s.size) : 1 ≤ (Utf8.decode s i).2 := by have := width_cases s i h; omega
theorem width_le (s : ByteArray) (i : Nat) (h : i < s.size) : i + (Utf8.decode s i).2 ≤ s.size := (width_cases s i h).2
theorem rune_le (s : ByteArray) (i : Nat) : (Utf8.decode s i).1 ≤ 1114111 := by
  rw [Lib.decode_at]
  have := byte_lt s i
  unfold Lib.decodeN
  repeat' split
  all_goals (dsimp only; omega)

/-- Is the byte at i part of no rune? -/
def bad (s : ByteArray) (i : Nat) : Bool := decide ((Utf8.decode s i).1 = 65533) && decide ((Utf8.decode s i).2 = 1)
theorem bad_iff (s : ByteArray) (i : Nat) : bad s i = true ↔ (Utf8.decode s i).1 = 65533 ∧ (Utf8.decode s i).2 = 1 := by simp [bad]

theorem decode_spec (s : ByteArray) (i : Nat) : ∃ r k, Utf8.decode s i = (r, k) ∧
    ((k = 1 ∧ (r < 128 ∨ r = 65533)) ∨ (k = 2 ∧ 128 ≤ r ∧ r < 2048) ∨ (k = 3 ∧ 2048 ≤ r ∧ r ≤ 65535 ∧ (r < 55296 ∨ 57344 ≤ r)) ∨ (k = 4 ∧ 65536 ≤ r ∧ r ≤ 1114111)) := by
  have b0 := byte_lt s i
  rw [Lib.decode_at]
  unfold Lib.decodeN
  repeat' split
  all_goals exact ⟨_, _, rfl, by omega⟩

theorem runeLen_good (s : ByteArray) (i : Nat) (h : bad s i = false) : Lib.runeLen ((Utf8.decode s i).1 : Int) = ((Utf8.decode s i).2 : Int) := by
  have hb : ¬ ((Utf8.decode s i).1 = 65533 ∧ (Utf8.decode s i).2 = 1) := fun e => by rw [(bad_iff s i).2 e] at h; cases h
  obtain ⟨r, k, e, hk⟩ := decode_spec s i
  rw [e] at hb ⊢
  dsimp only at hb ⊢
  unfold Lib.runeLen
  repeat' split
  all_goals omega

theorem decodeGo_tail (s : ByteArray) (i : Nat) (h : i < s.size) : Lib.decodeGo (s.extract i s.size) = Utf8.decode s i := by
  have hz : (s.extract i s.size).size ≠ 0 := by rw [ByteArray.size_extract]; omega
  unfold Lib.decodeGo
  rw [if_neg hz, decode_tail s i 0, Nat.add_zero]

end Go.Proofs.YtfcobfjjcocggaaDoor.Utf
