/-
  Plain facts on the model's Utf8.encode and Utf8.decode: encoding is the library's table; what was decoded from good bytes encodes to just those bytes.
-/
import Derived.Test.YtfcobfjjcocggaaDoorUtf
import Derived.Lib.MapLaws
import Derived.Lib.RuneBytes
namespace Go.Proofs.YtfcobfjjcocggaaDoor.Utf
open Go.RowKit

theorem valid_iff (r : Int) : Utf8.valid r = true ↔ (0 ≤ r ∧ r < 55296) ∨ (57343 < r ∧ r ≤ 1114111) := by
  simp [Utf8.valid]
  omega
theorem ofNat_toUInt8 (n : Nat) : UInt8.ofNat n = n.toUInt8 := rfl
theorem encode_list (r : Int) : (Utf8.encode r).data.toList = Lib.encodeRune r := by
  unfold Utf8.encode Lib.encodeRune
  by_cases hv : Utf8.valid r = true
  · have h := (valid_iff r).1 hv
    simp only [hv, if_true]
    by_cases c1 : r.toNat < 128
    · rw [if_pos c1, Lib.encodeRuneZ_one (by omega) (by omega)]
      rfl
    · rw [if_neg c1]
      by_cases c2 : r.toNat < 2048
      · rw [if_pos c2, Lib.encodeRuneZ_two (by omega) (by omega)]
        simp only [List.map_cons, List.map_nil]
        rw [show (192 + r / 64).toNat = 192 + r.toNat / 64 from by omega, show (128 + r % 64).toNat = 128 + r.toNat % 64 from by omega]
      · rw [if_neg c2]
        by_cases c3 : r.toNat < 65536
        · rw [if_pos c3, Lib.encodeRuneZ_three (by omega)]
          simp only [List.map_cons, List.map_nil]
          rw [show (224 + r / 4096).toNat = 224 + r.toNat / 4096 from by omega, show (128 + r / 64 % 64).toNat = 128 + r.toNat / 64 % 64 from by omega, show (128 + r % 64).toNat = 128 + r.toNat % 64 from by omega]
        · rw [if_neg c3, Lib.encodeRuneZ_four (by omega) (by omega)]
          simp only [List.map_cons, List.map_nil]
          rw [show (240 + r / 262144).toNat = 240 + r.toNat / 262144 from by omega, show (128 + r / 4096 % 64).toNat = 128 + r.toNat / 4096 % 64 from by omega, show (128 + r / 64 % 64).toNat = 128 + r.toNat / 64 % 64 from by omega, show (128 + r % 64).toNat = 128 + r.toNat % 64 from by omega]
  · have h : r < 0 ∨ (55296 ≤ r ∧ r ≤ 57343) ∨ 1114111 < r := by
      have := mt (valid_iff r).2 hv
      omega
    simp only [Bool.not_eq_true] at hv
    simp only [hv, Bool.false_eq_true, if_false]
    rw [Lib.encodeRuneZ_bad h]
    decide
theorem drop_ne (s : ByteArray) (i : Nat) (h : i < s.size) : s.data.toList.drop i ≠ [] := by
  intro e
  have := congrArg List.length e
  rw [List.length_drop, Array.length_toList] at this
  have h2 : s.data.size = s.size := rfl
  simp at this
  omega
/-- What was decoded from good bytes encodes to just those. -/
theorem encode_bytes (s : ByteArray) (i : Nat) (h : i < s.size) (hb : bad s i = false) : (Utf8.encode ((Utf8.decode s i).1 : Int)).data.toList = (s.data.toList.drop i).take (Utf8.decode s i).2 := by
  have hn : ¬ ((Utf8.decode s i).1 = 65533 ∧ (Utf8.decode s i).2 = 1) := fun e => by rw [(bad_iff s i).2 e] at hb; cases hb
  rw [encode_list, ← Lib.decodeL_drop]
  rw [← Lib.decodeL_drop] at hn
  exact Lib.encode_decode _ (drop_ne s i h) hn
theorem bad_bytes (s : ByteArray) (i : Nat) (h : i < s.size) : [s.get! i] = (s.data.toList.drop i).take 1 := by
  have e : s.data.toList.drop i = s.data.toList[i]'(by simpa using h) :: s.data.toList.drop (i + 1) := List.drop_eq_getElem_cons (by simpa using h)
  rw [e, get_lt s i h]
  rfl
theorem encode_size (r : Int) : 1 ≤ (Lib.encodeRune r).length ∧ (Lib.encodeRune r).length ≤ 4 := by
  have := Lib.encodeRuneZ_length r
  simpa [Lib.encodeRune] using this
theorem valid_step (s : ByteArray) (f i : Nat) (h : i < s.size) : Lib.validGoD (f + 1) (s.data.toList.drop i) = (!bad s i && Lib.validGoD f (s.data.toList.drop (i + (Utf8.decode s i).2))) := by
  rw [Lib.validGoD, if_neg (drop_ne s i h), Lib.decodeL_drop, List.drop_drop]
  cases hb : bad s i
  · rw [if_neg (fun e => by rw [(bad_iff s i).2 e] at hb; cases hb)]
    rfl
  · rw [if_pos ((bad_iff s i).1 hb)]
    rfl
theorem valid_end (s : ByteArray) (f i : Nat) (h : ¬ i < s.size) : Lib.validGoD f (s.data.toList.drop i) = true := by
  rw [List.drop_of_length_le (by rw [Array.length_toList]; exact Nat.le_of_not_lt h)]
  cases f <;> simp [Lib.validGoD]
end Go.Proofs.YtfcobfjjcocggaaDoor.Utf
