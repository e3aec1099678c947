/-
  Plain facts on the model's Utf8.encode and Utf8.decode: encoding is the library's table; what was decoded from good bytes encodes to just those bytes.
-/
import Derived.Test.YtcpbalnbgmjhjaaDoorT1Utf
import Derived.Lib.MapLaws
import Derived.Lib.RuneBytes
namespace Go.Proofs.YtcpbalnbgmjhjaaDoor.Utf
open Go.RowKit
theorem drop_ne (s : ByteArray) (i : Nat) (h : i < s.size) : s.data.toList.drop i ≠ [] := by
  intro e
  have := congrArg List.length e
  rw [List.length_drop, Array.length_toList] at this
  have h2 : s.data.size = s.size := rfl
  simp at this
  omega
theorem valid_step (s : ByteArray) (f i : Nat) (h : i < s.size) : Lib.validGoD (f + 1) (s.data.toList.drop i) = (!bad s i && Lib.validGoD f (s.data.toList.drop (i + (Utf8.decode s i).2))) := by
  rw [Lib.validGoD, if_neg (drop_ne s i h), Lib.decodeL_drop, List.drop_drop]
  cases hb : bad s i
  · rw [if_neg (fun e => by rw [(bad_iff s i).2 e] at hb; cases hb)]
    rfl
  · rw [if_pos ((bad_iff s i).1 hb)]
    rfl
theorem valid_end (s : ByteArray) (f i : Nat) (h : ¬ i < s.size) : Lib.validGoD f (s.data.toList.drop i) = true := by
  rw [List.drop_of_length_le (by rw [Array.length_toList]; exact Nat.le_of_not_lt h)]
  cases f <;> simp [Lib.validGoD]
end Go.Proofs.YtcpbalnbgmjhjaaDoor.Utf
