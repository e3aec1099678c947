/-
  The document's cells, byte by byte, are the model's decoding: the same list of cells.
-/
import Derived.Test.YtcpbalnbgmjhjaaDoorUtf
import Derived.Laws.BitsLemmas
import Derived.Test.YtcpbalnbgmjhjaaDoorEx5
namespace Go.Proofs.YtcpbalnbgmjhjaaDoor.E
open Go.RowKit Go.Proofs.YtcpbalnbgmjhjaaDoorW.PrintWords Go.Proofs.YtcpbalnbgmjhjaaDoorW.PrintLast
namespace Pl

theorem wrap_small (x : Int) (h : 0 ≤ x) (h2 : x < 9223372036854775808) : wrap64 x = x := by
  unfold wrap64
  omega
theorem wrap32_small (x : Int) (h : 0 ≤ x) (h2 : x < 2147483648) : wrap32 x = x := by
  unfold wrap32
  omega
theorem bt_nat (s : ByteArray) (i : Nat) (h : i < s.size) : bt s (i : Int) = ((s.get! i).toNat : Int) := by
  unfold bt
  rw [dif_pos (by simpa using h), Utf.get_lt s i h]
  simp
def want (b : Int) : Int := if b < 128 then 1 else if 194 ≤ b ∧ b ≤ 223 then 2 else if 224 ≤ b ∧ b ≤ 239 then 3 else if 240 ≤ b ∧ b ≤ 244 then 4 else 0
def sec (a b : Int) : Prop := if a = 224 then 160 ≤ b ∧ b ≤ 191 else if a = 237 then 128 ≤ b ∧ b ≤ 159 else if a = 240 then 144 ≤ b ∧ b ≤ 191 else if a = 244 then 128 ≤ b ∧ b ≤ 143 else 128 ≤ b ∧ b ≤ 191
instance (a b : Int) : Decidable (sec a b) := by unfold sec; infer_instance
theorem sec_iff (a b : Int) : sec a b ↔ (128 ≤ b ∧ b ≤ 191 ∧ (a = 224 → 160 ≤ b) ∧ (a = 237 → b ≤ 159) ∧ (a = 240 → 144 ≤ b) ∧ (a = 244 → b ≤ 143)) := by
  unfold sec
  repeat' split
  all_goals omega
/-- How many bytes fit. -/
def fitN (s : ByteArray) (i w : Int) : Int :=
  if 1 < w ∧ i + 1 < s.size ∧ sec (bt s i) (bt s (i + 1)) then
    (if 2 < w ∧ i + 2 < s.size ∧ (128 ≤ bt s (i + 2) ∧ bt s (i + 2) ≤ 191) then
      (if 3 < w ∧ i + 3 < s.size ∧ (128 ≤ bt s (i + 3) ∧ bt s (i + 3) ≤ 191) then 4 else 3) else 2) else 1
theorem two (x y : Int) (hx : 0 ≤ x) (hx2 : x < 256) (hy : 0 ≤ y) (hy2 : y < 256) :
    Go.bits .or .i32 (wrap32 ((wrap32 (Go.bits .and .u8 x 31)) * 64)) (wrap32 (Go.bits .and .u8 y 63)) = x % 32 * 64 + y % 64 := by
  rw [u8_and31 x hx hx2, u8_and63 y hy hy2, wrap32_small (x % 32) (by omega) (by omega), wrap32_small (y % 64) (by omega) (by omega), wrap32_small (x % 32 * 64) (by omega) (by omega)]
  exact i32_or6 _ _ (by omega) (by omega) (by omega) (by omega) (by omega)
theorem three (x y z : Int) (hx : 0 ≤ x) (hx2 : x < 256) (hy : 0 ≤ y) (hy2 : y < 256) (hz : 0 ≤ z) (hz2 : z < 256) :
    Go.bits .or .i32 (Go.bits .or .i32 (wrap32 ((wrap32 (Go.bits .and .u8 x 15)) * 4096)) (wrap32 ((wrap32 (Go.bits .and .u8 y 63)) * 64))) (wrap32 (Go.bits .and .u8 z 63)) = x % 16 * 4096 + y % 64 * 64 + z % 64 := by
  rw [u8_and15 x hx hx2, u8_and63 y hy hy2, u8_and63 z hz hz2, wrap32_small (x % 16) (by omega) (by omega), wrap32_small (y % 64) (by omega) (by omega), wrap32_small (z % 64) (by omega) (by omega), wrap32_small (x % 16 * 4096) (by omega) (by omega), wrap32_small (y % 64 * 64) (by omega) (by omega)]
  rw [i32_or12 (x % 16 * 4096) (y % 64 * 64) (by omega) (by omega) (by omega) (by omega) (by omega)]
  exact i32_or6 _ _ (by omega) (by omega) (by omega) (by omega) (by omega)
theorem four (x y z u : Int) (hx : 0 ≤ x) (hx2 : x < 256) (hy : 0 ≤ y) (hy2 : y < 256) (hz : 0 ≤ z) (hz2 : z < 256) (hu : 0 ≤ u) (hu2 : u < 256) :
    Go.bits .or .i32 (Go.bits .or .i32 (Go.bits .or .i32 (wrap32 ((wrap32 (Go.bits .and .u8 x 7)) * 262144)) (wrap32 ((wrap32 (Go.bits .and .u8 y 63)) * 4096))) (wrap32 ((wrap32 (Go.bits .and .u8 z 63)) * 64))) (wrap32 (Go.bits .and .u8 u 63)) = x % 8 * 262144 + y % 64 * 4096 + z % 64 * 64 + u % 64 := by
  rw [u8_and7 x hx hx2, u8_and63 y hy hy2, u8_and63 z hz hz2, u8_and63 u hu hu2, wrap32_small (x % 8) (by omega) (by omega), wrap32_small (y % 64) (by omega) (by omega), wrap32_small (z % 64) (by omega) (by omega), wrap32_small (u % 64) (by omega) (by omega), wrap32_small (x % 8 * 262144) (by omega) (by omega), wrap32_small (y % 64 * 4096) (by omega) (by omega), wrap32_small (z % 64 * 64) (by omega) (by omega)]
  rw [i32_or18 (x % 8 * 262144) (y % 64 * 4096) (by omega) (by omega) (by omega) (by omega) (by omega), i32_or12 (x % 8 * 262144 + y % 64 * 4096) (z % 64 * 64) (by omega) (by omega) (by omega) (by omega) (by omega)]
  exact i32_or6 _ _ (by omega) (by omega) (by omega) (by omega) (by omega)

def tup (c : S91) : Int × Int × Int × Bool × Int := (c.f0, c.f1, c.f2, c.f3, c.f4)
theorem gCell_bad (s : ByteArray) (i : Nat) (h : Utf8.decode s i = (65533, 1)) : tup (gCell s i) = ((i : Int), 1, 65533, true, bt s i) := by
  have hb : Utf.bad s i = true := (Utf.bad_iff s i).2 (by rw [h]; exact ⟨rfl, rfl⟩)
  unfold tup gCell
  rw [hb, h]
  rfl
theorem gCell_good (s : ByteArray) (i r k : Nat) (h : Utf8.decode s i = (r, k)) (hn : ¬ (r = 65533 ∧ k = 1)) : tup (gCell s i) = ((i : Int), (k : Int), (r : Int), false, 0) := by
  have hb : Utf.bad s i = false := Bool.eq_false_iff.2 (fun e => hn (by have := (Utf.bad_iff s i).1 e; rw [h] at this; exact this))
  unfold tup gCell
  rw [hb, h]
  rfl

end Pl
end Go.Proofs.YtcpbalnbgmjhjaaDoor.E
