/-
  The document's cells, byte by byte, are the model's decoding: the same list of cells.
-/
import Derived.Test.YtfcobfjjcocggaaDoorUtf
import Derived.Laws.BitsLemmas
import Derived.Test.YtfcobfjjcocggaaDoorCxf21
import Derived.Test.YtfcobfjjcocggaaDoorCxf17
import Derived.Test.YtfcobfjjcocggaaDoorCxf40
import Derived.Test.YtfcobfjjcocggaaDoorCxf50
import Derived.Test.YtfcobfjjcocggaaDoorCxf49
import Derived.Test.YtfcobfjjcocggaaDoorCxf56
import Derived.Test.YtfcobfjjcocggaaDoorCxf57
namespace Go.Proofs.YtfcobfjjcocggaaDoor.C
open Go.RowKit Go.Proofs.YtfcobfjjcocggaaDoorW.PrintWords Go.Proofs.YtfcobfjjcocggaaDoorW.PrintLast
namespace Pl

theorem wrap_small (x : Int) (h : 0 ≤ x) (h2 : x < 9223372036854775808) : wrap64 x = x := by
  unfold wrap64
  omega
theorem wrap32_small (x : Int) (h : 0 ≤ x) (h2 : x < 2147483648) : wrap32 x = x := by
  unfold wrap32
  omega
theorem bt_nat (s : ByteArray) (i : Nat) (h : i < s.size) : bt s (i : Int) = ((s.get! i).toNat : Int) := by
  unfold bt
  rw [dif_pos (by simpa using h), Utf.get_lt s i h]
  simp
theorem between_some (a lo hi : Int) : siglumref01_between.f a lo hi = some (decide (lo ≤ a ∧ a ≤ hi)) := by
  unfold siglumref01_between.f
  by_cases h : lo ≤ a <;> simp [h]
def want (b : Int) : Int := if b < 128 then 1 else if 194 ≤ b ∧ b ≤ 223 then 2 else if 224 ≤ b ∧ b ≤ 239 then 3 else if 240 ≤ b ∧ b ≤ 244 then 4 else 0
theorem wants_some (b : Int) : siglumref01_wants.f b = some (want b) := by
  unfold siglumref01_wants.f want
  simp only [between_some, Option.bind_some, decide_eq_true_eq]
  split
  · rfl
  · split
    · rfl
    · split
      · rfl
      · split <;> rfl
def sec (a b : Int) : Prop := if a = 224 then 160 ≤ b ∧ b ≤ 191 else if a = 237 then 128 ≤ b ∧ b ≤ 159 else if a = 240 then 144 ≤ b ∧ b ≤ 191 else if a = 244 then 128 ≤ b ∧ b ≤ 143 else 128 ≤ b ∧ b ≤ 191
instance (a b : Int) : Decidable (sec a b) := by unfold sec; infer_instance
theorem sec_iff (a b : Int) : sec a b ↔ (128 ≤ b ∧ b ≤ 191 ∧ (a = 224 → 160 ≤ b) ∧ (a = 237 → b ≤ 159) ∧ (a = 240 → 144 ≤ b) ∧ (a = 244 → b ≤ 143)) := by
  unfold sec
  repeat' split
  all_goals omega
theorem second_some (a b : Int) : siglumref01_second.f a b = some (decide (sec a b)) := by
  unfold siglumref01_second.f sec
  simp only [between_some, Option.bind_some]
  split
  · rfl
  · split
    · rfl
    · split
      · rfl
      · split <;> rfl
theorem fits_stop (k : Nat) (s : ByteArray) (i n x : Int) (h : ¬ (x < n ∧ wrap64 (i + x) < (s.size : Int))) : siglumref01_fits.l0 (k + 2) s i n x = some x := by
  rw [siglumref01_fits.l0]
  by_cases h1 : x < n
  · rw [if_pos h1, decide_eq_false (fun h2 => h ⟨h1, h2⟩), siglumref01_fits.j1, if_neg (by decide)]
  · rw [if_neg h1, siglumref01_fits.j1, if_neg (by decide)]
theorem fits_one (k : Nat) (s : ByteArray) (i n : Int) (h0 : 0 ≤ i) (hn : 1 < n) (hi : i + 1 < (s.size : Int)) (hs : s.size ≤ 4294967296) :
    siglumref01_fits.l0 (k + 2) s i n 1 = if sec (bt s i) (bt s (i + 1)) then siglumref01_fits.l0 k s i n 2 else some 1 := by
  have hw : wrap64 (i + 1) = i + 1 := wrap_small _ (by omega) (by omega)
  rw [siglumref01_fits.l0, if_pos hn, hw, decide_eq_true hi, siglumref01_fits.j1, if_pos rfl, hw, if_pos (by omega), if_pos hi, if_pos rfl, if_pos h0, if_pos (by omega), second_some]
  simp only [Option.bind_some, decide_eq_true_eq]
  rw [show wrap64 (1 + 1) = 2 from by unfold wrap64; omega]
  by_cases h : sec (bt s i) (bt s (i + 1))
  · rw [if_pos h, if_pos h, if_neg (by decide)]
  · rw [if_neg h, if_neg h]
theorem fits_more (k : Nat) (s : ByteArray) (i n x : Int) (h0 : 0 ≤ i) (h1 : 1 < x) (hx : x < 5) (hn : x < n) (hi : i + x < (s.size : Int)) (hs : s.size ≤ 4294967296) :
    siglumref01_fits.l0 (k + 2) s i n x = if 128 ≤ bt s (i + x) ∧ bt s (i + x) ≤ 191 then siglumref01_fits.l0 k s i n (x + 1) else some x := by
  have hw : wrap64 (i + x) = i + x := wrap_small _ (by omega) (by omega)
  have hw2 : wrap64 (x + 1) = x + 1 := wrap_small _ (by omega) (by omega)
  rw [siglumref01_fits.l0, if_pos hn, hw, decide_eq_true hi, siglumref01_fits.j1, if_pos rfl, hw, if_pos (by omega), if_pos hi, if_neg (by omega), if_pos (by omega), between_some, hw2]
  simp only [Option.bind_some, decide_eq_true_eq]

/-- How many bytes fit. -/
def fitN (s : ByteArray) (i w : Int) : Int :=
  if 1 < w ∧ i + 1 < s.size ∧ sec (bt s i) (bt s (i + 1)) then
    (if 2 < w ∧ i + 2 < s.size ∧ (128 ≤ bt s (i + 2) ∧ bt s (i + 2) ≤ 191) then
      (if 3 < w ∧ i + 3 < s.size ∧ (128 ≤ bt s (i + 3) ∧ bt s (i + 3) ≤ 191) then 4 else 3) else 2) else 1
theorem fits_eq (k : Nat) (s : ByteArray) (i : Nat) (hi : i < s.size) (hs : s.size ≤ 4294967296) (hw : want (bt s i) ≠ 0) :
    siglumref01_fits.f (k + 10) s i = some (fitN s i (want (bt s i))) := by
  have hwr : want (bt s i) ≤ 4 := by unfold want; repeat' split <;> omega
  unfold siglumref01_fits.f
  rw [if_pos (by omega), if_pos (by omega), wants_some]
  simp only [Option.bind_some]
  rw [if_neg hw]
  generalize want (bt s i) = W at hwr hw ⊢
  have w1 : wrap64 ((i : Int) + 1) = (i : Int) + 1 := wrap_small _ (by omega) (by omega)
  have w2 : wrap64 ((i : Int) + 2) = (i : Int) + 2 := wrap_small _ (by omega) (by omega)
  have w3 : wrap64 ((i : Int) + 3) = (i : Int) + 3 := wrap_small _ (by omega) (by omega)
  unfold fitN
  by_cases a1 : 1 < W ∧ (i : Int) + 1 < s.size
  · rw [fits_one (k + 8) s i W (by omega) a1.1 a1.2 hs]
    by_cases a2 : sec (bt s i) (bt s ((i : Int) + 1))
    · rw [if_pos a2, if_pos ⟨a1.1, a1.2, a2⟩]
      by_cases a3 : 2 < W ∧ (i : Int) + 2 < s.size
      · rw [fits_more (k + 6) s i W 2 (by omega) (by omega) (by omega) a3.1 a3.2 hs]
        by_cases a4 : 128 ≤ bt s ((i : Int) + 2) ∧ bt s ((i : Int) + 2) ≤ 191
        · rw [if_pos a4, if_pos (c := 2 < W ∧ (i : Int) + 2 < s.size ∧ (128 ≤ bt s ((i : Int) + 2) ∧ bt s ((i : Int) + 2) ≤ 191)) ⟨a3.1, a3.2, a4⟩, show (2 : Int) + 1 = 3 from rfl]
          by_cases a5 : 3 < W ∧ (i : Int) + 3 < s.size
          · rw [fits_more (k + 4) s i W 3 (by omega) (by omega) (by omega) a5.1 a5.2 hs]
            by_cases a6 : 128 ≤ bt s ((i : Int) + 3) ∧ bt s ((i : Int) + 3) ≤ 191
            · rw [if_pos a6, if_pos (c := 3 < W ∧ (i : Int) + 3 < s.size ∧ (128 ≤ bt s ((i : Int) + 3) ∧ bt s ((i : Int) + 3) ≤ 191)) ⟨a5.1, a5.2, a6⟩, show (3 : Int) + 1 = 4 from rfl]
              rw [fits_stop (k + 2) s i W 4 (by omega)]
            · rw [if_neg a6, if_neg (c := 3 < W ∧ (i : Int) + 3 < s.size ∧ (128 ≤ bt s ((i : Int) + 3) ∧ bt s ((i : Int) + 3) ≤ 191)) (fun e => a6 e.2.2)]
          · rw [fits_stop (k + 4) s i W 3 (by rw [w3]; exact a5), if_neg (c := 3 < W ∧ (i : Int) + 3 < s.size ∧ (128 ≤ bt s ((i : Int) + 3) ∧ bt s ((i : Int) + 3) ≤ 191)) (fun e => a5 ⟨e.1, e.2.1⟩)]
        · rw [if_neg a4, if_neg (c := 2 < W ∧ (i : Int) + 2 < s.size ∧ (128 ≤ bt s ((i : Int) + 2) ∧ bt s ((i : Int) + 2) ≤ 191)) (fun e => a4 e.2.2)]
      · rw [fits_stop (k + 6) s i W 2 (by rw [w2]; exact a3), if_neg (c := 2 < W ∧ (i : Int) + 2 < s.size ∧ (128 ≤ bt s ((i : Int) + 2) ∧ bt s ((i : Int) + 2) ≤ 191)) (fun e => a3 ⟨e.1, e.2.1⟩)]
    · rw [if_neg a2, if_neg (c := 1 < W ∧ (i : Int) + 1 < s.size ∧ sec (bt s i) (bt s ((i : Int) + 1))) (fun e => a2 e.2.2)]
  · rw [fits_stop (k + 8) s i W 1 (by rw [w1]; exact a1), if_neg (c := 1 < W ∧ (i : Int) + 1 < s.size ∧ sec (bt s i) (bt s ((i : Int) + 1))) (fun e => a1 ⟨e.1, e.2.1⟩)]

theorem two (x y : Int) (hx : 0 ≤ x) (hx2 : x < 256) (hy : 0 ≤ y) (hy2 : y < 256) :
    Go.bits .or .i32 (wrap32 ((wrap32 (Go.bits .and .u8 x 31)) * 64)) (wrap32 (Go.bits .and .u8 y 63)) = x % 32 * 64 + y % 64 := by
  rw [u8_and31 x hx hx2, u8_and63 y hy hy2, wrap32_small (x % 32) (by omega) (by omega), wrap32_small (y % 64) (by omega) (by omega), wrap32_small (x % 32 * 64) (by omega) (by omega)]
  exact i32_or6 _ _ (by omega) (by omega) (by omega) (by omega) (by omega)
theorem three (x y z : Int) (hx : 0 ≤ x) (hx2 : x < 256) (hy : 0 ≤ y) (hy2 : y < 256) (hz : 0 ≤ z) (hz2 : z < 256) :
    Go.bits .or .i32 (Go.bits .or .i32 (wrap32 ((wrap32 (Go.bits .and .u8 x 15)) * 4096)) (wrap32 ((wrap32 (Go.bits .and .u8 y 63)) * 64))) (wrap32 (Go.bits .and .u8 z 63)) = x % 16 * 4096 + y % 64 * 64 + z % 64 := by
  rw [u8_and15 x hx hx2, u8_and63 y hy hy2, u8_and63 z hz hz2, wrap32_small (x % 16) (by omega) (by omega), wrap32_small (y % 64) (by omega) (by omega), wrap32_small (z % 64) (by omega) (by omega), wrap32_small (x % 16 * 4096) (by omega) (by omega), wrap32_small (y % 64 * 64) (by omega) (by omega)]
  rw [i32_or12 (x % 16 * 4096) (y % 64 * 64) (by omega) (by omega) (by omega) (by omega) (by omega)]
  exact i32_or6 _ _ (by omega) (by omega) (by omega) (by omega) (by omega)
theorem four (x y z u : Int) (hx : 0 ≤ x) (hx2 : x < 256) (hy : 0 ≤ y) (hy2 : y < 256) (hz : 0 ≤ z) (hz2 : z < 256) (hu : 0 ≤ u) (hu2 : u < 256) :
    Go.bits .or .i32 (Go.bits .or .i32 (Go.bits .or .i32 (wrap32 ((wrap32 (Go.bits .and .u8 x 7)) * 262144)) (wrap32 ((wrap32 (Go.bits .and .u8 y 63)) * 4096))) (wrap32 ((wrap32 (Go.bits .and .u8 z 63)) * 64))) (wrap32 (Go.bits .and .u8 u 63)) = x % 8 * 262144 + y % 64 * 4096 + z % 64 * 64 + u % 64 := by
  rw [u8_and7 x hx hx2, u8_and63 y hy hy2, u8_and63 z hz hz2, u8_and63 u hu hu2, wrap32_small (x % 8) (by omega) (by omega), wrap32_small (y % 64) (by omega) (by omega), wrap32_small (z % 64) (by omega) (by omega), wrap32_small (u % 64) (by omega) (by omega), wrap32_small (x % 8 * 262144) (by omega) (by omega), wrap32_small (y % 64 * 4096) (by omega) (by omega), wrap32_small (z % 64 * 64) (by omega) (by omega)]
  rw [i32_or18 (x % 8 * 262144) (y % 64 * 4096) (by omega) (by omega) (by omega) (by omega) (by omega), i32_or12 (x % 8 * 262144 + y % 64 * 4096) (z % 64 * 64) (by omega) (by omega) (by omega) (by omega) (by omega)]
  exact i32_or6 _ _ (by omega) (by omega) (by omega) (by omega) (by omega)

def tup (c : S30) : Int × Int × Int × Bool × Int := (c.f0, c.f1, c.f2, c.f3, c.f4)
theorem gCell_bad (s : ByteArray) (i : Nat) (h : Utf8.decode s i = (65533, 1)) : tup (gCell s i) = ((i : Int), 1, 65533, true, bt s i) := by
  have hb : Utf.bad s i = true := (Utf.bad_iff s i).2 (by rw [h]; exact ⟨rfl, rfl⟩)
  unfold tup gCell
  rw [hb, h]
  rfl
theorem gCell_good (s : ByteArray) (i r k : Nat) (h : Utf8.decode s i = (r, k)) (hn : ¬ (r = 65533 ∧ k = 1)) : tup (gCell s i) = ((i : Int), (k : Int), (r : Int), false, 0) := by
  have hb : Utf.bad s i = false := Bool.eq_false_iff.2 (fun e => hn (by have := (Utf.bad_iff s i).1 e; rw [h] at this; exact this))
  unfold tup gCell
  rw [hb, h]
  rfl

set_option maxHeartbeats 2000000 in
/-- The cell at i. -/
theorem cell_eq (k : Nat) (s : ByteArray) (i : Nat) (hi : i < s.size) (hs : s.size ≤ 4294967296) : siglumref01_cell.f (k + 11) s i = some (tup (gCell s i)) := by
  have b0 := Utf.byte_lt s i
  have b1 := Utf.byte_lt s (i + 1)
  have b2 := Utf.byte_lt s (i + 2)
  have b3 := Utf.byte_lt s (i + 3)
  have e0 := bt_nat s i hi
  have e1 : i + 1 < s.size → bt s ((i : Int) + 1) = ((s.get! (i + 1)).toNat : Int) := fun h => bt_nat s (i + 1) h
  have e2 : i + 2 < s.size → bt s ((i : Int) + 2) = ((s.get! (i + 2)).toNat : Int) := fun h => bt_nat s (i + 2) h
  have e3 : i + 3 < s.size → bt s ((i : Int) + 3) = ((s.get! (i + 3)).toNat : Int) := fun h => bt_nat s (i + 3) h
  have w1 : wrap64 ((i : Int) + 1) = (i : Int) + 1 := wrap_small _ (by omega) (by omega)
  have w2 : wrap64 ((i : Int) + 2) = (i : Int) + 2 := wrap_small _ (by omega) (by omega)
  have w3 : wrap64 ((i : Int) + 3) = (i : Int) + 3 := wrap_small _ (by omega) (by omega)
  have hd := Lib.decode_at s i
  have hbad : ∀ W, siglumref01_cell.j0 (k + 11) s i W true = some ((i : Int), 1, 65533, true, bt s i) := by
    intro W
    rw [siglumref01_cell.j0, if_pos rfl, if_pos (by omega), if_pos (by omega)]
  unfold siglumref01_cell.f
  rw [if_pos (by omega), if_pos (by omega), wants_some]
  simp only [Option.bind_some]
  obtain ⟨W, hW⟩ : ∃ W, want (bt s i) = W := ⟨_, rfl⟩
  have hr : (W = 0 ∨ W = 1 ∨ W = 2 ∨ W = 3 ∨ W = 4) := by rw [← hW]; unfold want; repeat' split <;> omega
  by_cases hw : W = 0
  · rw [hW, if_pos hw, hbad, gCell_bad]
    rw [hd]
    rw [e0, hw] at hW
    unfold want at hW
    unfold Lib.decodeN
    repeat' split
    all_goals first | rfl | (exfalso; repeat' split at hW; all_goals omega)
  · rw [if_neg (by rw [hW]; exact hw), fits_eq (k + 1) s i hi hs (by rw [hW]; exact hw), hW]
    simp only [Option.bind_some]
    generalize hB0 : (s.get! i).toNat = B0 at *
    generalize hB1 : (s.get! (i + 1)).toNat = B1 at *
    generalize hB2 : (s.get! (i + 2)).toNat = B2 at *
    generalize hB3 : (s.get! (i + 3)).toNat = B3 at *
    unfold fitN
    rcases hr with rfl | rfl | rfl | rfl | rfl
    · exact absurd rfl hw
    · rw [if_neg (by omega), decide_eq_false (by omega), siglumref01_cell.j0, if_neg (by decide), if_pos (by omega), if_pos (by omega), if_neg (by decide), if_neg (by decide), if_neg (by decide)]
      rw [e0] at hW ⊢
      have hb : B0 < 128 := by unfold want at hW; repeat' split at hW; all_goals omega
      rw [wrap32_small _ (by omega) (by omega), gCell_good s i B0 1 (by rw [hd]; unfold Lib.decodeN; rw [if_pos hb]) (by omega)]
      rfl
    · have hb : 194 ≤ B0 ∧ B0 ≤ 223 := by rw [e0] at hW; unfold want at hW; repeat' split at hW; all_goals omega
      by_cases a1 : (1 : Int) < 2 ∧ (i : Int) + 1 < s.size ∧ sec (bt s i) (bt s ((i : Int) + 1))
      · rw [if_pos a1, if_neg (by omega), decide_eq_false (by omega), siglumref01_cell.j0, if_neg (by decide), if_pos (by omega), if_pos (by omega), if_pos rfl, w1, if_pos (by omega), if_pos (by omega)]
        have E1 := e1 (by omega)
        have A2 := a1.2.2
        rw [e0, E1] at A2 ⊢
        have A3 : 128 ≤ B1 ∧ B1 ≤ 191 := by rw [sec_iff] at A2; omega
        rw [two _ _ (by omega) (by omega) (by omega) (by omega), gCell_good s i (B0 % 32 * 64 + B1 % 64) 2 (by rw [hd]; unfold Lib.decodeN; rw [if_neg (by omega), if_pos (by omega), if_pos (by omega)]) (by omega)]
        simp
      · rw [if_neg a1, decide_eq_true (by omega), hbad, gCell_bad]
        rw [hd]
        have a2 : ¬ (i + 1 < s.size ∧ 128 ≤ B1 ∧ B1 ≤ 191) := fun e => a1 ⟨by omega, by omega, by
          rw [e0, e1 e.1]
          rw [sec_iff]
          omega⟩
        unfold Lib.decodeN
        rw [if_neg (by omega), if_neg (by omega), if_neg (by omega), if_neg (by omega)]
    · have hb : 224 ≤ B0 ∧ B0 ≤ 239 := by rw [e0] at hW; unfold want at hW; repeat' split at hW; all_goals omega
      by_cases a1 : (1 : Int) < 3 ∧ (i : Int) + 1 < s.size ∧ sec (bt s i) (bt s ((i : Int) + 1))
      · have E1 := e1 (by omega)
        have A2 := a1.2.2
        rw [if_pos a1]
        rw [e0, E1] at A2
        have A3 : 128 ≤ B1 ∧ B1 ≤ 191 := by rw [sec_iff] at A2; omega
        by_cases a3 : (2 : Int) < 3 ∧ (i : Int) + 2 < s.size ∧ (128 ≤ bt s ((i : Int) + 2) ∧ bt s ((i : Int) + 2) ≤ 191)
        · rw [if_pos a3, if_neg (by omega), decide_eq_false (by omega), siglumref01_cell.j0, if_neg (by decide), if_pos (by omega), if_pos (by omega), if_neg (by decide), if_pos rfl, w1, w2, if_pos (by omega), if_pos (by omega), if_pos (by omega), if_pos (by omega)]
          have E2 := e2 (by omega)
          have A4 := a3.2.2
          rw [E2] at A4
          have A5 : 2048 ≤ B0 % 16 * 4096 + B1 % 64 * 64 + B2 % 64 ∧ (B0 % 16 * 4096 + B1 % 64 * 64 + B2 % 64 < 55296 ∨ 57344 ≤ B0 % 16 * 4096 + B1 % 64 * 64 + B2 % 64) := by
            rw [sec_iff] at A2
            omega
          rw [e0, E1, E2, three _ _ _ (by omega) (by omega) (by omega) (by omega) (by omega) (by omega), gCell_good s i (B0 % 16 * 4096 + B1 % 64 * 64 + B2 % 64) 3 (by rw [hd]; unfold Lib.decodeN; rw [if_neg (by omega), if_neg (by omega), if_pos (by omega), if_pos (by omega)]) (by omega)]
          simp
        · rw [if_neg a3, decide_eq_true (by omega), hbad, gCell_bad]
          rw [hd]
          have a4 : ¬ (i + 2 < s.size ∧ 128 ≤ B2 ∧ B2 ≤ 191) := fun e => a3 ⟨by omega, by omega, by rw [e2 e.1]; omega⟩
          unfold Lib.decodeN
          rw [if_neg (by omega), if_neg (by omega), if_neg (by omega), if_neg (by omega)]
      · rw [if_neg a1, decide_eq_true (by omega), hbad, gCell_bad]
        rw [hd]
        have a2 : i + 1 < s.size → ¬ sec (B0 : Int) (B1 : Int) := fun e h => a1 ⟨by omega, by omega, by rw [e0, e1 e]; exact h⟩
        rw [sec_iff] at a2
        unfold Lib.decodeN
        rw [if_neg (by omega), if_neg (by omega)]
        by_cases c1 : B0 / 16 = 14 ∧ (1 < s.size - i ∧ B1 / 64 = 2) ∧ (2 < s.size - i ∧ B2 / 64 = 2)
        · rw [if_pos c1, if_neg]
          intro c2
          refine a2 (by omega) ?_
          omega
        · rw [if_neg c1, if_neg (by omega)]
    · have hb : 240 ≤ B0 ∧ B0 ≤ 244 := by rw [e0] at hW; unfold want at hW; repeat' split at hW; all_goals omega
      by_cases a1 : (1 : Int) < 4 ∧ (i : Int) + 1 < s.size ∧ sec (bt s i) (bt s ((i : Int) + 1))
      · have E1 := e1 (by omega)
        have A2 := a1.2.2
        rw [if_pos a1]
        rw [e0, E1] at A2
        have A3 : 128 ≤ B1 ∧ B1 ≤ 191 := by rw [sec_iff] at A2; omega
        by_cases a3 : (2 : Int) < 4 ∧ (i : Int) + 2 < s.size ∧ (128 ≤ bt s ((i : Int) + 2) ∧ bt s ((i : Int) + 2) ≤ 191)
        · have E2 := e2 (by omega)
          have A4 := a3.2.2
          rw [if_pos a3]
          rw [E2] at A4
          by_cases a5 : (3 : Int) < 4 ∧ (i : Int) + 3 < s.size ∧ (128 ≤ bt s ((i : Int) + 3) ∧ bt s ((i : Int) + 3) ≤ 191)
          · rw [if_pos a5, decide_eq_false (by omega), siglumref01_cell.j0, if_neg (by decide), if_pos (by omega), if_pos (by omega), if_neg (by decide), if_neg (by decide), if_pos rfl, w1, w2, w3, if_pos (by omega), if_pos (by omega), if_pos (by omega), if_pos (by omega), if_pos (by omega), if_pos (by omega)]
            have E3 := e3 (by omega)
            have A6 := a5.2.2
            rw [E3] at A6
            have A7 : 65536 ≤ B0 % 8 * 262144 + B1 % 64 * 4096 + B2 % 64 * 64 + B3 % 64 ∧ B0 % 8 * 262144 + B1 % 64 * 4096 + B2 % 64 * 64 + B3 % 64 ≤ 1114111 := by
              rw [sec_iff] at A2
              omega
            rw [e0, E1, E2, E3, four _ _ _ _ (by omega) (by omega) (by omega) (by omega) (by omega) (by omega) (by omega) (by omega), gCell_good s i (B0 % 8 * 262144 + B1 % 64 * 4096 + B2 % 64 * 64 + B3 % 64) 4 (by rw [hd]; unfold Lib.decodeN; rw [if_neg (by omega), if_neg (by omega), if_neg (by omega), if_pos (by omega), if_pos (by omega)]) (by omega)]
            simp
          · rw [if_neg a5, decide_eq_true (by omega), hbad, gCell_bad]
            rw [hd]
            have a6 : ¬ (i + 3 < s.size ∧ 128 ≤ B3 ∧ B3 ≤ 191) := fun e => a5 ⟨by omega, by omega, by rw [e3 e.1]; omega⟩
            unfold Lib.decodeN
            rw [if_neg (by omega), if_neg (by omega), if_neg (by omega), if_neg (by omega)]
        · rw [if_neg a3, decide_eq_true (by omega), hbad, gCell_bad]
          rw [hd]
          have a4 : ¬ (i + 2 < s.size ∧ 128 ≤ B2 ∧ B2 ≤ 191) := fun e => a3 ⟨by omega, by omega, by rw [e2 e.1]; omega⟩
          unfold Lib.decodeN
          rw [if_neg (by omega), if_neg (by omega), if_neg (by omega), if_neg (by omega)]
      · rw [if_neg a1, decide_eq_true (by omega), hbad, gCell_bad]
        rw [hd]
        have a2 : i + 1 < s.size → ¬ sec (B0 : Int) (B1 : Int) := fun e h => a1 ⟨by omega, by omega, by rw [e0, e1 e]; exact h⟩
        rw [sec_iff] at a2
        unfold Lib.decodeN
        rw [if_neg (by omega), if_neg (by omega), if_neg (by omega)]
        by_cases c1 : B0 / 8 = 30 ∧ (1 < s.size - i ∧ B1 / 64 = 2) ∧ (2 < s.size - i ∧ B2 / 64 = 2) ∧ (3 < s.size - i ∧ B3 / 64 = 2)
        · rw [if_pos c1, if_neg]
          intro c2
          refine a2 (by omega) ?_
          omega
        · rw [if_neg c1]

theorem cells_loop (s : ByteArray) (hs : s.size ≤ 4294967296) : ∀ (fuel pos k : Nat) (acc : List S30), s.size ≤ pos + fuel → pos ≤ s.size → acc.length ≤ pos → fuel + 12 ≤ k →
    siglumref01_Cells.l0 k s acc pos = some (acc ++ gCells s fuel pos)
  | fuel, pos, k, acc, h1, h2, h3, h4 => by
    obtain ⟨m, rfl⟩ : ∃ m, k = m + 11 + 1 := ⟨k - 12, by omega⟩
    rw [siglumref01_Cells.l0]
    by_cases hp : pos < s.size
    · obtain ⟨f, rfl⟩ : ∃ f, fuel = f + 1 := ⟨fuel - 1, by omega⟩
      rw [if_pos (by omega), cell_eq m s pos hp hs, Option.bind_some, if_pos (by omega), gCells_step s f pos hp]
      have hw := Utf.width_pos s pos hp
      have hl := Utf.width_le s pos hp
      have : wrap64 ((pos : Int) + (tup (gCell s pos)).2.1) = ((pos + (Utf8.decode s pos).2 : Nat) : Int) := by
        show wrap64 ((pos : Int) + ((Utf8.decode s pos).2 : Int)) = _
        rw [wrap_small _ (by omega) (by omega)]
        simp
      rw [this, cells_loop s hs f (pos + (Utf8.decode s pos).2) (m + 11) _ (by omega) hl (by simp; omega) (by omega)]
      simp [tup]
    · rw [if_neg (by omega), gCells_end s fuel pos hp, List.append_nil]
/-- The document's list of cells is the program's. -/
theorem cells_eq (k : Nat) (s : ByteArray) (hs : s.size ≤ 4294967296) (hk : s.size + 12 ≤ k) : siglumref01_Cells.f k s = some (gCells s s.size 0) := by
  unfold siglumref01_Cells.f
  have := cells_loop s hs s.size 0 k [] (by omega) (by omega) (by simp) hk
  simpa using this
end Pl
end Go.Proofs.YtfcobfjjcocggaaDoor.C
