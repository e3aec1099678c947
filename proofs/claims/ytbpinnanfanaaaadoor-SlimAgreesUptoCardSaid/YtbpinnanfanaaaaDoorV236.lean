import Derived.Test.YtbpinnanfanaaaaDoorV25
import Derived.Test.YtbpinnanfanaaaaDoorV212
import Derived.Laws.BitsLemmas
import Derived.Lib.MapLaws
import Derived.Lib.RuneBytes
import Derived.Laws.BytesArg
import Derived.Test.YtbpinnanfanaaaaDoorV27
namespace Go.Proofs.YtbpinnanfanaaaaDoor.L
open Go.RowKit Go.Proofs.YtbpinnanfanaaaaDoorW.PrintWords Go.Proofs.YtbpinnanfanaaaaDoorW.PrintLast Go.Proofs.YtbpinnanfanaaaaDoorW.PrintMore
attribute [local go_sem] min2_int min_two min_three   -- for this text's walks alone
set_option linter.unusedVariables false
set_option linter.unusedSimpArgs false
/-! ### siglumref01_wants: function 74 -/
def siglumref01_wants.f (a0 : Int) : Option (Int) := if a0 < 128 then (some 1) else ((siglumref01_between.f a0 194 223).bind fun t74101 => (if t74101 = true then (some 2) else ((siglumref01_between.f a0 224 239).bind fun t74102 => (if t74102 = true then (some 3) else ((siglumref01_between.f a0 240 244).bind fun t74103 => (if t74103 = true then (some 4) else (some 0)))))))
end Go.Proofs.YtbpinnanfanaaaaDoor.L
namespace Go.Proofs.YtbpinnanfanaaaaDoor.L
open Go.RowKit Go.Proofs.YtbpinnanfanaaaaDoorW.PrintWords Go.Proofs.YtbpinnanfanaaaaDoorW.PrintLast Go.Proofs.YtbpinnanfanaaaaDoorW.PrintMore
attribute [local go_sem] min2_int min_two min_three   -- for this text's walks alone
set_option linter.unusedVariables false
set_option linter.unusedSimpArgs false
/-! ### siglumref01_second: function 82 -/
def siglumref01_second.f (a0 : Int) (a1 : Int) : Option (Bool) := if a0 = 224 then ((siglumref01_between.f a1 160 191).bind fun t82101 => (some t82101)) else (if a0 = 237 then ((siglumref01_between.f a1 128 159).bind fun t82102 => (some t82102)) else (if a0 = 240 then ((siglumref01_between.f a1 144 191).bind fun t82103 => (some t82103)) else (if a0 = 244 then ((siglumref01_between.f a1 128 143).bind fun t82104 => (some t82104)) else ((siglumref01_between.f a1 128 191).bind fun t82105 => (some t82105)))))
end Go.Proofs.YtbpinnanfanaaaaDoor.L
namespace Go.Proofs.YtbpinnanfanaaaaDoor.L
open Go.RowKit Go.Proofs.YtbpinnanfanaaaaDoorW.PrintWords Go.Proofs.YtbpinnanfanaaaaDoorW.PrintLast Go.Proofs.YtbpinnanfanaaaaDoorW.PrintMore
attribute [local go_sem] min2_int min_two min_three   -- for this text's walks alone
set_option linter.unusedVariables false
set_option linter.unusedSimpArgs false
/-! ### siglumref01_fits: function 75 -/
mutual
def siglumref01_fits.l0 : Nat → ByteArray → Int → Int → Int → Option (Int)
  | 0, _, _, _, _ => none
  | k + 1, x0, x1, x5, x6 => if x6 < x5 then (siglumref01_fits.j1 k x0 x1 x5 x6 (decide ((wrap64 (x1 + x6)) < (x0.size : Int)))) else (siglumref01_fits.j1 k x0 x1 x5 x6 false)
def siglumref01_fits.j1 : Nat → ByteArray → Int → Int → Int → Bool → Option (Int)
  | 0, _, _, _, _, _ => none
  | k + 1, x0, x1, x5, x6, x24 => if x24 = true then (if 0 ≤ (wrap64 (x1 + x6)) then (if (wrap64 (x1 + x6)) < (x0.size : Int) then (if x6 = 1 then (if 0 ≤ x1 then (if x1 < (x0.size : Int) then ((siglumref01_second.f (bt x0 x1) (bt x0 (wrap64 (x1 + x6)))).bind fun t75102 => (if t75102 = true then (if x6 > 1 then ((siglumref01_between.f (bt x0 (wrap64 (x1 + x6))) 128 191).bind fun t75103 => (if t75103 = true then (siglumref01_fits.l0 k x0 x1 x5 (wrap64 (x6 + 1))) else (some x6))) else (siglumref01_fits.l0 k x0 x1 x5 (wrap64 (x6 + 1)))) else (some x6))) else (none)) else (none)) else (if x6 > 1 then ((siglumref01_between.f (bt x0 (wrap64 (x1 + x6))) 128 191).bind fun t75104 => (if t75104 = true then (siglumref01_fits.l0 k x0 x1 x5 (wrap64 (x6 + 1))) else (some x6))) else (siglumref01_fits.l0 k x0 x1 x5 (wrap64 (x6 + 1))))) else (none)) else (none)) else (some x6)
end
def siglumref01_fits.f (k : Nat) (a0 : ByteArray) (a1 : Int) : Option (Int) := if 0 ≤ a1 then (if a1 < (a0.size : Int) then ((siglumref01_wants.f (bt a0 a1)).bind fun t75101 => (if t75101 = 0 then (some 0) else (siglumref01_fits.l0 k a0 a1 t75101 1))) else (none)) else (none)
end Go.Proofs.YtbpinnanfanaaaaDoor.L
namespace Go.Proofs.YtbpinnanfanaaaaDoor.L
open Go.RowKit Go.Proofs.YtbpinnanfanaaaaDoorW.PrintWords Go.Proofs.YtbpinnanfanaaaaDoorW.PrintLast Go.Proofs.YtbpinnanfanaaaaDoorW.PrintMore
attribute [local go_sem] min2_int min_two min_three   -- for this text's walks alone
set_option linter.unusedVariables false
set_option linter.unusedSimpArgs false
/-! ### siglumref01_cell: function 62 -/
def siglumref01_cell.j0 : Nat → ByteArray → Int → Int → Bool → Option (Int × Int × Int × Bool × Int)
  | 0, _, _, _, _ => none
  | k + 1, x0, x1, x5, x19 => if x19 = true then (if 0 ≤ x1 then (if x1 < (x0.size : Int) then (some (x1, 1, 65533, true, bt x0 x1)) else (none)) else (none)) else (if 0 ≤ x1 then (if x1 < (x0.size : Int) then (if x5 = 2 then (if 0 ≤ (wrap64 (x1 + 1)) then (if (wrap64 (x1 + 1)) < (x0.size : Int) then (some (x1, x5, Go.bits .or .i32 (wrap32 ((wrap32 (Go.bits .and .u8 (bt x0 x1) 31)) * 64)) (wrap32 (Go.bits .and .u8 (bt x0 (wrap64 (x1 + 1))) 63)), false, 0)) else (none)) else (none)) else (if x5 = 3 then (if 0 ≤ (wrap64 (x1 + 1)) then (if (wrap64 (x1 + 1)) < (x0.size : Int) then (if 0 ≤ (wrap64 (x1 + 2)) then (if (wrap64 (x1 + 2)) < (x0.size : Int) then (some (x1, x5, Go.bits .or .i32 (Go.bits .or .i32 (wrap32 ((wrap32 (Go.bits .and .u8 (bt x0 x1) 15)) * 4096)) (wrap32 ((wrap32 (Go.bits .and .u8 (bt x0 (wrap64 (x1 + 1))) 63)) * 64))) (wrap32 (Go.bits .and .u8 (bt x0 (wrap64 (x1 + 2))) 63)), false, 0)) else (none)) else (none)) else (none)) else (none)) else (if x5 = 4 then (if 0 ≤ (wrap64 (x1 + 1)) then (if (wrap64 (x1 + 1)) < (x0.size : Int) then (if 0 ≤ (wrap64 (x1 + 2)) then (if (wrap64 (x1 + 2)) < (x0.size : Int) then (if 0 ≤ (wrap64 (x1 + 3)) then (if (wrap64 (x1 + 3)) < (x0.size : Int) then (some (x1, x5, Go.bits .or .i32 (Go.bits .or .i32 (Go.bits .or .i32 (wrap32 ((wrap32 (Go.bits .and .u8 (bt x0 x1) 7)) * 262144)) (wrap32 ((wrap32 (Go.bits .and .u8 (bt x0 (wrap64 (x1 + 1))) 63)) * 4096))) (wrap32 ((wrap32 (Go.bits .and .u8 (bt x0 (wrap64 (x1 + 2))) 63)) * 64))) (wrap32 (Go.bits .and .u8 (bt x0 (wrap64 (x1 + 3))) 63)), false, 0)) else (none)) else (none)) else (none)) else (none)) else (none)) else (none)) else (some (x1, x5, wrap32 (bt x0 x1), false, 0))))) else (none)) else (none))
def siglumref01_cell.f (k : Nat) (a0 : ByteArray) (a1 : Int) : Option (Int × Int × Int × Bool × Int) := if 0 ≤ a1 then (if a1 < (a0.size : Int) then ((siglumref01_wants.f (bt a0 a1)).bind fun t62102 => (if t62102 = 0 then (siglumref01_cell.j0 k a0 a1 t62102 true) else ((siglumref01_fits.f k a0 a1).bind fun t62103 => (siglumref01_cell.j0 k a0 a1 t62102 (decide (t62103 < t62102)))))) else (none)) else (none)
end Go.Proofs.YtbpinnanfanaaaaDoor.L
namespace Go.Proofs.YtbpinnanfanaaaaDoor.L
open Go.RowKit Go.Proofs.YtbpinnanfanaaaaDoorW.PrintWords Go.Proofs.YtbpinnanfanaaaaDoorW.PrintLast Go.Proofs.YtbpinnanfanaaaaDoorW.PrintMore
attribute [local go_sem] min2_int min_two min_three   -- for this text's walks alone
set_option linter.unusedVariables false
set_option linter.unusedSimpArgs false
/-! ### siglumref01_Cells: function 47 -/
def siglumref01_Cells.l0 : Nat → ByteArray → List (S93) → Int → Option ((List (S93)))
  | 0, _, _, _ => none
  | k + 1, x0, x3, x4 => if x4 < (x0.size : Int) then ((siglumref01_cell.f k x0 x4).bind fun bt47101 => (if x3.length < 5864062014805 then (siglumref01_Cells.l0 k x0 (x3 ++ [(⟨bt47101.1, bt47101.2.1, bt47101.2.2.1, bt47101.2.2.2.1, bt47101.2.2.2.2⟩ : S93)]) (wrap64 (x4 + bt47101.2.1))) else (none))) else (some x3)
def siglumref01_Cells.f (k : Nat) (a0 : ByteArray) : Option ((List (S93))) := siglumref01_Cells.l0 k a0 ([] : List (S93)) 0
end Go.Proofs.YtbpinnanfanaaaaDoor.L
/-
  The document's cells, byte by byte, are the model's decoding: the same list of cells.
-/
namespace Go.Proofs.YtbpinnanfanaaaaDoor.L
open Go.RowKit Go.Proofs.YtbpinnanfanaaaaDoorW.PrintWords Go.Proofs.YtbpinnanfanaaaaDoorW.PrintLast
namespace Pl
theorem wrap32_small (x : Int) (h : 0 ≤ x) (h2 : x < 2147483648) : wrap32 x = x := by
  unfold wrap32
  omega
def want (b : Int) : Int := if b < 128 then 1 else if 194 ≤ b ∧ b ≤ 223 then 2 else if 224 ≤ b ∧ b ≤ 239 then 3 else if 240 ≤ b ∧ b ≤ 244 then 4 else 0
def sec (a b : Int) : Prop := if a = 224 then 160 ≤ b ∧ b ≤ 191 else if a = 237 then 128 ≤ b ∧ b ≤ 159 else if a = 240 then 144 ≤ b ∧ b ≤ 191 else if a = 244 then 128 ≤ b ∧ b ≤ 143 else 128 ≤ b ∧ b ≤ 191
instance (a b : Int) : Decidable (sec a b) := by unfold sec; infer_instance
def fitN (s : ByteArray) (i w : Int) : Int :=
  if 1 < w ∧ i + 1 < s.size ∧ sec (bt s i) (bt s (i + 1)) then
    (if 2 < w ∧ i + 2 < s.size ∧ (128 ≤ bt s (i + 2) ∧ bt s (i + 2) ≤ 191) then
      (if 3 < w ∧ i + 3 < s.size ∧ (128 ≤ bt s (i + 3) ∧ bt s (i + 3) ≤ 191) then 4 else 3) else 2) else 1
theorem two (x y : Int) (hx : 0 ≤ x) (hx2 : x < 256) (hy : 0 ≤ y) (hy2 : y < 256) :
    Go.bits .or .i32 (wrap32 ((wrap32 (Go.bits .and .u8 x 31)) * 64)) (wrap32 (Go.bits .and .u8 y 63)) = x % 32 * 64 + y % 64 := by
  rw [u8_and31 x hx hx2, u8_and63 y hy hy2, wrap32_small (x % 32) (by omega) (by omega), wrap32_small (y % 64) (by omega) (by omega), wrap32_small (x % 32 * 64) (by omega) (by omega)]
  exact i32_or6 _ _ (by omega) (by omega) (by omega) (by omega) (by omega)
theorem three (x y z : Int) (hx : 0 ≤ x) (hx2 : x < 256) (hy : 0 ≤ y) (hy2 : y < 256) (hz : 0 ≤ z) (hz2 : z < 256) :
    Go.bits .or .i32 (Go.bits .or .i32 (wrap32 ((wrap32 (Go.bits .and .u8 x 15)) * 4096)) (wrap32 ((wrap32 (Go.bits .and .u8 y 63)) * 64))) (wrap32 (Go.bits .and .u8 z 63)) = x % 16 * 4096 + y % 64 * 64 + z % 64 := by
  rw [u8_and15 x hx hx2, u8_and63 y hy hy2, u8_and63 z hz hz2, wrap32_small (x % 16) (by omega) (by omega), wrap32_small (y % 64) (by omega) (by omega), wrap32_small (z % 64) (by omega) (by omega), wrap32_small (x % 16 * 4096) (by omega) (by omega), wrap32_small (y % 64 * 64) (by omega) (by omega)]
  rw [i32_or12 (x % 16 * 4096) (y % 64 * 64) (by omega) (by omega) (by omega) (by omega) (by omega)]
  exact i32_or6 _ _ (by omega) (by omega) (by omega) (by omega) (by omega)
def tup (c : S93) : Int × Int × Int × Bool × Int := (c.f0, c.f1, c.f2, c.f3, c.f4)
end Pl
end Go.Proofs.YtbpinnanfanaaaaDoor.L
/-
  Plain facts on the model's Utf8.encode and Utf8.decode: encoding is the library's table; what was decoded from good bytes encodes to just those bytes.
-/
namespace Go.Proofs.YtbpinnanfanaaaaDoor.Utf
open Go.RowKit
end Go.Proofs.YtbpinnanfanaaaaDoor.Utf
namespace Go.Proofs.YtbpinnanfanaaaaDoor.L
open Go.RowKit Go.Proofs.YtbpinnanfanaaaaDoorW.PrintWords Go.Proofs.YtbpinnanfanaaaaDoorW.PrintLast Go.Proofs.YtbpinnanfanaaaaDoorW.PrintMore
attribute [local go_sem] min2_int min_two min_three   -- for this text's walks alone
set_option linter.unusedVariables false
set_option linter.unusedSimpArgs false
/-! ### siglumref01_written: function 78 -/
mutual
def siglumref01_written.j0 : Nat → Int → Bool → Option (List Int)
  | 0, _, _ => none
  | k + 1, x0, x16 => if x16 = true then (siglumref01_written.j1 k 65533) else (siglumref01_written.j1 k x0)
def siglumref01_written.j1 : Nat → Int → Option (List Int)
  | 0, _ => none
  | k + 1, x0 => if x0 < 128 then (some (([(x0) % 256] : List Int))) else (if x0 < 2048 then (some (([Go.bits .or .u8 192 ((x0 / 64) % 256), Go.bits .or .u8 128 ((Go.bits .and .i32 x0 63) % 256)] : List Int))) else (if x0 < 65536 then (some (([Go.bits .or .u8 224 ((x0 / 4096) % 256), Go.bits .or .u8 128 ((Go.bits .and .i32 (x0 / 64) 63) % 256), Go.bits .or .u8 128 ((Go.bits .and .i32 x0 63) % 256)] : List Int))) else (some (([Go.bits .or .u8 240 ((x0 / 262144) % 256), Go.bits .or .u8 128 ((Go.bits .and .i32 (x0 / 4096) 63) % 256), Go.bits .or .u8 128 ((Go.bits .and .i32 (x0 / 64) 63) % 256), Go.bits .or .u8 128 ((Go.bits .and .i32 x0 63) % 256)] : List Int)))))
end
def siglumref01_written.f (k : Nat) (a0 : Int) : Option (List Int) := if a0 < 0 then (siglumref01_written.j0 k a0 true) else (if a0 > 1114111 then (siglumref01_written.j0 k a0 true) else (if a0 ≥ 55296 then (siglumref01_written.j0 k a0 (decide (a0 ≤ 57343))) else (siglumref01_written.j0 k a0 false)))
end Go.Proofs.YtbpinnanfanaaaaDoor.L
/-
  Plain facts on the list of a text's cells: its length is the runes' number, its runes are the text's, its bytes give the text back; the document's written runes are the model's encoding.
-/
namespace Go.Proofs.YtbpinnanfanaaaaDoor.L
open Go.RowKit Go.Proofs.YtbpinnanfanaaaaDoorW.PrintWords Go.Proofs.YtbpinnanfanaaaaDoorW.PrintLast
namespace Pl
theorem get_rd (l : List S93) (i : Nat) (h : i < l.length) : rd_T93 l (i : Int) = l[i] := by
  unfold rd_T93
  rw [Int.toNat_natCast, List.getD_eq_getElem?_getD, List.getElem?_eq_getElem h]
  rfl
theorem cells_count (s : ByteArray) : ∀ f i, (gCells s f i).length = Lib.runeCountFrom s f i
  | 0, _ => rfl
  | f + 1, i => by
    unfold gCells Lib.runeCountFrom
    split
    · rw [List.length_cons, cells_count s f]; omega
    · rfl
theorem cells_length (s : ByteArray) : (gCells s s.size 0).length = Lib.runeCount s := cells_count s s.size 0
theorem cells_le (s : ByteArray) : (gCells s s.size 0).length ≤ s.size := by rw [cells_length]; exact Lib.runeCount_le s
theorem cell_byte (s : ByteArray) (i : Nat) : 0 ≤ (gCell s i).f4 ∧ (gCell s i).f4 < 256 := by
  show 0 ≤ (if Utf.bad s i = true then bt s i else 0) ∧ (if Utf.bad s i = true then bt s i else 0) < 256
  split
  · unfold bt
    split
    · rename_i h
      have := (s[((i : Int)).toNat]'h).toNat_lt
      omega
    · omega
  · omega
theorem cells_byte (s : ByteArray) : ∀ f i, ∀ c ∈ gCells s f i, 0 ≤ c.f4 ∧ c.f4 < 256
  | 0, _, c, h => by cases h
  | f + 1, i, c, h => by
    unfold gCells at h
    split at h
    · rcases List.mem_cons.1 h with rfl | h
      · exact cell_byte s i
      · exact cells_byte s f _ c h
    · cases h
end Pl
end Go.Proofs.YtbpinnanfanaaaaDoor.L
/-
  The edit distance of two lists: the least number of edits; what holds of it (no program in sight).
-/
namespace Go.Proofs.YtbpinnanfanaaaaDoor.Lv
inductive Ed {α : Type} : Nat → List α → List α → Prop
  | nil : Ed 0 [] []
  | keep {n xs ys} (x : α) : Ed n xs ys → Ed n (x :: xs) (x :: ys)
  | swap {n xs ys} (x y : α) : Ed n xs ys → Ed (n + 1) (x :: xs) (y :: ys)
  | cut {n xs ys} (x : α) : Ed n xs ys → Ed (n + 1) (x :: xs) ys
  | put {n xs ys} (y : α) : Ed n xs ys → Ed (n + 1) xs (y :: ys)
def levGo {α : Type} [DecidableEq α] (x : α) (n : Nat) (f : List α → Nat) : List α → Nat
  | [] => n + 1
  | y :: ys => min (f ys + if x = y then 0 else 1) (min (f (y :: ys) + 1) (levGo x n f ys + 1))
def lev {α : Type} [DecidableEq α] : List α → List α → Nat
  | [], ys => ys.length
  | x :: xs, ys => levGo x xs.length (lev xs) ys
theorem lev_nil {α : Type} [DecidableEq α] (ys : List α) : lev [] ys = ys.length := rfl
theorem lev_nil' {α : Type} [DecidableEq α] (xs : List α) : lev xs [] = xs.length := by cases xs <;> rfl
theorem lev_cons {α : Type} [DecidableEq α] (x y : α) (xs ys : List α) : lev (x :: xs) (y :: ys) = min (lev xs ys + if x = y then 0 else 1) (min (lev xs (y :: ys) + 1) (lev (x :: xs) ys + 1)) := rfl
theorem Ed.cuts {α : Type} : ∀ xs : List α, Ed xs.length xs []
  | [] => .nil
  | x :: xs => .cut x (Ed.cuts xs)
theorem Ed.puts {α : Type} : ∀ ys : List α, Ed ys.length [] ys
  | [] => .nil
  | y :: ys => .put y (Ed.puts ys)
theorem ed_lev {α : Type} [DecidableEq α] : ∀ xs ys : List α, Ed (lev xs ys) xs ys
  | [], ys => by rw [lev_nil]; exact Ed.puts ys
  | x :: xs, [] => by rw [lev_nil']; exact Ed.cuts _
  | x :: xs, y :: ys => by
    have h1 := ed_lev xs ys
    have h2 := ed_lev xs (y :: ys)
    have h3 := ed_lev (x :: xs) ys
    rw [lev_cons]
    generalize lev xs ys = a at *
    generalize lev xs (y :: ys) = b at *
    generalize lev (x :: xs) ys = c at *
    rcases Nat.le_total (a + if x = y then 0 else 1) (min (b + 1) (c + 1)) with h | h
    · rw [Nat.min_eq_left h]
      by_cases e : x = y
      · subst e; rw [if_pos rfl]; exact .keep x h1
      · rw [if_neg e]; exact .swap x y h1
    · rw [Nat.min_eq_right h]
      rcases Nat.le_total (b + 1) (c + 1) with h' | h'
      · rw [Nat.min_eq_left h']; exact .cut x h2
      · rw [Nat.min_eq_right h']; exact .put y h3
termination_by xs ys => xs.length + ys.length
theorem lev_tail_le {α : Type} [DecidableEq α] (x : α) (xs ys : List α) : lev (x :: xs) ys ≤ lev xs ys + 1 := by
  cases ys with
  | nil => rw [lev_nil', lev_nil']; simp
  | cons y ys => rw [lev_cons]; omega
theorem lev_put_le {α : Type} [DecidableEq α] (y : α) (xs ys : List α) : lev xs (y :: ys) ≤ lev xs ys + 1 := by
  cases xs with
  | nil => rw [lev_nil, lev_nil]; simp
  | cons x xs => rw [lev_cons]; omega
theorem lev_le {α : Type} [DecidableEq α] {n : Nat} {xs ys : List α} (h : Ed n xs ys) : lev xs ys ≤ n := by
  induction h with
  | nil => rw [lev_nil]; simp
  | keep x _ ih => rw [lev_cons, if_pos rfl]; omega
  | swap x y _ ih => rw [lev_cons]; split <;> omega
  | @cut _ xs ys x _ ih => have := lev_tail_le x xs ys; omega
  | @put _ xs ys y _ ih => have := lev_put_le y xs ys; omega
theorem Ed.symm {α : Type} {n : Nat} {xs ys : List α} (h : Ed n xs ys) : Ed n ys xs := by
  induction h with
  | nil => exact .nil
  | keep x _ ih => exact .keep x ih
  | swap x y _ ih => exact .swap y x ih
  | cut x _ ih => exact .put x ih
  | put y _ ih => exact .cut y ih
theorem Ed.append {α : Type} {n m : Nat} {xs ys us vs : List α} (h : Ed n xs ys) (g : Ed m us vs) : Ed (n + m) (xs ++ us) (ys ++ vs) := by
  induction h with
  | nil => simpa using g
  | keep x _ ih => exact .keep x ih
  | @swap n xs ys x y _ ih => have := Ed.swap x y ih; rwa [show n + m + 1 = n + 1 + m by omega] at this
  | @cut n xs ys x _ ih => have := Ed.cut x ih; rwa [show n + m + 1 = n + 1 + m by omega] at this
  | @put n xs ys y _ ih => have := Ed.put y ih; rwa [show n + m + 1 = n + 1 + m by omega] at this
theorem Ed.same {α : Type} : ∀ xs : List α, Ed 0 xs xs
  | [] => .nil
  | x :: xs => .keep x (Ed.same xs)
theorem Ed.rev {α : Type} {n : Nat} {xs ys : List α} (h : Ed n xs ys) : Ed n xs.reverse ys.reverse := by
  induction h with
  | nil => exact .nil
  | keep x _ ih => have := ih.append (Ed.same [x]); simpa using this
  | swap x y _ ih => have := ih.append (Ed.swap x y .nil); simpa using this
  | cut x _ ih => have := ih.append (Ed.cut x .nil); simpa using this
  | put y _ ih => have := ih.append (Ed.put y .nil); simpa using this
theorem lev_rev_le {α : Type} [DecidableEq α] (xs ys : List α) : lev xs.reverse ys.reverse ≤ lev xs ys := lev_le (ed_lev xs ys).rev
theorem lev_rev {α : Type} [DecidableEq α] (xs ys : List α) : lev xs.reverse ys.reverse = lev xs ys :=
  Nat.le_antisymm (lev_rev_le xs ys) (by have := lev_rev_le xs.reverse ys.reverse; simpa using this)
theorem lev_snoc {α : Type} [DecidableEq α] (x y : α) (xs ys : List α) : lev (xs ++ [x]) (ys ++ [y]) = min (lev xs ys + if x = y then 0 else 1) (min (lev xs (ys ++ [y]) + 1) (lev (xs ++ [x]) ys + 1)) := by
  rw [← lev_rev xs ys, ← lev_rev (xs ++ [x]) (ys ++ [y]), ← lev_rev xs (ys ++ [y]), ← lev_rev (xs ++ [x]) ys]
  simp only [List.reverse_append, List.reverse_cons, List.reverse_nil, List.nil_append, List.singleton_append]
  exact lev_cons x y _ _
theorem lev_self {α : Type} [DecidableEq α] (xs : List α) : lev xs xs = 0 := Nat.le_zero.1 (lev_le (Ed.same xs))
theorem ed_zero {α : Type} {n : Nat} {xs ys : List α} (h : Ed n xs ys) (hn : n = 0) : xs = ys := by
  induction h with
  | nil => rfl
  | keep x _ ih => rw [ih hn]
  | swap x y _ ih => cases hn
  | cut x _ ih => cases hn
  | put y _ ih => cases hn
theorem lev_zero {α : Type} [DecidableEq α] {xs ys : List α} : lev xs ys = 0 ↔ xs = ys :=
  ⟨fun h => ed_zero (ed_lev xs ys) h, fun h => by subst h; exact lev_self xs⟩
theorem lev_max {α : Type} [DecidableEq α] : ∀ xs ys : List α, lev xs ys ≤ max xs.length ys.length
  | [], ys => by rw [lev_nil]; simp
  | x :: xs, [] => by rw [lev_nil']; simp
  | x :: xs, y :: ys => by
    have := lev_max xs ys
    rw [lev_cons]; simp only [List.length_cons]; split <;> omega
end Go.Proofs.YtbpinnanfanaaaaDoor.Lv
namespace Go.Proofs.YtbpinnanfanaaaaDoor.L
open Go.RowKit Go.Proofs.YtbpinnanfanaaaaDoorW.PrintWords Go.Proofs.YtbpinnanfanaaaaDoorW.PrintLast Go.Proofs.YtbpinnanfanaaaaDoorW.PrintMore
attribute [local go_sem] min2_int min_two min_three   -- for this text's walks alone
set_option linter.unusedVariables false
set_option linter.unusedSimpArgs false
/-! ### siglumref08_Same: function 69 -/
def siglumref08_Same.f (a0_0 : Int) (a0_1 : Int) (a0_2 : Int) (a0_3 : Bool) (a0_4 : Int) (a1_0 : Int) (a1_1 : Int) (a1_2 : Int) (a1_3 : Bool) (a1_4 : Int) : Option (Bool) := if (a0_3 == a1_3) = true then (if a0_3 = true then (if a0_4 = a1_4 then (some true) else (some false)) else (some (a0_2 == a1_2))) else (some false)
end Go.Proofs.YtbpinnanfanaaaaDoor.L
/-
  A text's pieces (its cells' bytes), as the program has them and as the document has them: two cells are the same just where their bytes are.
-/
namespace Go.Proofs.YtbpinnanfanaaaaDoor.Pure
open Go.RowKit Go.Proofs.YtbpinnanfanaaaaDoor.L Go.Proofs.YtbpinnanfanaaaaDoorW.PrintWords Go.Proofs.YtbpinnanfanaaaaDoorW.PrintLast
theorem ws (x : Int) (h : -9223372036854775808 ≤ x) (h2 : x < 9223372036854775808) : wrap64 x = x := by
  unfold wrap64
  omega
def pc (s : ByteArray) (c : S93) : ByteArray := s.extract c.f0.toNat (c.f0 + c.f1).toNat
def pcs (s : ByteArray) : List ByteArray := (gCells s s.size 0).map (pc s)
def cb (s : ByteArray) : List (List UInt8) := (pcs s).map (·.toList)
theorem pcs_len (s : ByteArray) : (pcs s).length = (gCells s s.size 0).length := by unfold pcs; rw [List.length_map]
theorem cb_len (s : ByteArray) : (cb s).length = (gCells s s.size 0).length := by unfold cb; rw [List.length_map, pcs_len]
theorem cells_range (s : ByteArray) : ∀ f i, i ≤ s.size → ∀ c ∈ gCells s f i, ∃ j, j < s.size ∧ c = gCell s j
  | 0, _, _, c, h => by cases h
  | f + 1, i, hi, c, h => by
    unfold gCells at h
    split at h
    · rename_i hlt
      rcases List.mem_cons.1 h with rfl | h
      · exact ⟨i, hlt, rfl⟩
      · exact cells_range s f _ (Utf.width_le s i hlt) c h
    · cases h
theorem pieces_loop (s : ByteArray) (hs : s.size ≤ 4294967296) (L : List S93) (hl : L.length ≤ 4294967296) (hL : ∀ c ∈ L, ∃ j, j < s.size ∧ c = gCell s j) : ∀ (d i k : Nat) (acc : List ByteArray), i + d = L.length → acc.length = i → d + 1 ≤ k →
    dist_pieces.l0 k s acc L (L.length : Int) (i : Int) = some (acc ++ (L.drop i).map (pc s))
  | 0, i, k, acc, hd, ha, hk => by
    obtain ⟨k, rfl⟩ : ∃ m, k = m + 1 := ⟨k - 1, by omega⟩
    rw [dist_pieces.l0, if_neg (by omega), List.drop_of_length_le (by omega)]
    simp
  | d + 1, i, k, acc, hd, ha, hk => by
    obtain ⟨k, rfl⟩ : ∃ m, k = m + 1 := ⟨k - 1, by omega⟩
    have hi : i < L.length := by omega
    obtain ⟨j, hj, hc⟩ := hL _ (List.getElem_mem hi)
    have e2 : ((i + 1 : Nat) : Int) = (i : Int) + 1 := by omega
    have hw1 := Utf.width_pos s j hj
    have hw2 := Utf.width_le s j hj
    have f0 : (rd_T93 L (i : Int)).f0 = (j : Int) := by rw [Pl.get_rd L i hi, hc]; rfl
    have f1 : (rd_T93 L (i : Int)).f1 = ((Utf8.decode s j).2 : Int) := by rw [Pl.get_rd L i hi, hc]; rfl
    have hp : pc s L[i] = s.extract j (j + (Utf8.decode s j).2) := by
      rw [hc]
      show s.extract ((j : Int)).toNat ((j : Int) + ((Utf8.decode s j).2 : Int)).toNat = _
      rw [Int.toNat_natCast]
      congr 1
    rw [dist_pieces.l0, if_pos (by omega), if_pos (by omega), if_pos (by omega), f0, f1, if_pos (by omega), ws ((j : Int) + _) (by omega) (by omega), if_pos (by omega), if_pos (by omega), if_pos (by omega), ws ((i : Int) + 1) (by omega) (by omega), ← e2]
    rw [pieces_loop s hs L hl hL d (i + 1) k _ (by omega) (by simp; omega) (by omega), List.drop_eq_getElem_cons hi, List.map_cons, hp]
    have e3 : ((j : Int) + ((Utf8.decode s j).2 : Int)).toNat = j + (Utf8.decode s j).2 := by omega
    rw [e3, Int.toNat_natCast]
    simp
theorem pieces_eq (s : ByteArray) (hs : s.size ≤ 4294967296) (k : Nat) (hk : s.size + 1 ≤ k) : dist_pieces.f k s = some (pcs s) := by
  have hl := Pl.cells_le s
  unfold dist_pieces.f glyph_Cells.f
  rw [if_pos hs, Option.bind_some]
  have := pieces_loop s hs (gCells s s.size 0) (by omega) (cells_range s s.size 0 (by omega)) (gCells s s.size 0).length 0 k [] (by omega) rfl (by omega)
  simpa [pcs] using this
theorem both_eq (a b : ByteArray) (ha : a.size ≤ 4294967296) (hb : b.size ≤ 4294967296) (k : Nat) (hk : a.size + 1 ≤ k) (hk2 : b.size + 1 ≤ k) :
    dist_both.f k a b = if (pcs a).length ≤ 256 ∧ (pcs b).length ≤ 256 then some (pcs a, pcs b, 0) else some ([], [], 1) := by
  unfold dist_both.f
  rw [pieces_eq a ha k hk, Option.bind_some, pieces_eq b hb k hk2, Option.bind_some]
  by_cases h1 : (pcs a).length ≤ 256
  · rw [if_neg (by omega)]
    by_cases h2 : (pcs b).length ≤ 256
    · rw [if_neg (by omega), if_pos ⟨h1, h2⟩]
    · rw [if_pos (by omega), if_neg (fun h => h2 h.2)]
  · rw [if_pos (by omega), if_neg (fun h => h1 h.1)]
theorem ext_toList (s : ByteArray) (i n : Nat) : (s.extract i (i + n)).data.toList = (s.data.toList.drop i).take n := by
  rw [ByteArray.data_extract]
  simp [List.extract_eq_take_drop]
theorem toList_data (s : ByteArray) : s.toList = s.data.toList := ByteArray.toList_eq s
theorem piece_bytes (s : ByteArray) (j : Nat) : (pc s (gCell s j)).toList = (s.data.toList.drop j).take (Utf8.decode s j).2 := by
  rw [toList_data]
  show (s.extract ((j : Int)).toNat ((j : Int) + ((Utf8.decode s j).2 : Int)).toNat).data.toList = _
  have e3 : ((j : Int) + ((Utf8.decode s j).2 : Int)).toNat = j + (Utf8.decode s j).2 := by omega
  rw [e3, Int.toNat_natCast, ext_toList]
theorem cells_bytes (s : ByteArray) : ∀ f i, s.size ≤ i + f → ((gCells s f i).map (fun c => (pc s c).toList)).flatten = s.data.toList.drop i
  | 0, i, h => by
    rw [List.drop_of_length_le (by rw [Array.length_toList]; have : s.data.size = s.size := rfl; omega)]
    rfl
  | f + 1, i, h => by
    unfold gCells
    split
    · rename_i hlt
      have := Utf.width_pos s i hlt
      rw [List.map_cons, List.flatten_cons, cells_bytes s f _ (by omega), piece_bytes, ← List.drop_drop]
      exact List.take_append_drop _ _
    · rw [List.drop_of_length_le (by rw [Array.length_toList]; have : s.data.size = s.size := rfl; omega)]
      rfl
theorem cb_flat (s : ByteArray) : (cb s).flatten = s.data.toList := by
  have := cells_bytes s s.size 0 (by omega)
  rw [List.drop_zero] at this
  unfold cb pcs
  rw [List.map_map]
  exact this
theorem cb_inj (a b : ByteArray) : cb a = cb b ↔ a.toList = b.toList := by
  constructor
  · intro h
    rw [toList_data, toList_data, ← cb_flat a, ← cb_flat b, h]
  · intro h
    rw [toList_data, toList_data] at h
    have : a = b := by
      apply ByteArray.ext
      apply Array.ext'
      exact h
    rw [this]
end Go.Proofs.YtbpinnanfanaaaaDoor.Pure
