import Derived.Test.YtpmiaaphmgoapaaJ24
import Derived.Shelf.Strings.BuilderK
import Derived.WalkKit
import Derived.BigCall
import Derived.Shelf.Unicode.DecodeAny
import Derived.Lib.RuneCount
import Derived.Lib.Small
import Derived.Lib.RuneBytes
import Derived.Lib.ValidU
import Derived.Laws.CopyOwn
import Derived.Test.YtpmiaaphmgoapaaJ21
import Derived.Lib.MakeNoZero
import Derived.RegionTactic
import Derived.Deep.LoopGhost
import Derived.Test.YtpmiaaphmgoapaaProg
import Derived.Below
import Derived.Deep.Draws
import Derived.Deep.AppendLies
import Derived.Maps.AppendAt
import Derived.OwnWalk
import Derived.Laws.BytesArg
import Derived.Laws.MakeOwn
import Derived.Laws.OwnMore
import Derived.Deep.OwnRows
import Derived.Tactics
import Derived.Lib.ConvBytes
import Derived.Laws.Slices
import Derived.KernelRfl
import Derived.RowKit3
import Derived.Deep.QuietTactic
import Derived.BigQuiet
import Derived.WideLaws
import Derived.Deep.DeepCutAuto
import Derived.Deep.CutBlock
import Derived.Deep.RegionHeld3
import Derived.Laws.Rows
import Derived.Lib.AppendStr
import Derived.ArgAppend
import Derived.Laws.IdiomCopy
import Derived.OrdersHeld
import Derived.Laws.BitsLemmas
import Derived.RowKit
import Derived.StillTailTactics
import Derived.Test.YtpmiaaphmgoapaaJ22
import Derived.Test.YtpmiaaphmgoapaaJ23
/-
  strings.Builder's copyCheck, WriteByte and WriteString of this seat's own translation, in the forms of the shelf's BuilderK: a builder stays one, what lay below stays, blocks that are no rows of bytes stay.
-/
namespace Go.Proofs
open Go.RowKit
theorem Try.infoByteB : (Try.prog.info? 5).map (fun i => (i.zero, i.size, i.bytes)) = some (some (.int .u8 0), 1, 1) := by kernel_rfl
theorem Try.sizeBuilderB : (Try.prog.info? 56).map (·.size) = some 2 := by kernel_rfl
theorem Try.liesBuilderB : liesAt Try.prog Try.prog.depth 56 (2 / Try.prog.cellsOf 56) 0 56 1 = true := by kernel_rfl
set_option maxHeartbeats 1000000 in
set_option maxRecDepth 100000 in
theorem Try.copyCheck_fresh (b : Nat) (w : World) (h0 : w.cell? ⟨b, 0, none⟩ = some (.pointer none)) (hsh : w.shape? b = some (56, 2)) (hfz : w.frozen? ⟨b, 0, none⟩ = false) :
    Calls Try.prog 28 #[.pointer (some ⟨b, 0, none⟩)] w fun e w' => e = .returned (.tuple #[]) ∧ w' = w.setCell ⟨b, 0, none⟩ (.pointer (some ⟨b, 0, none⟩)) := by
  obtain ⟨j, hj, hjs⟩ := Option.map_eq_some_iff.1 Try.sizeBuilderB
  go_enter Try.func28, Try.ntmps28
  go_wp2
  rw [Lib.run_to_unsafe w ⟨b, 0, none⟩ Try.underlying53 Try.underlying72 hj (by rw [hjs]; decide) hsh (Nat.zero_lt_succ 1)]
  simp only [Result.andThen]
  rw [Oper.upon_value]
  go_wp2
  rw [run_callFunc_extern Try.func34 (by kernel_rfl) (by kernel_rfl) (by kernel_rfl) (e := Extern.AbiNoEscape.same) (by kernel_rfl)]
  rw [Lib.run_noEscape]
  simp only [Result.andThen]
  rw [Oper.upon_value]
  go_wp2
  rw [Lib.run_from_unsafe w ⟨b, 0, none⟩ Try.underlying72 Try.underlying53 hj hsh Try.liesBuilderB]
  simp only [Result.andThen]
  rw [Oper.upon_value]
  go_wp2
  go_end0
  exact ⟨rfl, rfl⟩
set_option maxHeartbeats 1000000 in
set_option maxRecDepth 100000 in
theorem Try.copyCheck_used (b : Nat) (w : World) (h0 : w.cell? ⟨b, 0, none⟩ = some (.pointer (some ⟨b, 0, none⟩))) :
    Calls Try.prog 28 #[.pointer (some ⟨b, 0, none⟩)] w fun e w' => e = .returned (.tuple #[]) ∧ w' = w := by
  obtain ⟨j, hj, hjs⟩ := Option.map_eq_some_iff.1 Try.sizeBuilderB
  have hne := Lib.run_neq_ptr_same w ⟨b, 0, none⟩ Try.underlying53 hj
  go_enter Try.func28, Try.ntmps28
  go_wp2
  go_end0
  exact ⟨rfl, rfl⟩
theorem Try.copyCheck_k (B b : Nat) (bs : List Value) (w : World) (h : Lib.IsBuilderF 56 5 B b bs w) :
    Calls Try.prog 28 #[.pointer (some ⟨b, 0, none⟩)] w fun e w' => e = .returned (.tuple #[]) ∧ (Lib.BuilderAtF 56 5 B b (.pointer (some ⟨b, 0, none⟩)) bs w' ∧ Below B w w' ∧ Lib.OthersKept 5 (some b) w w') := by
  rcases h with h | h
  · refine (Try.copyCheck_fresh b w h.cell0 h.shape h.frozen0).mono ?_
    rintro e w' ⟨rfl, rfl⟩
    exact ⟨rfl, h.used _, (Below.refl B w).setCell (p := ⟨b, 0, none⟩) h.1 _, (Lib.OthersKept.refl _ _ w).setCell ⟨b, 0, none⟩ rfl _⟩
  · refine (Try.copyCheck_used b w h.cell0).mono ?_
    rintro e w' ⟨rfl, rfl⟩
    exact ⟨rfl, h, Below.refl B _, Lib.OthersKept.refl _ _ _⟩
set_option maxHeartbeats 2000000 in
set_option maxRecDepth 100000 in
theorem Try.writeString_k (B b : Nat) (bs : List Value) (s : ByteArray) (w : World) (h : Lib.IsBuilderF 56 5 B b bs w) (hlen : bs.length + s.size ≤ 140737488355328) (hBw : B ≤ w.heap.size) :
    Calls Try.prog 23 #[.pointer (some ⟨b, 0, none⟩), .string s] w fun e w' => e = .returned (.tuple #[.int .i64 s.size, .nilIface]) ∧ (Lib.BuilderAtF 56 5 B b (.pointer (some ⟨b, 0, none⟩)) (bs ++ Lib.strCells s) w' ∧ Below B w w' ∧ Lib.OthersKept 5 (some b) w w') := by
  obtain ⟨i0, hi, hz0, hz1, hz2⟩ := info_parts Try.infoByteB
  go_enter Try.func23, Try.ntmps23
  go_wp2_with (go_at_call 28; refine (Try.copyCheck_k B b bs _ h).mono ?_)
  rintro e w1 ⟨rfl, h1, hb1, hk1⟩
  obtain ⟨hB, v, hbk, hown, hne⟩ := h1
  have c0 : w1.cell? ⟨b, 0, none⟩ = some (.pointer (some ⟨b, 0, none⟩)) := by rw [Lib.cell_of_heap hbk]; rfl
  have c1 : w1.cell? ⟨b, 1, none⟩ = some v := by rw [Lib.cell_of_heap hbk]; rfl
  go_wp2_with (at_builtin; refine Lib.wpList_append_own_stringF _ rfl _ _ 54 9 rfl B 5 i0 Try.underlying54 Try.underlying9 hi hz0 hz1 hz2 _ _ _ rfl hown s rfl ?c3 ?c4 ?c5 ?_)
  case c3 => unfold maxLen; omega
  case c4 => omega
  case c5 => have := hb1.size; omega
  intro v' w2 hown' hgrow _
  have hlt : b < w1.heap.size := by
    rcases Nat.lt_or_ge b w1.heap.size with h' | h'
    · exact h'
    · simp [Array.getElem?_eq_none h'] at hbk
  have hb2 : w2.heap[b]? = some (.cells #[.pointer (some ⟨b, 0, none⟩), v] 56 (0, 0)) := by
    rw [hgrow.block b hlt (fun e => hne e.symm)]
    exact hbk
  have d0 : w2.cell? ⟨b, 0, none⟩ = some (.pointer (some ⟨b, 0, none⟩)) := by rw [Lib.cell_of_heap hb2]; rfl
  have d1 : w2.cell? ⟨b, 1, none⟩ = some v := by rw [Lib.cell_of_heap hb2]; rfl
  have f1 : w2.frozen? ⟨b, 1, none⟩ = false := Lib.frozen_of_heap hb2 1
  obtain ⟨ao, n', cap, rfl⟩ : ∃ ao n' cap, v' = .slice ao n' cap := by
    rcases hown'.2 with ⟨hv, _⟩ | ⟨g, cap, cur, fz, hv, _⟩
    · exact ⟨_, _, _, hv⟩
    · exact ⟨_, _, _, hv⟩
  go_wp2
  go_ret2
  refine ⟨rfl, ?_, ?_, (hk1.grown hgrow (Lib.ownsRowF_kind hown)).setCell ⟨b, 1, none⟩ rfl _⟩
  · exact Lib.BuilderAtF.put (T := 56) (e := 5) hB hb2 (bs' := bs ++ Lib.strCells s) (by simpa [Lib.strCells_length] using hown') (by decide)
  · exact (hb1.grown hgrow (by have := hb1.size; omega) (fun k hk => (hown.lt k hk).1)).setCell (p := ⟨b, 1, none⟩) hB _
end Go.Proofs
/-
  Plain facts on the model's Utf8.decode (no program in them): widths, shifts, rune lengths, and that utf8's two tables stand behind a call that changes nothing below.
-/
namespace Go.Proofs.Ytpmiaaphmgoapaa.Utf
open Go.RowKit
/-- Is the byte at i part of no rune? -/
def bad (s : ByteArray) (i : Nat) : Bool := decide ((Utf8.decode s i).1 = 65533) && decide ((Utf8.decode s i).2 = 1)
end Go.Proofs.Ytpmiaaphmgoapaa.Utf
/-
  The builtin copy of a whole row of numbers over another of the same length: the row reads as the one that was copied.
-/
namespace Go.Proofs.Ytpmiaaphmgoapaa.Cp
open Go Go.RowKit Go.Proofs.YtpmiaaphmgoapaaW.PrintWords
set_option linter.unusedVariables false
end Go.Proofs.Ytpmiaaphmgoapaa.Cp
/-
  strings.Repeat at the sign of a lost word and few copies: Go's own text, walked: the buffer is grown, then copied onto itself.
-/
namespace Go.Proofs
open Go.RowKit Go.Lib
open Go.Proofs.YtpmiaaphmgoapaaW.PrintWords (Aside0)
set_option linter.unusedVariables false
set_option linter.unusedSimpArgs false
/-- The sign of a lost word and a blank, n times. -/
def lostL : Nat → List UInt8
  | 0 => []
  | n + 1 => [226, 151, 140, 32] ++ lostL n
theorem lostL_add (a b : Nat) : lostL (a + b) = lostL a ++ lostL b := by
  induction a with
  | zero => simp [lostL]
  | succ a ih => rw [Nat.succ_add, lostL, lostL, ih, List.append_assoc]
theorem lostL_length (n : Nat) : (lostL n).length = 4 * n := by
  induction n with
  | zero => rfl
  | succ n ih => rw [lostL, List.length_append, ih]; simp; omega
theorem lostL_take (q k : Nat) (h : k ≤ q) : (lostL q).take (4 * k) = lostL k := by
  obtain ⟨d, rfl⟩ := Nat.exists_eq_add_of_le h
  rw [lostL_add, List.take_append_of_le_length (by rw [lostL_length]; omega), List.take_of_length_le (by rw [lostL_length]; omega)]
theorem Try.infoByteG : (Try.prog.info? 5).map (fun i => (i.zero, i.size, i.bytes)) = some (some (.int .u8 0), 1, 1) := by kernel_rfl
set_option maxHeartbeats 4000000 in
set_option maxRecDepth 100000 in
/-- (*strings.Builder).grow at a builder without a buffer. -/
theorem Try.grow_fresh (B b n : Nat) (w : World) (hB : B ≤ b) (hbk : w.heap[b]? = some (.cells #[.pointer (some ⟨b, 0, none⟩), .slice none 0 0] 56 (0, 0))) (hBw : B ≤ w.heap.size) (hn : n ≤ 65536) :
    Calls Try.prog 38 #[.pointer (some ⟨b, 0, none⟩), .int .i64 n] w fun e w' => e = .returned (.tuple #[]) ∧ (Lib.BuilderAt 56 5 B b (.pointer (some ⟨b, 0, none⟩)) [] w' ∧ Below B w w') := by
  obtain ⟨i0, hi, hz0, hz1, hz2⟩ := info_parts Try.infoByteG
  obtain ⟨cs, hrun, hle, hmax⟩ := Lib.run_makeNoZero (P := Try.prog) w.drew #[3] 54 5 Try.underlying54 n (by omega)
  have hfit : cs.size ≤ maxLen := hmax (by unfold maxLen; omega)
  have hlt : b < w.heap.size := by
    rcases Nat.lt_or_ge b w.heap.size with h' | h'
    · exact h'
    · simp [Array.getElem?_eq_none h'] at hbk
  have hcall : ∀ x : Int, x = (n : Int) → (callFunc 39 #[.int .i64 x]).run Try.prog w.drew = .ok (.value (.slice (some ⟨w.heap.size, 0, none⟩) n cs.size)) (w.drew.drew.drew.alloc (.cells cs 5)) := by
    intro x hx
    rw [hx, run_callFunc_extern Try.func39 (by kernel_rfl) (by kernel_rfl) (by kernel_rfl) (e := Extern.BytealgMakeNoZero.makeNoZero #[3] #[54]) (by kernel_rfl), hrun]
    rfl
  have hcall2 := hcall (IntKind.i64.wrap (IntKind.i64.wrap 0 + (n : Int))) (by rw [IntKind.wrap_i64, IntKind.wrap_i64]; omega)
  have c1 : w.drew.cell? ⟨b, 1, none⟩ = some (.slice none 0 0) := by
    have : w.drew.heap[b]? = _ := hbk
    rw [Lib.cell_of_heap this]; rfl
  have c2 : (w.alloc (.cells cs 5)).cell? ⟨b, 1, none⟩ = some (.slice none 0 0) := by
    have : (w.alloc (.cells cs 5)).heap[b]? = _ := (Lib.alloc_old w _ b hlt).trans hbk
    rw [Lib.cell_of_heap this]; rfl
  have f2 : (w.alloc (.cells cs 5)).frozen? ⟨b, 1, none⟩ = false := Lib.frozen_of_heap ((Lib.alloc_old w _ b hlt).trans hbk) 1
  have hcopy : ∀ W : World, (Builtin.copy_ #[54, 54] 3 #[.slice (some ⟨w.heap.size, 0, none⟩) 0 cs.size, .slice none 0 0]).run Try.prog W = .ok (goInt 0) W :=
    fun W => run_copy_none W 54 54 3 5 _ _ 0 cs.size 0 0 Try.underlying54 (by kernel_rfl) rfl
  have hfin := Lib.grown_fresh (T := 56) (e := 5) (cs := cs) hB hbk hBw hfit (by decide)
  rw [World.setCell_alloc_past _ _ _ _ hlt] at hfin
  clear hcall hrun hmax
  go_enter Try.func38, Try.ntmps38
  go_wp2
  go_region
  all_goals (go_wp2; go_end0; exact ⟨rfl, hfin⟩)
set_option maxHeartbeats 4000000 in
set_option maxRecDepth 100000 in
/-- (*strings.Builder).Grow at a builder that has not been written. -/
theorem Try.Grow_fresh (B b n : Nat) (w : World) (hB : B ≤ b) (hbk : w.heap[b]? = some (.cells #[.pointer none, .slice none 0 0] 56 (0, 0))) (hBw : B ≤ w.heap.size) (hn0 : 0 < n) (hn : n ≤ 65536) :
    Calls Try.prog 32 #[.pointer (some ⟨b, 0, none⟩), .int .i64 n] w fun e w' => e = .returned (.tuple #[]) ∧ (Lib.BuilderAt 56 5 B b (.pointer (some ⟨b, 0, none⟩)) [] w' ∧ Below B w w') := by
  have hlt : b < w.heap.size := by
    rcases Nat.lt_or_ge b w.heap.size with h' | h'
    · exact h'
    · simp [Array.getElem?_eq_none h'] at hbk
  have c0 : w.cell? ⟨b, 0, none⟩ = some (.pointer none) := by rw [Lib.cell_of_heap hbk]; rfl
  have hfz : w.frozen? ⟨b, 0, none⟩ = false := Lib.frozen_of_heap hbk 0
  have hsh : w.shape? b = some (56, 2) := by unfold World.shape?; rw [hbk]; rfl
  have hb1 : (w.setCell ⟨b, 0, none⟩ (.pointer (some ⟨b, 0, none⟩))).heap[b]? = some (.cells #[.pointer (some ⟨b, 0, none⟩), .slice none 0 0] 56 (0, 0)) := by
    rw [heap_setCell_same w b 0 _ _ _ hbk]
    rfl
  have c1 : w.cell? ⟨b, 1, none⟩ = some (.slice none 0 0) := by rw [Lib.cell_of_heap hbk]; rfl
  have hBW : Below B w (w.setCell ⟨b, 0, none⟩ (.pointer (some ⟨b, 0, none⟩))) := (Below.refl B w).setCell (p := ⟨b, 0, none⟩) hB _
  have hnn : decide ((0 : Int) < (n : Int)) = true := decide_eq_true (by omega)
  have hnn0 : decide ((n : Int) < 0) = false := decide_eq_false (by omega)
  have HG := fun W2 (h : W2 = (w.setCell ⟨b, 0, none⟩ (.pointer (some ⟨b, 0, none⟩))).drew) => Try.grow_fresh B b n W2 hB (by rw [h]; exact hb1) (by rw [h]; have := hBW.size; simp; omega) hn
  go_enter Try.func32, Try.ntmps32
  go_wp2_with (go_at_call 28; refine (Try.copyCheck_fresh b _ c0 hsh hfz).mono ?_; rintro e w1 ⟨rfl, rfl⟩)
  go_region
  all_goals go_wp2_with (go_at_call 38; refine (HG _ rfl).mono ?_; rintro e w1 ⟨rfl, h1, h2⟩)
  all_goals (go_end0; exact ⟨rfl, h1, hBW.drew.trans h2⟩)
theorem rep_min3 {P : Program} (W : World) (ts : Array TypeId) (t : TypeId) (x y z v : Int) (h : (if z < (if y < x then y else x) then z else (if y < x then y else x)) = v) :
    (Builtin.min_ ts t #[.int .i64 x, .int .i64 y, .int .i64 z]).run P W = .ok (.int .i64 v) W := by
  rw [← h]
  simp [Builtin.min_, Builtin.min2]
theorem rep_w64 (x : Int) (h : -9223372036854775808 ≤ x) (h2 : x < 9223372036854775808) : wrap64 x = x := by
  unfold wrap64
  omega
theorem lostL_extract (q k : Nat) (h : k ≤ q) : (⟨(lostL q).toArray⟩ : ByteArray).extract 0 (4 * k) = ⟨(lostL k).toArray⟩ := by
  rw [Lib.extract_eq]
  simp [lostL_take q k h]
theorem strCells_lost (k : Nat) : Lib.strCells ⟨(lostL k).toArray⟩ = Lib.byteCells (lostL k) := by rw [Lib.strCells_eq]
set_option maxHeartbeats 8000000 in
set_option maxRecDepth 100000 in
/-- strings.Repeat, the sign of a lost word and a blank, at most 99 times. -/
theorem Try.Repeat_lost (n : Nat) (w : World) (hn : n ≤ 99) :
    Calls Try.prog 27 #[.string ⟨#[226, 151, 140, 32]⟩, .int .i64 n] w fun e w' => e = .returned (.string ⟨(lostL n).toArray⟩) ∧ Below w.heap.size w w' := by
  by_cases h0 : n = 0
  · subst h0
    go_enter Try.func27, Try.ntmps27
    go_wp2
    go_ret
    exact ⟨rfl, Below.refl _ _⟩
  · by_cases h1 : n = 1
    · subst h1
      go_enter Try.func27, Try.ntmps27
      go_wp2
      go_ret
      exact ⟨rfl, Below.refl _ _⟩
    · have hMul := Try.bits_Mul 4 n (by omega) (by omega) w
      rw [Nat.div_eq_of_lt (by omega : 4 * n < 18446744073709551616), Nat.mod_eq_of_lt (by omega : 4 * n < 18446744073709551616)] at hMul
      obtain ⟨N, hN⟩ : ∃ N : Nat, 4 * n = N := ⟨_, rfl⟩
      rw [hN] at hMul
      have HN := Aside0.mk hN
      have b0 : ((n : Int) == 0) = false := beq_eq_false_iff_ne.2 (by omega)
      have b1 : ((n : Int) == 1) = false := beq_eq_false_iff_ne.2 (by omega)
      have b2 : decide ((n : Int) < 0) = false := decide_eq_false (by omega)
      have b3 : decide ((N : Int) > 9223372036854775807) = false := decide_eq_false (by omega)
      have b3' : decide ((9223372036854775807 : Int) < (N : Int)) = false := decide_eq_false (by omega)
      have b4 : decide ((N : Int) > 8192) = false := decide_eq_false (by omega)
      have b4' : decide ((8192 : Int) < (N : Int)) = false := decide_eq_false (by omega)
      have b5 : IntKind.i64.wrap (N : Int) = (N : Int) := by rw [IntKind.wrap_i64]; omega
      have hNb : N ≤ 396 := by omega
      have hNb8 : 8 ≤ N := by omega
      clear hN
      have HK1 : Aside0 ((w.alloc (.cells #[.pointer none, .slice none 0 0] 56)).heap[w.heap.size]? = some (.cells #[.pointer none, .slice none 0 0] 56 (0, 0))) := ⟨heap_alloc_new w _⟩
      have HK2 : Aside0 (w.heap.size ≤ (w.alloc (.cells #[.pointer none, .slice none 0 0] 56)).heap.size) := ⟨by simp⟩
      have HK3 : Aside0 (Below w.heap.size w (w.alloc (.cells #[.pointer none, .slice none 0 0] 56))) := ⟨(Below.refl w.heap.size w).alloc (Nat.le_refl _) _⟩
      have n1 : 0 < N := by omega
      have n2 : N ≤ 65536 := by omega
      have HL4 : Aside0 (([] : List Value).length + (⟨#[226, 151, 140, 32]⟩ : ByteArray).size ≤ 140737488355328) := ⟨by show 0 + 4 ≤ _; omega⟩
      have HMul : Aside0 (Calls Try.prog 30 #[.int .u64 4, .int .u64 (n : Int)] w fun e w' => e = .returned (.tuple #[.int .u64 0, .int .u64 (N : Int)]) ∧ w' = w) := ⟨hMul⟩
      clear hMul
      go_enter Try.func27, Try.ntmps27
      go_wp2_with (first | (go_at_call 30; (with_reducible refine HMul.out.mono ?_); rintro e w1 ⟨rfl, hw⟩; obtain rfl := hw.symm) | (go_at_call 32; (with_reducible refine (Try.Grow_fresh w.heap.size w.heap.size N _ (Nat.le_refl _) HK1.out HK2.out n1 n2).mono ?_); rintro e w1 ⟨rfl, h1, h2⟩; have HI1 := Aside0.mk (Lib.IsBuilderF.of (Or.inr h1)); have HS1 := Aside0.mk (HK3.out.trans h2).size; have HB1 := Aside0.mk (HK3.out.trans h2); clear h1 h2) | (go_at_call 23; (with_reducible refine (Try.writeString_k w.heap.size w.heap.size [] ⟨#[226, 151, 140, 32]⟩ _ HI1.out HL4.out HS1.out).mono ?_); rintro e w2 ⟨rfl, h1, b1, k1⟩; have HI2 := Aside0.mk h1; have HB2 := Aside0.mk (HB1.out.trans b1); clear h1 b1 k1))
      go_loopg [10] (n - 1) (fun kq v wr => ∃ (q : Nat) (C : Value), v = C ∧ Aside0 (kq = n - q) ∧ 1 ≤ q ∧ q ≤ n ∧ Aside0 (Lib.IsBuilderF 56 5 w.heap.size w.heap.size (Lib.byteCells (lostL q)) wr) ∧ Aside0 (Below w.heap.size w wr))
      case atStart => exact ⟨1, _, rfl, ⟨rfl⟩, Nat.le_refl _, by omega, ⟨Or.inr HI2.out⟩, HB2⟩
      case round =>
        obtain ⟨q, C, rfl, HG, hq1, hq2, HI, HB⟩ := hrel
        have hNn : 4 * n = N := HN.out
        by_cases hqn : q < n
        · obtain ⟨k, hk, hk1, hk2, hk3⟩ : ∃ k, k = min (n - q) q ∧ 1 ≤ k ∧ k ≤ q ∧ q + k ≤ n := ⟨_, rfl, by omega, by omega, by omega⟩
          obtain ⟨L, hL⟩ : ∃ L, 4 * q = L := ⟨_, rfl⟩
          obtain ⟨K, hK⟩ : ∃ K, 4 * k = K := ⟨_, rfl⟩
          have HE := Aside0.mk (lostL_extract q k hk2)
          have HS : Aside0 ((⟨(lostL q).toArray⟩ : ByteArray).size = L) := ⟨by rw [← hL]; show (lostL q).toArray.size = _; simp [lostL_length]⟩
          have HA : Aside0 (Lib.byteCells (lostL (q + k)) = Lib.byteCells (lostL q) ++ Lib.strCells ⟨(lostL k).toArray⟩) := ⟨by rw [lostL_add, Lib.byteCells_append, strCells_lost]⟩
          have HKL : Aside0 ((⟨(lostL k).toArray⟩ : ByteArray).size = K) := ⟨by rw [← hK]; show (lostL k).toArray.size = _; simp [lostL_length]⟩
          have HBL : Aside0 ((Lib.byteCells (lostL q)).length = L) := ⟨by rw [Lib.byteCells_length, lostL_length]; exact hL⟩
          rw [hK] at HE
          obtain ⟨D, hD⟩ : ∃ D : Int, (N : Int) - (L : Int) = D := ⟨_, rfl⟩
          have hDw : wrap64 ((N : Int) - (L : Int)) = D := by rw [rep_w64 _ (by omega) (by omega)]; exact hD
          have hmin : ∀ W : World, (Builtin.min_ #[3, 3, 3] 3 #[.int .i64 D, .int .i64 (L : Int), .int .i64 (N : Int)]).run Try.prog W = .ok (.int .i64 (K : Int)) W := fun W => rep_min3 W _ _ _ _ _ _ (by
            by_cases hlt : (L : Int) < D
            · rw [if_pos hlt, if_neg (by omega)]
              omega
            · rw [if_neg hlt, if_neg (by omega)]
              omega)
          have m0 : ((L : Int) < (N : Int)) = True := eq_true (by omega)
          have m0b : decide ((L : Int) < (N : Int)) = true := decide_eq_true (by omega)
          have e0 : ((0 : Int) ≤ (K : Int)) = True := eq_true (by omega)
          have e1 : ((K : Int) ≤ (L : Int)) = True := eq_true (by omega)
          have e2 : (K ≤ L) = True := eq_true (by omega)
          have hLb : (Lib.byteCells (lostL q)).length + (⟨(lostL k).toArray⟩ : ByteArray).size ≤ 140737488355328 := by rw [HBL.out, HKL.out]; omega
          have HLb := Aside0.mk hLb
          have hbs : ((⟨(lostL q).toArray⟩ : ByteArray).size) = L := HS.out
          have hex : (⟨(lostL q).toArray⟩ : ByteArray).extract 0 K = ⟨(lostL k).toArray⟩ := HE.out
          obtain ⟨T, hT⟩ : ∃ T : ByteArray, ⟨(lostL q).toArray⟩ = T := ⟨_, rfl⟩
          have HT := Aside0.mk hT
          rw [hT] at hbs hex
          clear hLb hT hD hL hK hk
          go_wp2_with (first | (go_at_call 33; (with_reducible refine (Try.Builder_Len_f w.heap.size w.heap.size _ _ HI.out).mono ?_); rintro e w1 ⟨rfl, hw⟩; obtain rfl := hw.symm; rw [HBL.out]) | (go_at_call 24; (with_reducible refine (Try.Builder_String_any_k w.heap.size w.heap.size (lostL q) _ HI.out HB.out.size).mono ?_); rintro e w2 ⟨rfl, h1, b1, k1⟩; have HI2 := Aside0.mk h1; have HB2 := Aside0.mk (HB.out.trans b1); rw [HT.out]; clear h1 b1 k1) | (go_at_call 23; (with_reducible refine (Try.writeString_k w.heap.size w.heap.size (Lib.byteCells (lostL q)) ⟨(lostL k).toArray⟩ _ HI2.out HLb.out HB2.out.size).mono ?_); rintro e w3 ⟨rfl, h1, b1, k1⟩; have HI3 := Aside0.mk h1; have HB3 := Aside0.mk (HB2.out.trans b1); clear h1 b1 k1))
          go_roundg (n - (q + k))
          case measure => have := HG.out; omega
          case rel => exact ⟨q + k, _, rfl, ⟨rfl⟩, by omega, hk3, ⟨by rw [HA.out]; exact Or.inr HI3.out⟩, HB3⟩
        · obtain rfl : q = n := by omega
          have m0 : ((N : Int) < (N : Int)) = False := eq_false (by omega)
          have HBL : Aside0 ((Lib.byteCells (lostL q)).length = N) := ⟨by rw [Lib.byteCells_length, lostL_length]; exact hNn⟩
          go_wp2_with (first | (go_at_call 33; (with_reducible refine (Try.Builder_Len_f w.heap.size w.heap.size _ _ HI.out).mono ?_); rintro e w1 ⟨rfl, hw⟩; obtain rfl := hw.symm; rw [HBL.out]) | (go_at_call 24; (with_reducible refine (Try.Builder_String_any_k w.heap.size w.heap.size (lostL q) _ HI.out HB.out.size).mono ?_); rintro e w2 ⟨rfl, h1, b1, k1⟩; have HB2 := Aside0.mk (HB.out.trans b1); clear h1 b1 k1))
          go_ret
          exact ⟨rfl, HB2.out⟩
end Go.Proofs
namespace Go.Proofs.Ytpmiaaphmgoapaa.H
open Go.RowKit Go.Proofs.YtpmiaaphmgoapaaW.PrintWords Go.Proofs.YtpmiaaphmgoapaaW.PrintLast Go.Proofs.YtpmiaaphmgoapaaW.PrintMore
attribute [local go_sem] max2_int min2_int max_two min_two   -- for this text's walks alone
set_option linter.unusedVariables false
set_option linter.unusedSimpArgs false
def errW : Option Int → Value
  | none => .nilIface
  | some c => .iface 0 (.int .i64 c)
theorem errW_none : errW none = .nilIface := rfl
theorem errW_some (c : Int) : errW (some c) = .iface 0 (.int .i64 c) := rfl
theorem info37 : (Try.prog.info? 37).map (fun i => (i.zero, i.size, i.bytes)) = some (some (.agg #[(.int .i64 0), (.slice none 0 0), (.int .i64 0)]), 3, 40) := by kernel_rfl
-- the values' own types
def rd_L2 (xs : List (List ByteArray)) (i : Int) : (List ByteArray) := xs.getD i.toNat ([] : List ByteArray)
/-! #### struct type 37 -/
structure S37 where
  f0 : Int
  f1 : (List ByteArray)
  f2 : Int
def z37 : S37 := ⟨(0 : Int), ([] : List ByteArray), (0 : Int)⟩
def k37 : Kd S37 := Kd.iso (Kd.pair (Kd.int .i64) (Kd.pair (Kd.slice 9 Kd.string) (Kd.int .i64))) (fun x : S37 => (x.f0, x.f1, x.f2))
theorem k37_open {w : World} {x : S37} {cs : List Value} (h : k37.K w x cs) : ∃ A1 c1, cs = [.int .i64 x.f0, .slice A1 x.f1.length c1, .int .i64 x.f2] ∧ x.f1.length ≤ c1 ∧ Kd.string.C w A1 x.f1.length x.f1 := by
  obtain ⟨_, _, rfl, rfl, ⟨_, _, rfl, ⟨A1, c1, rfl, l1, g1⟩, rfl⟩⟩ := h
  exact ⟨A1, c1, rfl, l1, g1⟩
theorem k37_mk (w : World) (x : S37) {A1 : Option Addr} {c1 : Nat} (l1 : x.f1.length ≤ c1) (g1 : Kd.string.C w A1 x.f1.length x.f1) : k37.K w x [.int .i64 x.f0, .slice A1 x.f1.length c1, .int .i64 x.f2] := ⟨[.int .i64 x.f0], [.slice A1 x.f1.length c1, .int .i64 x.f2], rfl, rfl, ⟨[.slice A1 x.f1.length c1], [.int .i64 x.f2], rfl, ⟨A1, c1, rfl, l1, g1⟩, rfl⟩⟩
theorem k37_openF {W : World} {ok : Nat → Prop} {x : S37} {cs : List Value} (h : Kd.FK k37 W ok x cs) : ∃ A1 c1, cs = [.int .i64 x.f0, .slice A1 x.f1.length c1, .int .i64 x.f2] ∧ x.f1.length ≤ c1 ∧ Kd.F Kd.string W ok A1 x.f1.length x.f1 := by
  obtain ⟨A1, c1, rfl, l1, _⟩ := k37_open (Kd.FK_now h)
  exact ⟨A1, c1, rfl, l1, (fun W' hW => by obtain ⟨A1_, c1_, he, l1_, g1_⟩ := k37_open (h W' hW); injection (Option.some.inj (show some (Value.slice A1 x.f1.length c1) = some (Value.slice A1_ x.f1.length c1_) from congrArg (fun l => l[1]?) he)) with ha_ _ _; rw [ha_]; exact g1_)⟩
theorem k37_mkF (W : World) (ok : Nat → Prop) (x : S37) {A1 : Option Addr} {c1 : Nat} (l1 : x.f1.length ≤ c1) (g1 : Kd.F Kd.string W ok A1 x.f1.length x.f1) : Kd.FK k37 W ok x [.int .i64 x.f0, .slice A1 x.f1.length c1, .int .i64 x.f2] := fun W2 hW => k37_mk W2 x l1 (g1 W2 hW)
def rd_T37 (xs : List S37) (i : Int) : S37 := xs.getD i.toNat z37
theorem at_T37 {w : World} {A : Option Addr} {n : Nat} {xs : List S37} (h : Kd.C k37 w A n xs) (i : Int) (h0 : 0 ≤ i) (h1 : i < n) : ∃ ad A1 c1, A = some ad ∧ w.cell? (ad.add (i.toNat * 3)) = some (.int .i64 (rd_T37 xs i).f0) ∧ w.cell? ⟨(ad.add (i.toNat * 3)).block, (ad.add (i.toNat * 3)).off + 1, none⟩ = some (.slice A1 (rd_T37 xs i).f1.length c1) ∧ w.cell? ⟨(ad.add (i.toNat * 3)).block, (ad.add (i.toNat * 3)).off + 2, none⟩ = some (.int .i64 (rd_T37 xs i).f2) ∧ (rd_T37 xs i).f1.length ≤ c1 ∧ Kd.string.C w A1 (rd_T37 xs i).f1.length (rd_T37 xs i).f1 := by
  obtain ⟨ad, c, e, _, hK, hc0⟩ := Kd.C_get h z37 i h0 h1
  have hc : ∀ j u, c[j]? = some u → w.cell? (ad.add (i.toNat * 3 + j)) = some u := hc0
  obtain ⟨A1, c1, rfl, l1, g1⟩ := k37_open hK
  exact ⟨ad, A1, c1, e, hc 0 _ rfl, by rw [← add_field _ _ 1 (by omega)]; exact hc 1 _ rfl, by rw [← add_field _ _ 2 (by omega)]; exact hc 2 _ rfl, l1, g1⟩
end Go.Proofs.Ytpmiaaphmgoapaa.H
namespace Go.Proofs.Ytpmiaaphmgoapaa.H
open Go.RowKit Go.Proofs.Ytpmiaaphmgoapaa.Mi Go.Proofs.YtpmiaaphmgoapaaW.PrintWords Go.Proofs.YtpmiaaphmgoapaaW.PrintLast Go.Proofs.YtpmiaaphmgoapaaW.PrintMore
attribute [local go_sem] max2_int min2_int max_two min_two   -- for this text's walks alone
set_option linter.unusedVariables false
set_option linter.unusedSimpArgs false
/-! ### mark_right: function 29 -/
def mark_right.f (a0_0 : Int) (l0_1 : List ByteArray) (a0_2 : Int) (a1 : Int) : Option (Bool) := if a0_0 = 1 then (if (l0_1.length : Int) = 1 then (if 0 < (l0_1.length : Int) then (if (rdOf ByteArray.empty l0_1 0).toList = ([] : List UInt8) then (some false) else (if a0_2 = 0 then (some (a1 != 1)) else (some false))) else (none)) else (some false)) else (if a0_0 = 4 then (if (l0_1.length : Int) = 1 then (if 0 < (l0_1.length : Int) then (if (rdOf ByteArray.empty l0_1 0).toList = ([] : List UInt8) then (some false) else (some (a0_2 == 0))) else (none)) else (some false)) else (if a0_0 = 2 then (if (l0_1.length : Int) = 0 then (if a0_2 ≥ 1 then (some (decide (a0_2 ≤ 99))) else (some false)) else (some false)) else (if a0_0 = 3 then (if (l0_1.length : Int) ≥ 2 then (if (l0_1.length : Int) ≤ 4 then (some (a0_2 == 0)) else (some false)) else (some false)) else (some false))))
set_option maxHeartbeats 8000000 in
set_option maxRecDepth 100000 in
theorem mark_right.calls (a0_0 : Int) (A0_1 : Option Addr) (c0_1 : Nat) (l0_1 : List ByteArray) (a0_2 : Int) (a1 : Int) (r : Bool) (w : World) (hr0_1 : Kd.C Kd.string w A0_1 l0_1.length l0_1) (hc0_1 : l0_1.length ≤ c0_1) (h : mark_right.f a0_0 l0_1 a0_2 a1 = some r) :
 Calls Try.prog 29 #[.agg #[.int .i64 a0_0, .slice A0_1 l0_1.length c0_1, .int .i64 a0_2], .int .i64 a1] w fun e w' => e = .returned (.bool r) ∧ Below w.heap.size w w' := by
 have hu37 := Try.underlying37; have HR0_1 := Aside0.mk hr0_1; have HC0_1 := Aside0.mk hc0_1; clear hr0_1 hc0_1; have HB := Aside0.mk (Below.refl w.heap.size w); have H : (if a0_0 = 1 then (if (l0_1.length : Int) = 1 then (if 0 < (l0_1.length : Int) then (if (rdOf ByteArray.empty l0_1 0).toList = ([] : List UInt8) then (some false) else (if a0_2 = 0 then (some (a1 != 1)) else (some false))) else (none)) else (some false)) else (if a0_0 = 4 then (if (l0_1.length : Int) = 1 then (if 0 < (l0_1.length : Int) then (if (rdOf ByteArray.empty l0_1 0).toList = ([] : List UInt8) then (some false) else (some (a0_2 == 0))) else (none)) else (some false)) else (if a0_0 = 2 then (if (l0_1.length : Int) = 0 then (if a0_2 ≥ 1 then (some (decide (a0_2 ≤ 99))) else (some false)) else (some false)) else (if a0_0 = 3 then (if (l0_1.length : Int) ≥ 2 then (if (l0_1.length : Int) ≤ 4 then (some (a0_2 == 0)) else (some false)) else (some false)) else (some false))))) = some r := h; clear h
 by_cases c3 : a0_0 = 1
 ·
  rw [if_pos c3] at H; have c3b0 : (a0_0 == 1) = true := beq_iff_eq.mpr c3; have c3b1 : (a0_0 != 1) = false := bne_eq_false_iff_eq.mpr c3; clear c3
  by_cases c4 : (l0_1.length : Int) = 1
  ·
   rw [if_pos c4] at H; have c4b0 : ((l0_1.length : Int) == 1) = true := beq_iff_eq.mpr c4; have c4b1 : ((l0_1.length : Int) != 1) = false := bne_eq_false_iff_eq.mpr c4; clear c4
   by_cases c5 : 0 < (l0_1.length : Int)
   rotate_left
   · rw [if_neg c5] at H; exact absurd H (by simp)
   rw [if_pos c5] at H; have c5b0 : decide (0 < (l0_1.length : Int)) = true := decide_eq_true c5; have c5b1 : decide (0 < l0_1.length) = true := decide_eq_true (by omega); clear c5
   by_cases c6 : (rdOf ByteArray.empty l0_1 0).toList = ([] : List UInt8)
   ·
    rw [if_pos c6] at H; have c6b0 : ((rdOf ByteArray.empty l0_1 0).toList == ([] : List UInt8)) = true := beq_iff_eq.mpr c6; have c6b1 : ((rdOf ByteArray.empty l0_1 0).toList != ([] : List UInt8)) = false := bne_eq_false_iff_eq.mpr c6; clear c6; obtain rfl := Option.some.inj H
    go_enter Try.func29, Try.ntmps29
    go_wp2_with (first | ((with_reducible refine gate_dst (N := 2) rfl ?_); refine box_event ?hg (N := 2) ?hd (cs := #[.int .i64 a0_0, .slice A0_1 l0_1.length c0_1, .int .i64 a0_2]) (t := 37) ?hr ?_; (case hd => rfl); (case hg => rfl); (case hr => first | (go_simp; done) | (go_simp; rfl)); intro gb29101 hg w7 hbox hb; have n0_ := Aside0.mk (below_step bel hb); have n1_ := Aside0.mk (hbox); have n2_ := Aside0.mk ((by rw [hg]; exact (below_size bel) : w.heap.size ≤ gb29101)); have n3_ := Aside0.mk ((by rw [hg]; exact (below_size bel) : w.heap.size ≤ gb29101)); clear HB; have HB := n0_; have BK29101 := n1_; have GW29101 := n2_; have GE29101 := n3_; clear n0_ n1_ n2_ n3_; clear hb hbox hg; have hcz8_0 : w7.cell? ⟨gb29101, 0, none⟩ = some (.int .i64 a0_0) := (blk_cell BK29101.out 0).trans rfl; have hcz8_1 : w7.cell? ⟨gb29101, 1, none⟩ = some (.slice A0_1 l0_1.length c0_1) := (blk_cell BK29101.out 1).trans rfl; have hcz8_2 : w7.cell? ⟨gb29101, 2, none⟩ = some (.int .i64 a0_2) := (blk_cell BK29101.out 2).trans rfl; have hfz8_0 := blk_frozen BK29101.out 0; have hfz8_1 := blk_frozen BK29101.out 1; have hfz8_2 := blk_frozen BK29101.out 2; have p29102 : 0 ≤ (0 : Int) := (by omega); have q29102 : 0 < (l0_1.length : Int) := oda; obtain ⟨ad29102, e29102, hx29102_0⟩ := Kd.at_string HR0_1.out 0 p29102 q29102; cases e29102; have qi29102 : (0 < l0_1.length) = True := eq_true (by omega); (try rw [show ((0 : Int)).toNat = 0 from rfl] at hx29102_0); (try rw [Addr.add_zero'] at hx29102_0); replace hx29102_0 := (HB.out.cell (World.block_lt_of_cell? w _ hx29102_0)).trans hx29102_0; replace p29102 := eq_true p29102; replace q29102 := eq_true q29102))
    go_ret; exact ⟨by first | rfl | (simp [errW_none, errW_some] <;> rfl) | (simp [*, errW_none, errW_some] <;> rfl), by exact bel⟩
   ·
    rw [if_neg c6] at H; have c6b0 : ((rdOf ByteArray.empty l0_1 0).toList == ([] : List UInt8)) = false := beq_eq_false_iff_ne.mpr c6; have c6b1 : ((rdOf ByteArray.empty l0_1 0).toList != ([] : List UInt8)) = true := bne_iff_ne.mpr c6
    by_cases c9 : a0_2 = 0
    ·
     rw [if_pos c9] at H; have c9b0 : (a0_2 == 0) = true := beq_iff_eq.mpr c9; have c9b1 : (a0_2 != 0) = false := bne_eq_false_iff_eq.mpr c9; clear c9; obtain rfl := Option.some.inj H
     go_enter Try.func29, Try.ntmps29
     go_wp2_with (first | ((with_reducible refine gate_dst (N := 2) rfl ?_); refine box_event ?hg (N := 2) ?hd (cs := #[.int .i64 a0_0, .slice A0_1 l0_1.length c0_1, .int .i64 a0_2]) (t := 37) ?hr ?_; (case hd => rfl); (case hg => rfl); (case hr => first | (go_simp; done) | (go_simp; rfl)); intro gb29101 hg w10 hbox hb; have n0_ := Aside0.mk (below_step bel hb); have n1_ := Aside0.mk (hbox); have n2_ := Aside0.mk ((by rw [hg]; exact (below_size bel) : w.heap.size ≤ gb29101)); have n3_ := Aside0.mk ((by rw [hg]; exact (below_size bel) : w.heap.size ≤ gb29101)); clear HB; have HB := n0_; have BK29101 := n1_; have GW29101 := n2_; have GE29101 := n3_; clear n0_ n1_ n2_ n3_; clear hb hbox hg; have hcz11_0 : w10.cell? ⟨gb29101, 0, none⟩ = some (.int .i64 a0_0) := (blk_cell BK29101.out 0).trans rfl; have hcz11_1 : w10.cell? ⟨gb29101, 1, none⟩ = some (.slice A0_1 l0_1.length c0_1) := (blk_cell BK29101.out 1).trans rfl; have hcz11_2 : w10.cell? ⟨gb29101, 2, none⟩ = some (.int .i64 a0_2) := (blk_cell BK29101.out 2).trans rfl; have hfz11_0 := blk_frozen BK29101.out 0; have hfz11_1 := blk_frozen BK29101.out 1; have hfz11_2 := blk_frozen BK29101.out 2; have p29102 : 0 ≤ (0 : Int) := (by omega); have q29102 : 0 < (l0_1.length : Int) := oda; obtain ⟨ad29102, e29102, hx29102_0⟩ := Kd.at_string HR0_1.out 0 p29102 q29102; cases e29102; have qi29102 : (0 < l0_1.length) = True := eq_true (by omega); (try rw [show ((0 : Int)).toNat = 0 from rfl] at hx29102_0); (try rw [Addr.add_zero'] at hx29102_0); replace hx29102_0 := (HB.out.cell (World.block_lt_of_cell? w _ hx29102_0)).trans hx29102_0; replace p29102 := eq_true p29102; replace q29102 := eq_true q29102))
     go_ret; exact ⟨by first | rfl | (simp [errW_none, errW_some] <;> rfl) | (simp [*, errW_none, errW_some] <;> rfl), by exact bel⟩
    ·
     rw [if_neg c9] at H; have c9b0 : (a0_2 == 0) = false := beq_eq_false_iff_ne.mpr c9; have c9b1 : (a0_2 != 0) = true := bne_iff_ne.mpr c9; obtain rfl := Option.some.inj H
     go_enter Try.func29, Try.ntmps29
     go_wp2_with (first | ((with_reducible refine gate_dst (N := 2) rfl ?_); refine box_event ?hg (N := 2) ?hd (cs := #[.int .i64 a0_0, .slice A0_1 l0_1.length c0_1, .int .i64 a0_2]) (t := 37) ?hr ?_; (case hd => rfl); (case hg => rfl); (case hr => first | (go_simp; done) | (go_simp; rfl)); intro gb29101 hg w12 hbox hb; have n0_ := Aside0.mk (below_step bel hb); have n1_ := Aside0.mk (hbox); have n2_ := Aside0.mk ((by rw [hg]; exact (below_size bel) : w.heap.size ≤ gb29101)); have n3_ := Aside0.mk ((by rw [hg]; exact (below_size bel) : w.heap.size ≤ gb29101)); clear HB; have HB := n0_; have BK29101 := n1_; have GW29101 := n2_; have GE29101 := n3_; clear n0_ n1_ n2_ n3_; clear hb hbox hg; have hcz13_0 : w12.cell? ⟨gb29101, 0, none⟩ = some (.int .i64 a0_0) := (blk_cell BK29101.out 0).trans rfl; have hcz13_1 : w12.cell? ⟨gb29101, 1, none⟩ = some (.slice A0_1 l0_1.length c0_1) := (blk_cell BK29101.out 1).trans rfl; have hcz13_2 : w12.cell? ⟨gb29101, 2, none⟩ = some (.int .i64 a0_2) := (blk_cell BK29101.out 2).trans rfl; have hfz13_0 := blk_frozen BK29101.out 0; have hfz13_1 := blk_frozen BK29101.out 1; have hfz13_2 := blk_frozen BK29101.out 2; have p29102 : 0 ≤ (0 : Int) := (by omega); have q29102 : 0 < (l0_1.length : Int) := oda; obtain ⟨ad29102, e29102, hx29102_0⟩ := Kd.at_string HR0_1.out 0 p29102 q29102; cases e29102; have qi29102 : (0 < l0_1.length) = True := eq_true (by omega); (try rw [show ((0 : Int)).toNat = 0 from rfl] at hx29102_0); (try rw [Addr.add_zero'] at hx29102_0); replace hx29102_0 := (HB.out.cell (World.block_lt_of_cell? w _ hx29102_0)).trans hx29102_0; replace p29102 := eq_true p29102; replace q29102 := eq_true q29102))
     go_ret; exact ⟨by first | rfl | (simp [errW_none, errW_some] <;> rfl) | (simp [*, errW_none, errW_some] <;> rfl), by exact bel⟩
  ·
   rw [if_neg c4] at H; have c4b0 : ((l0_1.length : Int) == 1) = false := beq_eq_false_iff_ne.mpr c4; have c4b1 : ((l0_1.length : Int) != 1) = true := bne_iff_ne.mpr c4; obtain rfl := Option.some.inj H
   go_enter Try.func29, Try.ntmps29
   go_wp2_with (first | ((with_reducible refine gate_dst (N := 2) rfl ?_); refine box_event ?hg (N := 2) ?hd (cs := #[.int .i64 a0_0, .slice A0_1 l0_1.length c0_1, .int .i64 a0_2]) (t := 37) ?hr ?_; (case hd => rfl); (case hg => rfl); (case hr => first | (go_simp; done) | (go_simp; rfl)); intro gb29101 hg w14 hbox hb; have n0_ := Aside0.mk (below_step bel hb); have n1_ := Aside0.mk (hbox); have n2_ := Aside0.mk ((by rw [hg]; exact (below_size bel) : w.heap.size ≤ gb29101)); have n3_ := Aside0.mk ((by rw [hg]; exact (below_size bel) : w.heap.size ≤ gb29101)); clear HB; have HB := n0_; have BK29101 := n1_; have GW29101 := n2_; have GE29101 := n3_; clear n0_ n1_ n2_ n3_; clear hb hbox hg; have hcz15_0 : w14.cell? ⟨gb29101, 0, none⟩ = some (.int .i64 a0_0) := (blk_cell BK29101.out 0).trans rfl; have hcz15_1 : w14.cell? ⟨gb29101, 1, none⟩ = some (.slice A0_1 l0_1.length c0_1) := (blk_cell BK29101.out 1).trans rfl; have hcz15_2 : w14.cell? ⟨gb29101, 2, none⟩ = some (.int .i64 a0_2) := (blk_cell BK29101.out 2).trans rfl; have hfz15_0 := blk_frozen BK29101.out 0; have hfz15_1 := blk_frozen BK29101.out 1; have hfz15_2 := blk_frozen BK29101.out 2))
   go_ret; exact ⟨by first | rfl | (simp [errW_none, errW_some] <;> rfl) | (simp [*, errW_none, errW_some] <;> rfl), by exact bel⟩
 ·
  rw [if_neg c3] at H; have c3b0 : (a0_0 == 1) = false := beq_eq_false_iff_ne.mpr c3; have c3b1 : (a0_0 != 1) = true := bne_iff_ne.mpr c3
  by_cases c16 : a0_0 = 4
  ·
   rw [if_pos c16] at H; have c16b0 : (a0_0 == 4) = true := beq_iff_eq.mpr c16; have c16b1 : (a0_0 != 4) = false := bne_eq_false_iff_eq.mpr c16; clear c16
   by_cases c17 : (l0_1.length : Int) = 1
   ·
    rw [if_pos c17] at H; have c17b0 : ((l0_1.length : Int) == 1) = true := beq_iff_eq.mpr c17; have c17b1 : ((l0_1.length : Int) != 1) = false := bne_eq_false_iff_eq.mpr c17; clear c17
    by_cases c18 : 0 < (l0_1.length : Int)
    rotate_left
    · rw [if_neg c18] at H; exact absurd H (by simp)
    rw [if_pos c18] at H; have c18b0 : decide (0 < (l0_1.length : Int)) = true := decide_eq_true c18; have c18b1 : decide (0 < l0_1.length) = true := decide_eq_true (by omega); clear c18
    by_cases c19 : (rdOf ByteArray.empty l0_1 0).toList = ([] : List UInt8)
    ·
     rw [if_pos c19] at H; have c19b0 : ((rdOf ByteArray.empty l0_1 0).toList == ([] : List UInt8)) = true := beq_iff_eq.mpr c19; have c19b1 : ((rdOf ByteArray.empty l0_1 0).toList != ([] : List UInt8)) = false := bne_eq_false_iff_eq.mpr c19; clear c19; obtain rfl := Option.some.inj H
     go_enter Try.func29, Try.ntmps29
     go_wp2_with (first | ((with_reducible refine gate_dst (N := 2) rfl ?_); refine box_event ?hg (N := 2) ?hd (cs := #[.int .i64 a0_0, .slice A0_1 l0_1.length c0_1, .int .i64 a0_2]) (t := 37) ?hr ?_; (case hd => rfl); (case hg => rfl); (case hr => first | (go_simp; done) | (go_simp; rfl)); intro gb29101 hg w20 hbox hb; have n0_ := Aside0.mk (below_step bel hb); have n1_ := Aside0.mk (hbox); have n2_ := Aside0.mk ((by rw [hg]; exact (below_size bel) : w.heap.size ≤ gb29101)); have n3_ := Aside0.mk ((by rw [hg]; exact (below_size bel) : w.heap.size ≤ gb29101)); clear HB; have HB := n0_; have BK29101 := n1_; have GW29101 := n2_; have GE29101 := n3_; clear n0_ n1_ n2_ n3_; clear hb hbox hg; have hcz21_0 : w20.cell? ⟨gb29101, 0, none⟩ = some (.int .i64 a0_0) := (blk_cell BK29101.out 0).trans rfl; have hcz21_1 : w20.cell? ⟨gb29101, 1, none⟩ = some (.slice A0_1 l0_1.length c0_1) := (blk_cell BK29101.out 1).trans rfl; have hcz21_2 : w20.cell? ⟨gb29101, 2, none⟩ = some (.int .i64 a0_2) := (blk_cell BK29101.out 2).trans rfl; have hfz21_0 := blk_frozen BK29101.out 0; have hfz21_1 := blk_frozen BK29101.out 1; have hfz21_2 := blk_frozen BK29101.out 2; have p29103 : 0 ≤ (0 : Int) := (by omega); have q29103 : 0 < (l0_1.length : Int) := oda; obtain ⟨ad29103, e29103, hx29103_0⟩ := Kd.at_string HR0_1.out 0 p29103 q29103; cases e29103; have qi29103 : (0 < l0_1.length) = True := eq_true (by omega); (try rw [show ((0 : Int)).toNat = 0 from rfl] at hx29103_0); (try rw [Addr.add_zero'] at hx29103_0); replace hx29103_0 := (HB.out.cell (World.block_lt_of_cell? w _ hx29103_0)).trans hx29103_0; replace p29103 := eq_true p29103; replace q29103 := eq_true q29103))
     go_ret; exact ⟨by first | rfl | (simp [errW_none, errW_some] <;> rfl) | (simp [*, errW_none, errW_some] <;> rfl), by exact bel⟩
    ·
     rw [if_neg c19] at H; have c19b0 : ((rdOf ByteArray.empty l0_1 0).toList == ([] : List UInt8)) = false := beq_eq_false_iff_ne.mpr c19; have c19b1 : ((rdOf ByteArray.empty l0_1 0).toList != ([] : List UInt8)) = true := bne_iff_ne.mpr c19; obtain rfl := Option.some.inj H
     go_enter Try.func29, Try.ntmps29
     go_wp2_with (first | ((with_reducible refine gate_dst (N := 2) rfl ?_); refine box_event ?hg (N := 2) ?hd (cs := #[.int .i64 a0_0, .slice A0_1 l0_1.length c0_1, .int .i64 a0_2]) (t := 37) ?hr ?_; (case hd => rfl); (case hg => rfl); (case hr => first | (go_simp; done) | (go_simp; rfl)); intro gb29101 hg w22 hbox hb; have n0_ := Aside0.mk (below_step bel hb); have n1_ := Aside0.mk (hbox); have n2_ := Aside0.mk ((by rw [hg]; exact (below_size bel) : w.heap.size ≤ gb29101)); have n3_ := Aside0.mk ((by rw [hg]; exact (below_size bel) : w.heap.size ≤ gb29101)); clear HB; have HB := n0_; have BK29101 := n1_; have GW29101 := n2_; have GE29101 := n3_; clear n0_ n1_ n2_ n3_; clear hb hbox hg; have hcz23_0 : w22.cell? ⟨gb29101, 0, none⟩ = some (.int .i64 a0_0) := (blk_cell BK29101.out 0).trans rfl; have hcz23_1 : w22.cell? ⟨gb29101, 1, none⟩ = some (.slice A0_1 l0_1.length c0_1) := (blk_cell BK29101.out 1).trans rfl; have hcz23_2 : w22.cell? ⟨gb29101, 2, none⟩ = some (.int .i64 a0_2) := (blk_cell BK29101.out 2).trans rfl; have hfz23_0 := blk_frozen BK29101.out 0; have hfz23_1 := blk_frozen BK29101.out 1; have hfz23_2 := blk_frozen BK29101.out 2; have p29103 : 0 ≤ (0 : Int) := (by omega); have q29103 : 0 < (l0_1.length : Int) := oda; obtain ⟨ad29103, e29103, hx29103_0⟩ := Kd.at_string HR0_1.out 0 p29103 q29103; cases e29103; have qi29103 : (0 < l0_1.length) = True := eq_true (by omega); (try rw [show ((0 : Int)).toNat = 0 from rfl] at hx29103_0); (try rw [Addr.add_zero'] at hx29103_0); replace hx29103_0 := (HB.out.cell (World.block_lt_of_cell? w _ hx29103_0)).trans hx29103_0; replace p29103 := eq_true p29103; replace q29103 := eq_true q29103))
     go_ret; exact ⟨by first | rfl | (simp [errW_none, errW_some] <;> rfl) | (simp [*, errW_none, errW_some] <;> rfl), by exact bel⟩
   ·
    rw [if_neg c17] at H; have c17b0 : ((l0_1.length : Int) == 1) = false := beq_eq_false_iff_ne.mpr c17; have c17b1 : ((l0_1.length : Int) != 1) = true := bne_iff_ne.mpr c17; obtain rfl := Option.some.inj H
    go_enter Try.func29, Try.ntmps29
    go_wp2_with (first | ((with_reducible refine gate_dst (N := 2) rfl ?_); refine box_event ?hg (N := 2) ?hd (cs := #[.int .i64 a0_0, .slice A0_1 l0_1.length c0_1, .int .i64 a0_2]) (t := 37) ?hr ?_; (case hd => rfl); (case hg => rfl); (case hr => first | (go_simp; done) | (go_simp; rfl)); intro gb29101 hg w24 hbox hb; have n0_ := Aside0.mk (below_step bel hb); have n1_ := Aside0.mk (hbox); have n2_ := Aside0.mk ((by rw [hg]; exact (below_size bel) : w.heap.size ≤ gb29101)); have n3_ := Aside0.mk ((by rw [hg]; exact (below_size bel) : w.heap.size ≤ gb29101)); clear HB; have HB := n0_; have BK29101 := n1_; have GW29101 := n2_; have GE29101 := n3_; clear n0_ n1_ n2_ n3_; clear hb hbox hg; have hcz25_0 : w24.cell? ⟨gb29101, 0, none⟩ = some (.int .i64 a0_0) := (blk_cell BK29101.out 0).trans rfl; have hcz25_1 : w24.cell? ⟨gb29101, 1, none⟩ = some (.slice A0_1 l0_1.length c0_1) := (blk_cell BK29101.out 1).trans rfl; have hcz25_2 : w24.cell? ⟨gb29101, 2, none⟩ = some (.int .i64 a0_2) := (blk_cell BK29101.out 2).trans rfl; have hfz25_0 := blk_frozen BK29101.out 0; have hfz25_1 := blk_frozen BK29101.out 1; have hfz25_2 := blk_frozen BK29101.out 2))
    go_ret; exact ⟨by first | rfl | (simp [errW_none, errW_some] <;> rfl) | (simp [*, errW_none, errW_some] <;> rfl), by exact bel⟩
  ·
   rw [if_neg c16] at H; have c16b0 : (a0_0 == 4) = false := beq_eq_false_iff_ne.mpr c16; have c16b1 : (a0_0 != 4) = true := bne_iff_ne.mpr c16
   by_cases c26 : a0_0 = 2
   ·
    rw [if_pos c26] at H; have c26b0 : (a0_0 == 2) = true := beq_iff_eq.mpr c26; have c26b1 : (a0_0 != 2) = false := bne_eq_false_iff_eq.mpr c26; clear c26
    by_cases c27 : (l0_1.length : Int) = 0
    ·
     rw [if_pos c27] at H; have c27b0 : ((l0_1.length : Int) == 0) = true := beq_iff_eq.mpr c27; have c27b1 : ((l0_1.length : Int) != 0) = false := bne_eq_false_iff_eq.mpr c27; clear c27
     by_cases c28 : a0_2 ≥ 1
     ·
      rw [if_pos c28] at H; have c28b0 : decide (1 ≤ a0_2) = true := decide_eq_true c28; clear c28; obtain rfl := Option.some.inj H
      go_enter Try.func29, Try.ntmps29
      go_wp2_with (first | ((with_reducible refine gate_dst (N := 2) rfl ?_); refine box_event ?hg (N := 2) ?hd (cs := #[.int .i64 a0_0, .slice A0_1 l0_1.length c0_1, .int .i64 a0_2]) (t := 37) ?hr ?_; (case hd => rfl); (case hg => rfl); (case hr => first | (go_simp; done) | (go_simp; rfl)); intro gb29101 hg w29 hbox hb; have n0_ := Aside0.mk (below_step bel hb); have n1_ := Aside0.mk (hbox); have n2_ := Aside0.mk ((by rw [hg]; exact (below_size bel) : w.heap.size ≤ gb29101)); have n3_ := Aside0.mk ((by rw [hg]; exact (below_size bel) : w.heap.size ≤ gb29101)); clear HB; have HB := n0_; have BK29101 := n1_; have GW29101 := n2_; have GE29101 := n3_; clear n0_ n1_ n2_ n3_; clear hb hbox hg; have hcz30_0 : w29.cell? ⟨gb29101, 0, none⟩ = some (.int .i64 a0_0) := (blk_cell BK29101.out 0).trans rfl; have hcz30_1 : w29.cell? ⟨gb29101, 1, none⟩ = some (.slice A0_1 l0_1.length c0_1) := (blk_cell BK29101.out 1).trans rfl; have hcz30_2 : w29.cell? ⟨gb29101, 2, none⟩ = some (.int .i64 a0_2) := (blk_cell BK29101.out 2).trans rfl; have hfz30_0 := blk_frozen BK29101.out 0; have hfz30_1 := blk_frozen BK29101.out 1; have hfz30_2 := blk_frozen BK29101.out 2))
      go_ret; exact ⟨by first | rfl | (simp [errW_none, errW_some] <;> rfl) | (simp [*, errW_none, errW_some] <;> rfl), by exact bel⟩
     ·
      rw [if_neg c28] at H; have c28b0 : decide (1 ≤ a0_2) = false := decide_eq_false c28; clear c28; obtain rfl := Option.some.inj H
      go_enter Try.func29, Try.ntmps29
      go_wp2_with (first | ((with_reducible refine gate_dst (N := 2) rfl ?_); refine box_event ?hg (N := 2) ?hd (cs := #[.int .i64 a0_0, .slice A0_1 l0_1.length c0_1, .int .i64 a0_2]) (t := 37) ?hr ?_; (case hd => rfl); (case hg => rfl); (case hr => first | (go_simp; done) | (go_simp; rfl)); intro gb29101 hg w31 hbox hb; have n0_ := Aside0.mk (below_step bel hb); have n1_ := Aside0.mk (hbox); have n2_ := Aside0.mk ((by rw [hg]; exact (below_size bel) : w.heap.size ≤ gb29101)); have n3_ := Aside0.mk ((by rw [hg]; exact (below_size bel) : w.heap.size ≤ gb29101)); clear HB; have HB := n0_; have BK29101 := n1_; have GW29101 := n2_; have GE29101 := n3_; clear n0_ n1_ n2_ n3_; clear hb hbox hg; have hcz32_0 : w31.cell? ⟨gb29101, 0, none⟩ = some (.int .i64 a0_0) := (blk_cell BK29101.out 0).trans rfl; have hcz32_1 : w31.cell? ⟨gb29101, 1, none⟩ = some (.slice A0_1 l0_1.length c0_1) := (blk_cell BK29101.out 1).trans rfl; have hcz32_2 : w31.cell? ⟨gb29101, 2, none⟩ = some (.int .i64 a0_2) := (blk_cell BK29101.out 2).trans rfl; have hfz32_0 := blk_frozen BK29101.out 0; have hfz32_1 := blk_frozen BK29101.out 1; have hfz32_2 := blk_frozen BK29101.out 2))
      go_ret; exact ⟨by first | rfl | (simp [errW_none, errW_some] <;> rfl) | (simp [*, errW_none, errW_some] <;> rfl), by exact bel⟩
    ·
     rw [if_neg c27] at H; have c27b0 : ((l0_1.length : Int) == 0) = false := beq_eq_false_iff_ne.mpr c27; have c27b1 : ((l0_1.length : Int) != 0) = true := bne_iff_ne.mpr c27
     have c27b2 : ¬ (l0_1 = []) := fun h_ => c27 (by rw [h_]; rfl)
     obtain rfl := Option.some.inj H
     go_enter Try.func29, Try.ntmps29
     go_wp2_with (first | ((with_reducible refine gate_dst (N := 2) rfl ?_); refine box_event ?hg (N := 2) ?hd (cs := #[.int .i64 a0_0, .slice A0_1 l0_1.length c0_1, .int .i64 a0_2]) (t := 37) ?hr ?_; (case hd => rfl); (case hg => rfl); (case hr => first | (go_simp; done) | (go_simp; rfl)); intro gb29101 hg w33 hbox hb; have n0_ := Aside0.mk (below_step bel hb); have n1_ := Aside0.mk (hbox); have n2_ := Aside0.mk ((by rw [hg]; exact (below_size bel) : w.heap.size ≤ gb29101)); have n3_ := Aside0.mk ((by rw [hg]; exact (below_size bel) : w.heap.size ≤ gb29101)); clear HB; have HB := n0_; have BK29101 := n1_; have GW29101 := n2_; have GE29101 := n3_; clear n0_ n1_ n2_ n3_; clear hb hbox hg; have hcz34_0 : w33.cell? ⟨gb29101, 0, none⟩ = some (.int .i64 a0_0) := (blk_cell BK29101.out 0).trans rfl; have hcz34_1 : w33.cell? ⟨gb29101, 1, none⟩ = some (.slice A0_1 l0_1.length c0_1) := (blk_cell BK29101.out 1).trans rfl; have hcz34_2 : w33.cell? ⟨gb29101, 2, none⟩ = some (.int .i64 a0_2) := (blk_cell BK29101.out 2).trans rfl; have hfz34_0 := blk_frozen BK29101.out 0; have hfz34_1 := blk_frozen BK29101.out 1; have hfz34_2 := blk_frozen BK29101.out 2))
     go_ret; exact ⟨by first | rfl | (simp [errW_none, errW_some] <;> rfl) | (simp [*, errW_none, errW_some] <;> rfl), by exact bel⟩
   ·
    rw [if_neg c26] at H; have c26b0 : (a0_0 == 2) = false := beq_eq_false_iff_ne.mpr c26; have c26b1 : (a0_0 != 2) = true := bne_iff_ne.mpr c26
    by_cases c35 : a0_0 = 3
    ·
     rw [if_pos c35] at H; have c35b0 : (a0_0 == 3) = true := beq_iff_eq.mpr c35; have c35b1 : (a0_0 != 3) = false := bne_eq_false_iff_eq.mpr c35; clear c35
     by_cases c36 : (l0_1.length : Int) ≥ 2
     ·
      rw [if_pos c36] at H; have c36b0 : decide (2 ≤ (l0_1.length : Int)) = true := decide_eq_true c36; have c36b1 : decide (2 ≤ l0_1.length) = true := decide_eq_true (by omega); clear c36
      by_cases c37 : (l0_1.length : Int) ≤ 4
      ·
       rw [if_pos c37] at H; have c37b0 : decide ((l0_1.length : Int) ≤ 4) = true := decide_eq_true c37; have c37b1 : decide (l0_1.length ≤ 4) = true := decide_eq_true (by omega); clear c37; obtain rfl := Option.some.inj H
       go_enter Try.func29, Try.ntmps29
       go_wp2_with (first | ((with_reducible refine gate_dst (N := 2) rfl ?_); refine box_event ?hg (N := 2) ?hd (cs := #[.int .i64 a0_0, .slice A0_1 l0_1.length c0_1, .int .i64 a0_2]) (t := 37) ?hr ?_; (case hd => rfl); (case hg => rfl); (case hr => first | (go_simp; done) | (go_simp; rfl)); intro gb29101 hg w38 hbox hb; have n0_ := Aside0.mk (below_step bel hb); have n1_ := Aside0.mk (hbox); have n2_ := Aside0.mk ((by rw [hg]; exact (below_size bel) : w.heap.size ≤ gb29101)); have n3_ := Aside0.mk ((by rw [hg]; exact (below_size bel) : w.heap.size ≤ gb29101)); clear HB; have HB := n0_; have BK29101 := n1_; have GW29101 := n2_; have GE29101 := n3_; clear n0_ n1_ n2_ n3_; clear hb hbox hg; have hcz39_0 : w38.cell? ⟨gb29101, 0, none⟩ = some (.int .i64 a0_0) := (blk_cell BK29101.out 0).trans rfl; have hcz39_1 : w38.cell? ⟨gb29101, 1, none⟩ = some (.slice A0_1 l0_1.length c0_1) := (blk_cell BK29101.out 1).trans rfl; have hcz39_2 : w38.cell? ⟨gb29101, 2, none⟩ = some (.int .i64 a0_2) := (blk_cell BK29101.out 2).trans rfl; have hfz39_0 := blk_frozen BK29101.out 0; have hfz39_1 := blk_frozen BK29101.out 1; have hfz39_2 := blk_frozen BK29101.out 2))
       go_ret; exact ⟨by first | rfl | (simp [errW_none, errW_some] <;> rfl) | (simp [*, errW_none, errW_some] <;> rfl), by exact bel⟩
      ·
       rw [if_neg c37] at H; have c37b0 : decide ((l0_1.length : Int) ≤ 4) = false := decide_eq_false c37; have c37b1 : decide (l0_1.length ≤ 4) = false := decide_eq_false (by omega); clear c37; obtain rfl := Option.some.inj H
       go_enter Try.func29, Try.ntmps29
       go_wp2_with (first | ((with_reducible refine gate_dst (N := 2) rfl ?_); refine box_event ?hg (N := 2) ?hd (cs := #[.int .i64 a0_0, .slice A0_1 l0_1.length c0_1, .int .i64 a0_2]) (t := 37) ?hr ?_; (case hd => rfl); (case hg => rfl); (case hr => first | (go_simp; done) | (go_simp; rfl)); intro gb29101 hg w40 hbox hb; have n0_ := Aside0.mk (below_step bel hb); have n1_ := Aside0.mk (hbox); have n2_ := Aside0.mk ((by rw [hg]; exact (below_size bel) : w.heap.size ≤ gb29101)); have n3_ := Aside0.mk ((by rw [hg]; exact (below_size bel) : w.heap.size ≤ gb29101)); clear HB; have HB := n0_; have BK29101 := n1_; have GW29101 := n2_; have GE29101 := n3_; clear n0_ n1_ n2_ n3_; clear hb hbox hg; have hcz41_0 : w40.cell? ⟨gb29101, 0, none⟩ = some (.int .i64 a0_0) := (blk_cell BK29101.out 0).trans rfl; have hcz41_1 : w40.cell? ⟨gb29101, 1, none⟩ = some (.slice A0_1 l0_1.length c0_1) := (blk_cell BK29101.out 1).trans rfl; have hcz41_2 : w40.cell? ⟨gb29101, 2, none⟩ = some (.int .i64 a0_2) := (blk_cell BK29101.out 2).trans rfl; have hfz41_0 := blk_frozen BK29101.out 0; have hfz41_1 := blk_frozen BK29101.out 1; have hfz41_2 := blk_frozen BK29101.out 2))
       go_ret; exact ⟨by first | rfl | (simp [errW_none, errW_some] <;> rfl) | (simp [*, errW_none, errW_some] <;> rfl), by exact bel⟩
     ·
      rw [if_neg c36] at H; have c36b0 : decide (2 ≤ (l0_1.length : Int)) = false := decide_eq_false c36; have c36b1 : decide (2 ≤ l0_1.length) = false := decide_eq_false (by omega); clear c36; obtain rfl := Option.some.inj H
      go_enter Try.func29, Try.ntmps29
      go_wp2_with (first | ((with_reducible refine gate_dst (N := 2) rfl ?_); refine box_event ?hg (N := 2) ?hd (cs := #[.int .i64 a0_0, .slice A0_1 l0_1.length c0_1, .int .i64 a0_2]) (t := 37) ?hr ?_; (case hd => rfl); (case hg => rfl); (case hr => first | (go_simp; done) | (go_simp; rfl)); intro gb29101 hg w42 hbox hb; have n0_ := Aside0.mk (below_step bel hb); have n1_ := Aside0.mk (hbox); have n2_ := Aside0.mk ((by rw [hg]; exact (below_size bel) : w.heap.size ≤ gb29101)); have n3_ := Aside0.mk ((by rw [hg]; exact (below_size bel) : w.heap.size ≤ gb29101)); clear HB; have HB := n0_; have BK29101 := n1_; have GW29101 := n2_; have GE29101 := n3_; clear n0_ n1_ n2_ n3_; clear hb hbox hg; have hcz43_0 : w42.cell? ⟨gb29101, 0, none⟩ = some (.int .i64 a0_0) := (blk_cell BK29101.out 0).trans rfl; have hcz43_1 : w42.cell? ⟨gb29101, 1, none⟩ = some (.slice A0_1 l0_1.length c0_1) := (blk_cell BK29101.out 1).trans rfl; have hcz43_2 : w42.cell? ⟨gb29101, 2, none⟩ = some (.int .i64 a0_2) := (blk_cell BK29101.out 2).trans rfl; have hfz43_0 := blk_frozen BK29101.out 0; have hfz43_1 := blk_frozen BK29101.out 1; have hfz43_2 := blk_frozen BK29101.out 2))
      go_ret; exact ⟨by first | rfl | (simp [errW_none, errW_some] <;> rfl) | (simp [*, errW_none, errW_some] <;> rfl), by exact bel⟩
    ·
     rw [if_neg c35] at H; have c35b0 : (a0_0 == 3) = false := beq_eq_false_iff_ne.mpr c35; have c35b1 : (a0_0 != 3) = true := bne_iff_ne.mpr c35; obtain rfl := Option.some.inj H
     go_enter Try.func29, Try.ntmps29
     go_wp2_with (first | ((with_reducible refine gate_dst (N := 2) rfl ?_); refine box_event ?hg (N := 2) ?hd (cs := #[.int .i64 a0_0, .slice A0_1 l0_1.length c0_1, .int .i64 a0_2]) (t := 37) ?hr ?_; (case hd => rfl); (case hg => rfl); (case hr => first | (go_simp; done) | (go_simp; rfl)); intro gb29101 hg w44 hbox hb; have n0_ := Aside0.mk (below_step bel hb); have n1_ := Aside0.mk (hbox); have n2_ := Aside0.mk ((by rw [hg]; exact (below_size bel) : w.heap.size ≤ gb29101)); have n3_ := Aside0.mk ((by rw [hg]; exact (below_size bel) : w.heap.size ≤ gb29101)); clear HB; have HB := n0_; have BK29101 := n1_; have GW29101 := n2_; have GE29101 := n3_; clear n0_ n1_ n2_ n3_; clear hb hbox hg; have hcz45_0 : w44.cell? ⟨gb29101, 0, none⟩ = some (.int .i64 a0_0) := (blk_cell BK29101.out 0).trans rfl; have hcz45_1 : w44.cell? ⟨gb29101, 1, none⟩ = some (.slice A0_1 l0_1.length c0_1) := (blk_cell BK29101.out 1).trans rfl; have hcz45_2 : w44.cell? ⟨gb29101, 2, none⟩ = some (.int .i64 a0_2) := (blk_cell BK29101.out 2).trans rfl; have hfz45_0 := blk_frozen BK29101.out 0; have hfz45_1 := blk_frozen BK29101.out 1; have hfz45_2 := blk_frozen BK29101.out 2))
     go_ret; exact ⟨by first | rfl | (simp [errW_none, errW_some] <;> rfl) | (simp [*, errW_none, errW_some] <;> rfl), by exact bel⟩
end Go.Proofs.Ytpmiaaphmgoapaa.H
namespace Go.Proofs.Ytpmiaaphmgoapaa.H
open Go.RowKit Go.Proofs.Ytpmiaaphmgoapaa.Mi Go.Proofs.YtpmiaaphmgoapaaW.PrintWords Go.Proofs.YtpmiaaphmgoapaaW.PrintLast Go.Proofs.YtpmiaaphmgoapaaW.PrintMore
attribute [local go_sem] max2_int min2_int max_two min_two   -- for this text's walks alone
set_option linter.unusedVariables false
set_option linter.unusedSimpArgs false
/-! ### mark_check: function 26 -/
def mark_check.l0 : Nat → Int → List (S37) → Int → Int → Option (Int)
 | 0, _, _, _, _ => none
 | k + 1, x3, x6, x7, x8 => if x8 < x7 then (if 0 ≤ x8 then (if x8 < (x6.length : Int) then ((mark_right.f ((rd_T37 x6 x8).f0) ((rd_T37 x6 x8).f1) ((rd_T37 x6 x8).f2) x3).bind fun t26103 => (if t26103 = true then (mark_check.l0 k ((rd_T37 x6 x8).f0) x6 x7 (wrap64 (x8 + 1))) else (some 51))) else (none)) else (none)) else (some 0)
def mark_check.f (k : Nat) (l0 : List (S37)) : Option (Int) := mark_check.l0 k 0 l0 (l0.length : Int) 0
set_option maxHeartbeats 8000000 in
set_option maxRecDepth 100000 in
theorem mark_check.calls (k : Nat) (A0 : Option Addr) (c0 : Nat) (l0 : List (S37)) (r : Int) (w : World) (hr0 : Kd.C k37 w A0 l0.length l0) (hc0 : l0.length ≤ c0) (h : mark_check.f k l0 = some r) :
 Calls Try.prog 26 #[.slice A0 l0.length c0] w fun e w' => e = .returned (.int .i64 r) ∧ Below w.heap.size w w' := by
 have hu37 := Try.underlying37; have HR0 := Aside0.mk hr0; have HC0 := Aside0.mk hc0; clear hr0 hc0; have HB := Aside0.mk (Below.refl w.heap.size w); have H : (mark_check.l0 k 0 l0 (l0.length : Int) 0) = some r := h; clear h; have H' := Aside0.mk H; clear H
 go_enter Try.func26, Try.ntmps26
 go_wp2
 go_loopg [3, 8] k (fun kq v3 v8 w' => ∃ (x3_1 : Int) (x8_1 : Int), v3 = .int .i64 x3_1 ∧ v8 = .int .i64 x8_1 ∧ Aside0 (mark_check.l0 kq x3_1 l0 (l0.length : Int) x8_1 = some r) ∧ Aside0 (kq ≤ k) ∧ Aside0 (Below w.heap.size w w'))
 case atStart => exact ⟨(0), (0), (by first | rfl | (simp; done) | (simp [*]; done)), (by first | rfl | (simp; done) | (simp [*]; done)), H', ⟨Nat.le_refl _⟩, ⟨bel⟩⟩
 case round =>
  clear H'; obtain ⟨x3_1, x8_1, rfl, rfl, HA, HK1, HB⟩ := hrel
  cases gk with
  | zero => exact absurd HA.out (by simp [mark_check.l0])
  | succ k1 =>
   have H := HA.out; clear HA; simp only [mark_check.l0] at H
   by_cases c2 : x8_1 < (l0.length : Int)
   ·
    rw [if_pos c2] at H; have c2b0 : decide (x8_1 < (l0.length : Int)) = true := decide_eq_true c2; clear c2
    by_cases c3 : 0 ≤ x8_1
    rotate_left
    · rw [if_neg c3] at H; exact absurd H (by simp)
    rw [if_pos c3] at H; have c3b0 : decide (0 ≤ x8_1) = true := decide_eq_true c3; clear c3
    by_cases c4 : x8_1 < (l0.length : Int)
    rotate_left
    · rw [if_neg c4] at H; exact absurd H (by simp)
    rw [if_pos c4] at H; have c4b0 : decide (x8_1 < (l0.length : Int)) = true := decide_eq_true c4; clear c4; replace H := Option.bind_eq_some_iff.mp H; obtain ⟨t26103, A50, H⟩ := H; (try dsimp only at H); have A5 := Aside0.mk A50; clear A50
    by_cases c6 : t26103 = true
    ·
     subst c6; have H1 := H; rw [if_pos rfl] at H1; clear H; have H := H1; clear H1; have H' := Aside0.mk H; clear H; have p26101 : 0 ≤ (x8_1 : Int) := oda; have q26101 : x8_1 < (l0.length : Int) := oda; obtain ⟨ad26101, A26101_1, c26101_1, e26101, hx26101_0, hx26101_1, hx26101_2, hl26101_1, hi26101_1⟩ := at_T37 HR0.out x8_1 p26101 q26101; cases e26101; replace hx26101_0 := (HB.out.cell (World.block_lt_of_cell? w _ hx26101_0)).trans hx26101_0; replace hx26101_1 := (HB.out.cell (World.block_lt_of_cell? w _ hx26101_1)).trans hx26101_1; replace hx26101_2 := (HB.out.cell (World.block_lt_of_cell? w _ hx26101_2)).trans hx26101_2; have HR26101_1 := Aside0.mk hi26101_1; have HC26101_1 := Aside0.mk hl26101_1; clear hi26101_1 hl26101_1; replace p26101 := eq_true p26101; replace q26101 := eq_true q26101
     go_wp2_with (first | ((with_reducible refine gate_dst (N := 5) rfl ?_); refine box_event ?hg (N := 5) ?hd (cs := #[.int .i64 0, .slice none 0 0, .int .i64 0]) (t := 37) ?hr ?_; (case hd => rfl); (case hg => rfl); (case hr => first | (go_simp; done) | (go_simp; rfl)); intro gb26102 hg w7 hbox hb; have n0_ := Aside0.mk (below_step bel hb); have n1_ := Aside0.mk (hbox); have n2_ := Aside0.mk ((by rw [hg]; exact (below_size bel) : w.heap.size ≤ gb26102)); have n3_ := Aside0.mk ((by rw [hg]; exact (below_size bel) : w.heap.size ≤ gb26102)); clear HB; have HB := n0_; have BK26102 := n1_; have GW26102 := n2_; have GE26102 := n3_; clear n0_ n1_ n2_ n3_; clear hb hbox hg; have hcz8_0 : w7.cell? ⟨gb26102, 0, none⟩ = some (.int .i64 0) := (blk_cell BK26102.out 0).trans rfl; have hcz8_1 : w7.cell? ⟨gb26102, 1, none⟩ = some (.slice none 0 0) := (blk_cell BK26102.out 1).trans rfl; have hcz8_2 : w7.cell? ⟨gb26102, 2, none⟩ = some (.int .i64 0) := (blk_cell BK26102.out 2).trans rfl; have hfz8_0 := blk_frozen BK26102.out 0; have hfz8_1 := blk_frozen BK26102.out 1; have hfz8_2 := blk_frozen BK26102.out 2) | ((with_reducible refine gate_callee (f := 29) rfl ?_); refine goesL_ (some 14) rfl rfl Try.func29 (by kernel_rfl) rfl #[.agg #[.int .i64 ((rd_T37 l0 x8_1).f0), .slice A26101_1 ((rd_T37 l0 x8_1).f1).length c26101_1, .int .i64 ((rd_T37 l0 x8_1).f2)], .int .i64 x3_1] rfl (by (try simp only [List.map_toArray, List.map_cons, List.map_nil]); first | done | rfl | (simp only [List.length_drop, List.length_take]; rfl)) ?_; (with_reducible refine (mark_right.calls ((rd_T37 l0 x8_1).f0) _ _ ((rd_T37 l0 x8_1).f1) ((rd_T37 l0 x8_1).f2) x3_1 true _ ?side1 ?side2 A5.out).mono ?_); (case side1 => exact Kd.C_below HR26101_1.out bel); (case side2 => exact HC26101_1.out); rintro e w9 ⟨rfl, hb⟩; refine ⟨_, rfl, ?_⟩; replace BK26102 := Aside0.mk (blk_below (g := gb26102) (o := .cells #[.int .i64 ((rd_T37 l0 x8_1).f0), .slice A26101_1 ((rd_T37 l0 x8_1).f1).length c26101_1, .int .i64 ((rd_T37 l0 x8_1).f2)] 37 (0, 0)) (by (with_reducible repeat (first | refine blk_drewN ?_ _ | refine blk_drew ?_ | refine blk_alloc ?_ _)); refine blk_put (cs := #[.int .i64 ((rd_T37 l0 x8_1).f0), .slice A26101_1 ((rd_T37 l0 x8_1).f1).length c26101_1, .int .i64 0]) ?_ 2 _ rfl; (with_reducible repeat (first | refine blk_drewN ?_ _ | refine blk_drew ?_ | refine blk_alloc ?_ _)); refine blk_put (cs := #[.int .i64 ((rd_T37 l0 x8_1).f0), .slice none 0 0, .int .i64 0]) ?_ 1 _ rfl; (with_reducible repeat (first | refine blk_drewN ?_ _ | refine blk_drew ?_ | refine blk_alloc ?_ _)); refine blk_put (cs := #[.int .i64 0, .slice none 0 0, .int .i64 0]) ?_ 0 _ rfl; (with_reducible repeat (first | refine blk_drewN ?_ _ | refine blk_drew ?_ | refine blk_alloc ?_ _)); exact BK26102.out) hb); replace HB := Aside0.mk (below_step bel hb); (try clear hb); (try clear hb2); (try clear hk); (try clear hi); have hcz10_0 : w9.cell? ⟨gb26102, 0, none⟩ = some (.int .i64 ((rd_T37 l0 x8_1).f0)) := (blk_cell BK26102.out 0).trans rfl; have hcz10_1 : w9.cell? ⟨gb26102, 1, none⟩ = some (.slice A26101_1 ((rd_T37 l0 x8_1).f1).length c26101_1) := (blk_cell BK26102.out 1).trans rfl; have hcz10_2 : w9.cell? ⟨gb26102, 2, none⟩ = some (.int .i64 ((rd_T37 l0 x8_1).f2)) := (blk_cell BK26102.out 2).trans rfl; have hfz10_0 := blk_frozen BK26102.out 0; have hfz10_1 := blk_frozen BK26102.out 1; have hfz10_2 := blk_frozen BK26102.out 2))
     go_roundg k1
     case measure => have := HK1.out; omega
     case rel => exact ⟨((rd_T37 l0 x8_1).f0), (wrap64 (x8_1 + 1)), (by first | rfl | (simp; done) | (simp [*]; done)), (by first | rfl | (simp; done) | (simp [*]; done)), H', ⟨by have := HK1.out; omega⟩, ⟨bel⟩⟩
    ·
     replace c6 := Bool.eq_false_iff.mpr c6; subst c6; have H1 := H; rw [if_neg (show ¬ (false = true) by decide)] at H1; clear H; have H := H1; clear H1; obtain rfl := Option.some.inj H; have p26101 : 0 ≤ (x8_1 : Int) := oda; have q26101 : x8_1 < (l0.length : Int) := oda; obtain ⟨ad26101, A26101_1, c26101_1, e26101, hx26101_0, hx26101_1, hx26101_2, hl26101_1, hi26101_1⟩ := at_T37 HR0.out x8_1 p26101 q26101; cases e26101; replace hx26101_0 := (HB.out.cell (World.block_lt_of_cell? w _ hx26101_0)).trans hx26101_0; replace hx26101_1 := (HB.out.cell (World.block_lt_of_cell? w _ hx26101_1)).trans hx26101_1; replace hx26101_2 := (HB.out.cell (World.block_lt_of_cell? w _ hx26101_2)).trans hx26101_2; have HR26101_1 := Aside0.mk hi26101_1; have HC26101_1 := Aside0.mk hl26101_1; clear hi26101_1 hl26101_1; replace p26101 := eq_true p26101; replace q26101 := eq_true q26101
     go_wp2_with (first | ((with_reducible refine gate_dst (N := 5) rfl ?_); refine box_event ?hg (N := 5) ?hd (cs := #[.int .i64 0, .slice none 0 0, .int .i64 0]) (t := 37) ?hr ?_; (case hd => rfl); (case hg => rfl); (case hr => first | (go_simp; done) | (go_simp; rfl)); intro gb26102 hg w11 hbox hb; have n0_ := Aside0.mk (below_step bel hb); have n1_ := Aside0.mk (hbox); have n2_ := Aside0.mk ((by rw [hg]; exact (below_size bel) : w.heap.size ≤ gb26102)); have n3_ := Aside0.mk ((by rw [hg]; exact (below_size bel) : w.heap.size ≤ gb26102)); clear HB; have HB := n0_; have BK26102 := n1_; have GW26102 := n2_; have GE26102 := n3_; clear n0_ n1_ n2_ n3_; clear hb hbox hg; have hcz12_0 : w11.cell? ⟨gb26102, 0, none⟩ = some (.int .i64 0) := (blk_cell BK26102.out 0).trans rfl; have hcz12_1 : w11.cell? ⟨gb26102, 1, none⟩ = some (.slice none 0 0) := (blk_cell BK26102.out 1).trans rfl; have hcz12_2 : w11.cell? ⟨gb26102, 2, none⟩ = some (.int .i64 0) := (blk_cell BK26102.out 2).trans rfl; have hfz12_0 := blk_frozen BK26102.out 0; have hfz12_1 := blk_frozen BK26102.out 1; have hfz12_2 := blk_frozen BK26102.out 2) | ((with_reducible refine gate_callee (f := 29) rfl ?_); refine goesL_ (some 14) rfl rfl Try.func29 (by kernel_rfl) rfl #[.agg #[.int .i64 ((rd_T37 l0 x8_1).f0), .slice A26101_1 ((rd_T37 l0 x8_1).f1).length c26101_1, .int .i64 ((rd_T37 l0 x8_1).f2)], .int .i64 x3_1] rfl (by (try simp only [List.map_toArray, List.map_cons, List.map_nil]); first | done | rfl | (simp only [List.length_drop, List.length_take]; rfl)) ?_; (with_reducible refine (mark_right.calls ((rd_T37 l0 x8_1).f0) _ _ ((rd_T37 l0 x8_1).f1) ((rd_T37 l0 x8_1).f2) x3_1 false _ ?side1 ?side2 A5.out).mono ?_); (case side1 => exact Kd.C_below HR26101_1.out bel); (case side2 => exact HC26101_1.out); rintro e w13 ⟨rfl, hb⟩; refine ⟨_, rfl, ?_⟩; replace BK26102 := Aside0.mk (blk_below (g := gb26102) (o := .cells #[.int .i64 ((rd_T37 l0 x8_1).f0), .slice A26101_1 ((rd_T37 l0 x8_1).f1).length c26101_1, .int .i64 ((rd_T37 l0 x8_1).f2)] 37 (0, 0)) (by (with_reducible repeat (first | refine blk_drewN ?_ _ | refine blk_drew ?_ | refine blk_alloc ?_ _)); refine blk_put (cs := #[.int .i64 ((rd_T37 l0 x8_1).f0), .slice A26101_1 ((rd_T37 l0 x8_1).f1).length c26101_1, .int .i64 0]) ?_ 2 _ rfl; (with_reducible repeat (first | refine blk_drewN ?_ _ | refine blk_drew ?_ | refine blk_alloc ?_ _)); refine blk_put (cs := #[.int .i64 ((rd_T37 l0 x8_1).f0), .slice none 0 0, .int .i64 0]) ?_ 1 _ rfl; (with_reducible repeat (first | refine blk_drewN ?_ _ | refine blk_drew ?_ | refine blk_alloc ?_ _)); refine blk_put (cs := #[.int .i64 0, .slice none 0 0, .int .i64 0]) ?_ 0 _ rfl; (with_reducible repeat (first | refine blk_drewN ?_ _ | refine blk_drew ?_ | refine blk_alloc ?_ _)); exact BK26102.out) hb); replace HB := Aside0.mk (below_step bel hb); (try clear hb); (try clear hb2); (try clear hk); (try clear hi)))
     go_ret; exact ⟨by first | rfl | (simp [errW_none, errW_some] <;> rfl) | (simp [*, errW_none, errW_some] <;> rfl), by exact bel⟩
   ·
    rw [if_neg c2] at H; have c2b0 : decide (x8_1 < (l0.length : Int)) = false := decide_eq_false c2; clear c2; obtain rfl := Option.some.inj H; go_wp2; go_ret; exact ⟨by first | rfl | (simp [errW_none, errW_some] <;> rfl) | (simp [*, errW_none, errW_some] <;> rfl), by exact bel⟩
end Go.Proofs.Ytpmiaaphmgoapaa.H
namespace Go.Proofs.Ytpmiaaphmgoapaa.H
open Go.RowKit Go.Proofs.Ytpmiaaphmgoapaa.Mi Go.Proofs.YtpmiaaphmgoapaaW.PrintWords Go.Proofs.YtpmiaaphmgoapaaW.PrintLast Go.Proofs.YtpmiaaphmgoapaaW.PrintMore
attribute [local go_sem] max2_int min2_int max_two min_two   -- for this text's walks alone
set_option linter.unusedVariables false
set_option linter.unusedSimpArgs false
/-! ### mark_Hands: function 19 -/
def mark_Hands.l0 : Nat → Int → List (S37) → Int → Int → Option (Int × Int)
 | 0, _, _, _, _ => none
 | k + 1, x5, x13, x14, x15 => if x15 < x14 then (if 0 ≤ x15 then (if x15 < (x13.length : Int) then (if ((rd_T37 x13 x15).f0) = 3 then (mark_Hands.l0 k (mx x5 (((rd_T37 x13 x15).f1).length : Int)) x13 x14 (wrap64 (x15 + 1))) else (mark_Hands.l0 k x5 x13 x14 (wrap64 (x15 + 1)))) else (none)) else (none)) else (some (x5, 0))
def mark_Hands.f (k : Nat) (l0 : List (S37)) : Option (Int × Int) := (mark_check.f k l0).bind fun t19101 => (if t19101 = 0 then (mark_Hands.l0 k 1 l0 (l0.length : Int) 0) else (some (0, t19101)))
set_option maxHeartbeats 8000000 in
set_option maxRecDepth 100000 in
theorem mark_Hands.calls (k : Nat) (A0 : Option Addr) (c0 : Nat) (l0 : List (S37)) (r1 : Int) (r2 : Int) (w : World) (hr0 : Kd.C k37 w A0 l0.length l0) (hc0 : l0.length ≤ c0) (h : mark_Hands.f k l0 = some (r1, r2)) :
 Calls Try.prog 19 #[.slice A0 l0.length c0] w fun e w' => e = .returned (.tuple #[.int .i64 r1, .int .i64 r2]) ∧ Below w.heap.size w w' := by
 have hu37 := Try.underlying37; have HR0 := Aside0.mk hr0; have HC0 := Aside0.mk hc0; clear hr0 hc0; have HB := Aside0.mk (Below.refl w.heap.size w); have H : ((mark_check.f k l0).bind fun t19101 => (if t19101 = 0 then (mark_Hands.l0 k 1 l0 (l0.length : Int) 0) else (some (0, t19101)))) = some (r1, r2) := h; clear h; replace H := Option.bind_eq_some_iff.mp H; obtain ⟨t19101, A20, H⟩ := H; (try dsimp only at H); have A2 := Aside0.mk A20; clear A20
 by_cases c3 : t19101 = 0
 ·
  rw [if_pos c3] at H; have c3b0 : (t19101 == 0) = true := beq_iff_eq.mpr c3; have c3b1 : (t19101 != 0) = false := bne_eq_false_iff_eq.mpr c3; clear c3; have H' := Aside0.mk H; clear H
  go_enter Try.func19, Try.ntmps19
  go_wp2_with (first | ((with_reducible refine gate_callee (f := 26) rfl ?_); refine goesL_ (some 9) rfl rfl Try.func26 (by kernel_rfl) rfl #[.slice A0 l0.length c0] rfl (by (try simp only [List.map_toArray, List.map_cons, List.map_nil]); first | done | rfl | (simp only [List.length_drop, List.length_take]; rfl)) ?_; (with_reducible refine (mark_check.calls k _ _ l0 t19101 _ ?side1 ?side2 A2.out).mono ?_); (case side1 => repeat (first | exact HR0.out | (with_reducible refine Kd.C_alloc ?_ _) | (with_reducible refine Kd.C_drewN ?_ _) | (with_reducible refine Kd.C_drew ?_))); (case side2 => exact HC0.out); rintro e w4 ⟨rfl, hb⟩; refine ⟨_, rfl, ?_⟩; replace HB := Aside0.mk (below_step bel hb); (try clear hb); (try clear hb2); (try clear hk); (try clear hi)))
  go_loopg [5, 15] k (fun kq v5 v15 w' => ∃ (x5_1 : Int) (x15_1 : Int), v5 = .int .i64 x5_1 ∧ v15 = .int .i64 x15_1 ∧ Aside0 (mark_Hands.l0 kq x5_1 l0 (l0.length : Int) x15_1 = some (r1, r2)) ∧ Aside0 (kq ≤ k) ∧ Aside0 (Below w.heap.size w w'))
  case atStart => exact ⟨(1), (0), (by first | rfl | (simp; done) | (simp [*]; done)), (by first | rfl | (simp; done) | (simp [*]; done)), H', ⟨Nat.le_refl _⟩, ⟨bel⟩⟩
  case round =>
   clear H'; (try clear c1); (try clear c2); (try clear p2); (try clear c3); (try clear c3b0); (try clear c3b1); obtain ⟨x5_1, x15_1, rfl, rfl, HA, HK1, HB⟩ := hrel
   cases gk with
   | zero => exact absurd HA.out (by simp [mark_Hands.l0])
   | succ k1 =>
    have H := HA.out; clear HA; simp only [mark_Hands.l0] at H
    by_cases c5 : x15_1 < (l0.length : Int)
    ·
     rw [if_pos c5] at H; have c5b0 : decide (x15_1 < (l0.length : Int)) = true := decide_eq_true c5; clear c5
     by_cases c6 : 0 ≤ x15_1
     rotate_left
     · rw [if_neg c6] at H; exact absurd H (by simp)
     rw [if_pos c6] at H; have c6b0 : decide (0 ≤ x15_1) = true := decide_eq_true c6; clear c6
     by_cases c7 : x15_1 < (l0.length : Int)
     rotate_left
     · rw [if_neg c7] at H; exact absurd H (by simp)
     rw [if_pos c7] at H; have c7b0 : decide (x15_1 < (l0.length : Int)) = true := decide_eq_true c7; clear c7
     by_cases c8 : ((rd_T37 l0 x15_1).f0) = 3
     ·
      rw [if_pos c8] at H; have c8b0 : (((rd_T37 l0 x15_1).f0) == 3) = true := beq_iff_eq.mpr c8; have c8b1 : (((rd_T37 l0 x15_1).f0) != 3) = false := bne_eq_false_iff_eq.mpr c8; clear c8
      obtain ⟨ji9, hji9⟩ : ∃ j_ : Int, (mx x5_1 (((rd_T37 l0 x15_1).f1).length : Int)) = j_ := ⟨_, rfl⟩
      replace H : (mark_Hands.l0 k1 ji9 l0 (l0.length : Int) (wrap64 (x15_1 + 1))) = some (r1, r2) := by first | (rw [hji9] at H; exact H) | (simp only [hji9] at H ⊢; exact H)
      have hji9_ : (if x5_1 < (((rd_T37 l0 x15_1).f1).length : Int) then (((rd_T37 l0 x15_1).f1).length : Int) else x5_1) = ji9 := hji9; have H' := Aside0.mk H; clear H; have p19102 : 0 ≤ (x15_1 : Int) := oda; have q19102 : x15_1 < (l0.length : Int) := oda; obtain ⟨ad19102, A19102_1, c19102_1, e19102, hx19102_0, hx19102_1, hx19102_2, hl19102_1, hi19102_1⟩ := at_T37 HR0.out x15_1 p19102 q19102; cases e19102; replace hx19102_0 := (HB.out.cell (World.block_lt_of_cell? w _ hx19102_0)).trans hx19102_0; replace hx19102_1 := (HB.out.cell (World.block_lt_of_cell? w _ hx19102_1)).trans hx19102_1; replace hx19102_2 := (HB.out.cell (World.block_lt_of_cell? w _ hx19102_2)).trans hx19102_2; have HR19102_1 := Aside0.mk hi19102_1; have HC19102_1 := Aside0.mk hl19102_1; clear hi19102_1 hl19102_1; replace p19102 := eq_true p19102; replace q19102 := eq_true q19102
      go_wp2_with (first | ((with_reducible refine gate_dst (N := 7) rfl ?_); refine box_event ?hg (N := 7) ?hd (cs := #[.int .i64 0, .slice none 0 0, .int .i64 0]) (t := 37) ?hr ?_; (case hd => rfl); (case hg => rfl); (case hr => first | (go_simp; done) | (go_simp; rfl)); intro gb19103 hg w10 hbox hb; have n0_ := Aside0.mk (below_step bel hb); have n1_ := Aside0.mk (hbox); have n2_ := Aside0.mk ((by rw [hg]; exact (below_size bel) : w.heap.size ≤ gb19103)); have n3_ := Aside0.mk ((by rw [hg]; exact (below_size bel) : w.heap.size ≤ gb19103)); clear HB; have HB := n0_; have BK19103 := n1_; have GW19103 := n2_; have GE19103 := n3_; clear n0_ n1_ n2_ n3_; clear hb hbox hg; have hcz11_0 : w10.cell? ⟨gb19103, 0, none⟩ = some (.int .i64 0) := (blk_cell BK19103.out 0).trans rfl; have hcz11_1 : w10.cell? ⟨gb19103, 1, none⟩ = some (.slice none 0 0) := (blk_cell BK19103.out 1).trans rfl; have hcz11_2 : w10.cell? ⟨gb19103, 2, none⟩ = some (.int .i64 0) := (blk_cell BK19103.out 2).trans rfl; have hfz11_0 := blk_frozen BK19103.out 0; have hfz11_1 := blk_frozen BK19103.out 1; have hfz11_2 := blk_frozen BK19103.out 2))
      go_roundg k1
      case measure => have := HK1.out; omega
      case rel => exact ⟨(ji9), (wrap64 (x15_1 + 1)), (by first | rfl | (simp; done) | (simp only [← hji9] <;> (first | rfl | simp)) | (simp [*]; done)), (by first | rfl | (simp; done) | (simp [*]; done)), H', ⟨by have := HK1.out; omega⟩, ⟨bel⟩⟩
     ·
      rw [if_neg c8] at H; have c8b0 : (((rd_T37 l0 x15_1).f0) == 3) = false := beq_eq_false_iff_ne.mpr c8; have c8b1 : (((rd_T37 l0 x15_1).f0) != 3) = true := bne_iff_ne.mpr c8; have H' := Aside0.mk H; clear H; have p19102 : 0 ≤ (x15_1 : Int) := oda; have q19102 : x15_1 < (l0.length : Int) := oda; obtain ⟨ad19102, A19102_1, c19102_1, e19102, hx19102_0, hx19102_1, hx19102_2, hl19102_1, hi19102_1⟩ := at_T37 HR0.out x15_1 p19102 q19102; cases e19102; replace hx19102_0 := (HB.out.cell (World.block_lt_of_cell? w _ hx19102_0)).trans hx19102_0; replace hx19102_1 := (HB.out.cell (World.block_lt_of_cell? w _ hx19102_1)).trans hx19102_1; replace hx19102_2 := (HB.out.cell (World.block_lt_of_cell? w _ hx19102_2)).trans hx19102_2; have HR19102_1 := Aside0.mk hi19102_1; have HC19102_1 := Aside0.mk hl19102_1; clear hi19102_1 hl19102_1; replace p19102 := eq_true p19102; replace q19102 := eq_true q19102
      go_wp2_with (first | ((with_reducible refine gate_dst (N := 7) rfl ?_); refine box_event ?hg (N := 7) ?hd (cs := #[.int .i64 0, .slice none 0 0, .int .i64 0]) (t := 37) ?hr ?_; (case hd => rfl); (case hg => rfl); (case hr => first | (go_simp; done) | (go_simp; rfl)); intro gb19103 hg w12 hbox hb; have n0_ := Aside0.mk (below_step bel hb); have n1_ := Aside0.mk (hbox); have n2_ := Aside0.mk ((by rw [hg]; exact (below_size bel) : w.heap.size ≤ gb19103)); have n3_ := Aside0.mk ((by rw [hg]; exact (below_size bel) : w.heap.size ≤ gb19103)); clear HB; have HB := n0_; have BK19103 := n1_; have GW19103 := n2_; have GE19103 := n3_; clear n0_ n1_ n2_ n3_; clear hb hbox hg; have hcz13_0 : w12.cell? ⟨gb19103, 0, none⟩ = some (.int .i64 0) := (blk_cell BK19103.out 0).trans rfl; have hcz13_1 : w12.cell? ⟨gb19103, 1, none⟩ = some (.slice none 0 0) := (blk_cell BK19103.out 1).trans rfl; have hcz13_2 : w12.cell? ⟨gb19103, 2, none⟩ = some (.int .i64 0) := (blk_cell BK19103.out 2).trans rfl; have hfz13_0 := blk_frozen BK19103.out 0; have hfz13_1 := blk_frozen BK19103.out 1; have hfz13_2 := blk_frozen BK19103.out 2))
      go_roundg k1
      case measure => have := HK1.out; omega
      case rel => exact ⟨(x5_1), (wrap64 (x15_1 + 1)), (by first | rfl | (simp; done) | (simp [*]; done)), (by first | rfl | (simp; done) | (simp [*]; done)), H', ⟨by have := HK1.out; omega⟩, ⟨bel⟩⟩
    ·
     rw [if_neg c5] at H; have c5b0 : decide (x15_1 < (l0.length : Int)) = false := decide_eq_false c5; clear c5; simp only [Option.some.injEq, Prod.mk.injEq] at H; obtain ⟨rfl, rfl⟩ := H; go_wp2; go_ret2; exact ⟨by first | rfl | (simp [errW_none, errW_some] <;> rfl) | (simp [*, errW_none, errW_some] <;> rfl), by exact bel⟩
 ·
  rw [if_neg c3] at H; have c3b0 : (t19101 == 0) = false := beq_eq_false_iff_ne.mpr c3; have c3b1 : (t19101 != 0) = true := bne_iff_ne.mpr c3; simp only [Option.some.injEq, Prod.mk.injEq] at H; obtain ⟨rfl, rfl⟩ := H
  go_enter Try.func19, Try.ntmps19
  go_wp2_with (first | ((with_reducible refine gate_callee (f := 26) rfl ?_); refine goesL_ (some 9) rfl rfl Try.func26 (by kernel_rfl) rfl #[.slice A0 l0.length c0] rfl (by (try simp only [List.map_toArray, List.map_cons, List.map_nil]); first | done | rfl | (simp only [List.length_drop, List.length_take]; rfl)) ?_; (with_reducible refine (mark_check.calls k _ _ l0 t19101 _ ?side1 ?side2 A2.out).mono ?_); (case side1 => repeat (first | exact HR0.out | (with_reducible refine Kd.C_alloc ?_ _) | (with_reducible refine Kd.C_drewN ?_ _) | (with_reducible refine Kd.C_drew ?_))); (case side2 => exact HC0.out); rintro e w14 ⟨rfl, hb⟩; refine ⟨_, rfl, ?_⟩; replace HB := Aside0.mk (below_step bel hb); (try clear hb); (try clear hb2); (try clear hk); (try clear hi)))
  go_ret2; exact ⟨by first | rfl | (simp [errW_none, errW_some] <;> rfl) | (simp [*, errW_none, errW_some] <;> rfl), by exact bel⟩
end Go.Proofs.Ytpmiaaphmgoapaa.H
namespace Go.Proofs.Ytpmiaaphmgoapaa.H
open Go.RowKit Go.Proofs.YtpmiaaphmgoapaaW.PrintWords Go.Proofs.YtpmiaaphmgoapaaW.PrintLast Go.Proofs.YtpmiaaphmgoapaaW.PrintMore
attribute [local go_sem] max2_int min2_int max_two min_two   -- for this text's walks alone
set_option linter.unusedVariables false
set_option linter.unusedSimpArgs false
/-! ### hand_wrong: function 20 -/
def hand_wrong.f (a0 : Int) : Option (Bool) := if a0 < 0 then (some true) else (some (decide (a0 ≥ 4)))
set_option maxHeartbeats 8000000 in
set_option maxRecDepth 100000 in
theorem hand_wrong.calls (a0 : Int) (r : Bool) (w : World) (h : hand_wrong.f a0 = some r) :
    Calls Try.prog 20 #[.int .i64 a0] w fun e w' => e = .returned (.bool r) ∧ Drawn0 w w' := by
  have H : (if a0 < 0 then (some true) else (some (decide (a0 ≥ 4)))) = some r := h
  clear h
  by_cases c2 : a0 < 0
  · rw [if_pos c2] at H
    have c2b0 : decide (a0 < 0) = true := decide_eq_true c2
    clear c2
    obtain rfl := Option.some.inj H
    go_enter Try.func20, Try.ntmps20
    go_wp2
    go_ret
    exact ⟨by first | rfl | (simp; done) | (simp [*]; done), by repeat (first | exact Drawn0.refl _ | apply Drawn0.step)⟩
  · rw [if_neg c2] at H
    have c2b0 : decide (a0 < 0) = false := decide_eq_false c2
    clear c2
    obtain rfl := Option.some.inj H
    go_enter Try.func20, Try.ntmps20
    go_wp2
    go_ret
    exact ⟨by first | rfl | (simp; done) | (simp [*]; done), by repeat (first | exact Drawn0.refl _ | apply Drawn0.step)⟩
end Go.Proofs.Ytpmiaaphmgoapaa.H
namespace Go.Proofs.Ytpmiaaphmgoapaa.H
open Go.RowKit Go.Proofs.Ytpmiaaphmgoapaa.Mi Go.Proofs.YtpmiaaphmgoapaaW.PrintWords Go.Proofs.YtpmiaaphmgoapaaW.PrintLast Go.Proofs.YtpmiaaphmgoapaaW.PrintMore
attribute [local go_sem] max2_int min2_int max_two min_two   -- for this text's walks alone
set_option linter.unusedVariables false
set_option linter.unusedSimpArgs false
/-! ### hand_gives: function 21: by hand -/
/-- What a piece gives by a hand. -/
def givesP (p0 : Int) (l : List ByteArray) (p2 h : Int) : ByteArray := if p0 = 2 then ⟨(lostL p2.toNat).toArray⟩ else rdOf ByteArray.empty l (if h < (l.length : Int) - 1 then h else (l.length : Int) - 1)
def givesOk (p0 : Int) (n : Nat) (p2 h : Int) : Prop := if p0 = 2 then 0 ≤ p2 ∧ p2 ≤ 99 else 1 ≤ n ∧ n ≤ 4294967296 ∧ 0 ≤ h
instance (p0 : Int) (n : Nat) (p2 h : Int) : Decidable (givesOk p0 n p2 h) := by unfold givesOk; infer_instance
def hand_gives.f (a0_0 : Int) (l0_1 : List ByteArray) (a0_2 a1 : Int) : Option ByteArray := if givesOk a0_0 l0_1.length a0_2 a1 then some (givesP a0_0 l0_1 a0_2 a1) else none
theorem hw64 (x : Int) (h : -9223372036854775808 ≤ x) (h2 : x < 9223372036854775808) : wrap64 x = x := by
 unfold wrap64
 omega
theorem cell_allocH {w : World} {a : Addr} {v : Value} (h : w.cell? a = some v) (o : Obj) : (w.alloc o).cell? a = some v :=
 ((below_alloc (Below.refl w.heap.size w) o).cell (World.block_lt_of_cell? w _ h)).trans h
set_option maxHeartbeats 4000000 in
set_option maxRecDepth 100000 in
theorem hand_gives.calls (a0_0 : Int) (A0_1 : Option Addr) (c0_1 : Nat) (l0_1 : List ByteArray) (a0_2 : Int) (a1 : Int) (r : ByteArray) (w : World) (hr0_1 : Kd.C Kd.string w A0_1 l0_1.length l0_1) (hc0_1 : l0_1.length ≤ c0_1) (h : hand_gives.f a0_0 l0_1 a0_2 a1 = some r) :
 Calls Try.prog 21 #[.agg #[.int .i64 a0_0, .slice A0_1 l0_1.length c0_1, .int .i64 a0_2], .int .i64 a1] w fun e w' => e = .returned (.string r) ∧ Below w.heap.size w w' := by
 unfold hand_gives.f at h
 by_cases hg : givesOk a0_0 l0_1.length a0_2 a1
 ·
  rw [if_pos hg] at h; obtain rfl := Option.some.inj h; clear h; have HR := Aside0.mk hr0_1; clear hr0_1 hc0_1; unfold givesOk at hg; unfold givesP
  by_cases h2 : a0_0 = 2
  ·
   subst h2; rw [if_pos rfl] at hg ⊢
   obtain ⟨n, rfl⟩ : ∃ n : Nat, a0_2 = (n : Int) := ⟨a0_2.toNat, by omega⟩
   have hn : n ≤ 99 := by omega
   have HN1 := Aside0.mk hn; clear hg hn; rw [Int.toNat_natCast]
   obtain ⟨X, hX⟩ : ∃ X, lostL n = X := ⟨_, rfl⟩
   have HX := Aside0.mk hX; rw [hX]; clear hX
   go_enter Try.func21, Try.ntmps21
   go_wp2_with (go_at_call 27; (with_reducible refine (Try.Repeat_lost n _ HN1.out).mono ?_); rintro e w1 ⟨rfl, hb⟩; have HB := Aside0.mk hb; clear hb)
   go_ret; exact ⟨by rw [HX.out]; rfl, below_step (by repeat (first | exact Below.refl _ _ | apply below_alloc)) HB.out⟩
  ·
   rw [if_neg h2] at hg ⊢; have h2b : (a0_0 == 2) = false := beq_eq_false_iff_ne.2 h2; obtain ⟨hl, hl2, hh⟩ := hg
   obtain ⟨N, hN⟩ : ∃ N : Nat, l0_1.length = N := ⟨_, rfl⟩
   obtain ⟨M, hM⟩ : ∃ M : Int, (N : Int) - 1 = M := ⟨_, rfl⟩
   have hMw : wrap64 ((N : Int) - 1) = M := by rw [hw64 _ (by omega) (by omega)]; exact hM
   have key : ∀ J : Int, (if a1 < M then a1 else M) = J → 0 ≤ J ∧ J < (N : Int) := fun J h => by rw [← h]; split <;> omega
   rw [hN, hM]
   by_cases hlt : M < a1
   ·
    obtain ⟨hJ0, hJ1⟩ := key M (by rw [if_neg (by omega)]); rw [if_neg (show ¬ a1 < M by omega)]; obtain ⟨ad, e0, x0⟩ := Kd.at_string HR.out M hJ0 (by rw [hN]; exact hJ1); subst e0
    obtain ⟨X, hX⟩ : ∃ X, rdOf ByteArray.empty l0_1 M = X := ⟨_, rfl⟩
    rw [hX] at x0 ⊢
    have x1 := fun o => cell_allocH x0 o
    have hJ0t := eq_true hJ0; have hJ1t := eq_true hJ1; clear hX hl hl2 hM h2 key
    go_enter Try.func21, Try.ntmps21
    go_wp2; go_ret; exact ⟨rfl, (Below.refl _ w).alloc (Nat.le_refl _) _⟩
   ·
    obtain ⟨hJ0, hJ1⟩ := key a1 (by split <;> omega); rw [show (if a1 < M then a1 else M) = a1 from by split <;> omega]; obtain ⟨ad, e0, x0⟩ := Kd.at_string HR.out a1 hJ0 (by rw [hN]; exact hJ1); subst e0
    obtain ⟨X, hX⟩ : ∃ X, rdOf ByteArray.empty l0_1 a1 = X := ⟨_, rfl⟩
    rw [hX] at x0 ⊢
    have x1 := fun o => cell_allocH x0 o
    have hJ0t := eq_true hJ0; have hJ1t := eq_true hJ1; clear hX hl hl2 hM h2 key
    go_enter Try.func21, Try.ntmps21
    go_wp2; go_ret; exact ⟨rfl, (Below.refl _ w).alloc (Nat.le_refl _) _⟩
 ·
  rw [if_neg hg] at h; cases h
end Go.Proofs.Ytpmiaaphmgoapaa.H
namespace Go.Proofs.Ytpmiaaphmgoapaa.H
open Go.RowKit Go.Proofs.Ytpmiaaphmgoapaa.Mi Go.Proofs.YtpmiaaphmgoapaaW.PrintWords Go.Proofs.YtpmiaaphmgoapaaW.PrintLast Go.Proofs.YtpmiaaphmgoapaaW.PrintMore
attribute [local go_sem] max2_int min2_int max_two min_two   -- for this text's walks alone
set_option linter.unusedVariables false
set_option linter.unusedSimpArgs false
/-! ### hand_Read: function 12: by hand -/
def givesS (p : S37) (h : Int) : ByteArray := givesP p.f0 p.f1 p.f2 h
def pieceOk (h : Int) (p : S37) : Prop := givesOk p.f0 p.f1.length p.f2 h ∧ (givesS p h).size ≤ 140737488355328
instance (h : Int) (p : S37) : Decidable (pieceOk h p) := by unfold pieceOk; infer_instance
/-- Where each piece's text begins and ends; none: the text is too long. -/
def spansG (h : Int) : List S37 → Int → List (Int × Int) → Option (List (Int × Int))
 | [], _, acc => some acc
 | p :: l, at_, acc => if at_ + (givesS p h).size > 65536 then none else spansG h l (at_ + (givesS p h).size) (acc ++ [(at_, at_ + (givesS p h).size)])
def spansR : Option (List (Int × Int)) → List (Int × Int) × Int
 | some l => (l, 0)
 | none => ([], 1)
def hand_Spans.f (k : Nat) (l0 : List S37) (a1 : Int) : Option (List (Int × Int) × Int) := (mark_Hands.f k l0).bind fun t => if t.2 = 0 then (if 0 ≤ a1 ∧ a1 < 4 then (if (∀ p ∈ l0, pieceOk a1 p) ∧ l0.length ≤ 4294967296 * 1024 then some (spansR (spansG a1 l0 0 [])) else none) else some ([], 2)) else some ([], t.2)
def kSpan : Kd (Int × Int) := Kd.pair (Kd.int .i64) (Kd.int .i64)
theorem infoSpan : (Try.prog.info? 30).map (fun i => (i.zero, i.size, i.bytes)) = some (some (.agg #[(.int .i64 0), (.int .i64 0)]), 2, 16) := by kernel_rfl
set_option maxHeartbeats 4000000 in
set_option maxRecDepth 100000 in
theorem hand_Spans.calls (k : Nat) (A0 : Option Addr) (c0 : Nat) (l0 : List S37) (a1 : Int) (r1 : List (Int × Int)) (r2 : Int) (w : World) (hr0 : Kd.C k37 w A0 l0.length l0) (hc0 : l0.length ≤ c0) (h : hand_Spans.f k l0 a1 = some (r1, r2)) :
 Calls Try.prog 10 #[.slice A0 l0.length c0, .int .i64 a1] w fun e w' => ∃ v : Value, e = .returned (.tuple #[v, .int .i64 r2]) ∧ Kd.R kSpan 30 w' w.heap.size (fun _ => True) v r1 ∧ Below w.heap.size w w' := by
 obtain ⟨⟨n, e⟩, hH, h⟩ := Option.bind_eq_some_iff.mp h; have HH := Aside0.mk hH; have HR := Aside0.mk hr0; have HC := Aside0.mk hc0; clear hH hr0 hc0; dsimp only at h
 by_cases he : e = 0
 ·
  subst he; rw [if_pos rfl] at h
  by_cases hw : 0 ≤ a1 ∧ a1 < 4
  ·
   rw [if_pos hw] at h
   have hwf : hand_wrong.f a1 = some false := by unfold hand_wrong.f; rw [if_neg (by omega)]; simp; omega
   have HW := Aside0.mk hwf; clear hwf
   by_cases hp : (∀ p ∈ l0, pieceOk a1 p) ∧ l0.length ≤ 4294967296 * 1024
   ·
    rw [if_pos hp] at h
    obtain ⟨RS, hRS⟩ : ∃ RS, spansG a1 l0 0 [] = RS := ⟨_, rfl⟩
    rw [hRS] at h; have HRS := Aside0.mk hRS; have HRES := Aside0.mk (Option.some.inj h); clear hRS; have HP := Aside0.mk hp.1; have hlen := hp.2; clear h hp hw; have hu := Try.underlying37
    go_enter Try.func10, Try.ntmps10
    go_wp2_with (first | (go_at_call 19; (with_reducible refine (mark_Hands.calls k A0 c0 l0 n 0 _ HR.out HC.out HH.out).mono ?_); rintro e w1 ⟨rfl, hb⟩; have HB1 := Aside0.mk hb; clear hb) | (go_at_call 20; (with_reducible refine (hand_wrong.calls a1 false _ HW.out).mono ?_); rintro e w2 ⟨rfl, hb⟩; have HB2 := Aside0.mk (below_step HB1.out hb.below); clear hb))
    go_loopw [8, 9, 25] (fun v8 v9 v25 wr => ∃ (i : Nat) (I P : Int) (acc : List (Int × Int)), v9 = .int .i64 P ∧ v25 = .int .i64 I ∧ Aside0 (I = (i : Int)) ∧ i ≤ l0.length ∧ Aside0 (0 ≤ P ∧ P ≤ 65536) ∧ Aside0 (spansG a1 (l0.drop i) P acc = RS) ∧ Aside0 (acc.length = i) ∧ Aside0 (Kd.R kSpan 30 wr w.heap.size (fun _ => True) v8 acc) ∧ Aside0 (Below w.heap.size w wr)) (fun _ _ v25 _ => l0.length - (intOf v25).toNat)
    case atStart => exact ⟨0, 0, 0, [], rfl, rfl, ⟨rfl⟩, Nat.zero_le _, ⟨by omega⟩, HRS, ⟨rfl⟩, ⟨Kd.R_nil _ _ _ _ _⟩, HB2⟩
    case round =>
     obtain ⟨i, I, P, acc, rfl, rfl, HI, hi, HPb, HA, HAL, HO, HB⟩ := hrel
     by_cases hil : i < l0.length
     ·
      have i0 : 0 ≤ I := by rw [HI.out]; exact Int.natCast_nonneg i
      have i1 : I < (l0.length : Int) := by rw [HI.out]; exact Int.ofNat_lt.2 hil
      have i1b : decide (I < (l0.length : Int)) = true := decide_eq_true i1; obtain ⟨ad, A1, c1, e0, x0, x1, x2, hl1, hi1⟩ := at_T37 (Kd.C_below HR.out HB.out) I i0 i1; subst e0
      obtain ⟨C, hC⟩ : ∃ C, rd_T37 l0 I = C := ⟨_, rfl⟩
      have hdr : l0.drop i = C :: l0.drop (i + 1) := by
       rw [← hC, HI.out]; unfold rd_T37; rw [Int.toNat_natCast, List.drop_eq_getElem_cons hil, List.getD_eq_getElem?_getD, List.getElem?_eq_getElem hil]
       rfl
      have hmem : C ∈ l0 := List.mem_of_mem_drop (by rw [hdr]; exact List.mem_cons_self); have hok := HP.out C hmem; rw [hC] at x0 x1 x2 hl1 hi1; clear hC hmem; obtain ⟨p0, l1, p2⟩ := C; dsimp only at x0 x1 x2 hl1 hi1; have HI1 := Aside0.mk hi1; have HL1 := Aside0.mk hl1
      obtain ⟨G, hG⟩ : ∃ G, givesP p0 l1 p2 a1 = G := ⟨_, rfl⟩
      have HGV : Aside0 (hand_gives.f p0 l1 p2 a1 = some G) := ⟨by unfold hand_gives.f; rw [if_pos hok.1, hG]⟩
      have hgs : G.size ≤ 140737488355328 := by have := hok.2; unfold givesS at this; rw [hG] at this; exact this
      have HA2 : Aside0 (spansG a1 (⟨p0, l1, p2⟩ :: l0.drop (i + 1)) P acc = RS) := ⟨by rw [← hdr]; exact HA.out⟩; have hgS : givesS ⟨p0, l1, p2⟩ a1 = G := hG; have hPb := HPb.out
      obtain ⟨P2, hP2⟩ : ∃ x : Int, P + (G.size : Int) = x := ⟨_, rfl⟩
      have hP2w : wrap64 (P + (G.size : Int)) = P2 := by rw [hw64 _ (by omega) (by omega)]; exact hP2
      have hP2i : IntKind.i64.wrap (P + (G.size : Int)) = P2 := (i64_w _).trans hP2w
      obtain ⟨I2, hI2⟩ : ∃ x : Int, wrap64 (I + 1) = x := ⟨_, rfl⟩
      have hI2w : IntKind.i64.wrap (I + 1) = I2 := (i64_w _).trans hI2; have EI2 : Aside0 (I2 = ((i + 1 : Nat) : Int)) := ⟨by rw [← hI2, HI.out, hw64 _ (by omega) (by omega)]; rfl⟩
      have hP20 : 0 ≤ P2 := by omega
      replace i0 := eq_true i0; replace i1 := eq_true i1
      by_cases hbig : 65536 < P2
      ·
       have hbb : decide (P2 > 65536) = true := decide_eq_true hbig; have hbc : decide (65536 < P2) = true := decide_eq_true hbig
       have HE : Aside0 (r1 = [] ∧ r2 = 1) := ⟨by
        have h1 := HA2.out; unfold spansG at h1; rw [hgS, hP2, if_pos hbig] at h1; have h2 := HRES.out; rw [← h1] at h2; obtain ⟨h3, h4⟩ := Prod.mk.inj h2
        exact ⟨h3.symm, h4.symm⟩⟩
       clear hdr hG hgS hok hi1 hl1 HA HA2 hP2 hgs hPb hbig hP20
       go_wp2_with (go_at_call 21; (with_reducible refine (hand_gives.calls p0 A1 c1 l1 p2 a1 G _ (Kd.C_alloc HI1.out _) HL1.out HGV.out).mono ?_); rintro e w5 ⟨rfl, hb⟩; have HB5 := Aside0.mk (below_step (HB.out.alloc HB.out.size _) hb); clear hb)
       go_ret2; exact ⟨_, by rw [HE.out.2]; rfl, by rw [HE.out.1]; exact Kd.R_nil _ _ _ _ _, HB5.out⟩
      ·
       have hbb : decide (P2 > 65536) = false := decide_eq_false hbig; have hbc : decide (65536 < P2) = false := decide_eq_false hbig
       have HA3 : Aside0 (spansG a1 (l0.drop (i + 1)) P2 (acc ++ [(P, P2)]) = RS) := ⟨by
        have h1 := HA2.out; unfold spansG at h1; rw [hgS, hP2, if_neg hbig] at h1
        exact h1⟩
       have HPb2 : Aside0 (0 ≤ P2 ∧ P2 ≤ 65536) := ⟨by omega⟩; have hal := HAL.out; clear hdr hG hgS hok hi1 hl1 HA HA2 hP2 hgs hPb hbig hP20
       go_wp2_with (first | (go_at_call 21; (with_reducible refine (hand_gives.calls p0 A1 c1 l1 p2 a1 G _ (Kd.C_alloc HI1.out _) HL1.out HGV.out).mono ?_); rintro e w5 ⟨rfl, hb⟩; have HB5 := Aside0.mk (below_step (HB.out.alloc HB.out.size _) hb); have HO5 := Aside0.mk (Kd.R_below (Kd.R_alloc HO.out _) hb); clear hb) | (at_builtin; refine Kd.R_append kSpan (w0 := w) w.heap.size rfl (.tmp 38) (.tmp 42) 24 30 (.agg #[(.int .i64 0), (.int .i64 0)]) 16 rfl Try.underlying24 infoSpan rfl (by decide) (by omega) u8 acc (P, P2) [.int .i64 P, .int .i64 P2] (fun _ => True) (fun _ => False) rfl (by first | (go_simp; done) | (go_simp; rfl)) ?aP (fun _ h => h.elim) (fun _ _ => trivial) ?aO ?aB ?aS ?aL ?_; (case aP => exact ⟨[.int .i64 P], [.int .i64 P2], rfl, rfl, rfl⟩); (case aO => exact HO5.out); (case aB => exact HB5.out); (case aS => exact HB5.out.size); (case aL => omega); intro v1 w1 hown hbel hgrow _; obtain ⟨Ax, cx, rfl⟩ := Kd.R_slice hown))
       go_roundw
       case rel => exact ⟨i + 1, I2, P2, acc ++ [(P, P2)], rfl, rfl, EI2, by omega, HPb2, HA3, ⟨by rw [List.length_append]; simp; omega⟩, ⟨by have h3 := hown; rw [List.length_append, HAL.out] at h3; exact h3⟩, ⟨hbel⟩⟩
       case measure => have := HI.out; have := EI2.out; simp [intOf]; omega
     ·
      have hie : i = l0.length := by omega
      have i1b : decide (I < (l0.length : Int)) = false := decide_eq_false (by rw [HI.out]; omega)
      have HE : Aside0 (r1 = acc ∧ r2 = 0) := ⟨by
       have h1 := HA.out; rw [hie, List.drop_length] at h1; unfold spansG at h1; have h2 := HRES.out; rw [← h1] at h2; obtain ⟨h3, h4⟩ := Prod.mk.inj h2
       exact ⟨h3.symm, h4.symm⟩⟩
      go_wp2; go_ret2; exact ⟨_, by rw [HE.out.2]; rfl, by rw [HE.out.1]; exact HO.out, HB.out⟩
   ·
    rw [if_neg hp] at h; cases h
  ·
   rw [if_neg hw] at h; obtain ⟨rfl, rfl⟩ := Prod.mk.inj (Option.some.inj h)
   have hwf : hand_wrong.f a1 = some true := by unfold hand_wrong.f; split <;> simp <;> omega
   have HW := Aside0.mk hwf; clear hwf h hw
   go_enter Try.func10, Try.ntmps10
   go_wp2_with (first | (go_at_call 19; (with_reducible refine (mark_Hands.calls k A0 c0 l0 n 0 _ HR.out HC.out HH.out).mono ?_); rintro e w1 ⟨rfl, hb⟩; have HB1 := Aside0.mk hb; clear hb) | (go_at_call 20; (with_reducible refine (hand_wrong.calls a1 true _ HW.out).mono ?_); rintro e w2 ⟨rfl, hb⟩; have HB2 := Aside0.mk (below_step HB1.out hb.below); clear hb))
   go_ret2; exact ⟨_, rfl, Kd.R_nil _ _ _ _ _, HB2.out⟩
 ·
  rw [if_neg he] at h; obtain ⟨rfl, rfl⟩ := Prod.mk.inj (Option.some.inj h); have heb : (e != 0) = true := bne_iff_ne.2 he; clear h
  go_enter Try.func10, Try.ntmps10
  go_wp2_with (go_at_call 19; (with_reducible refine (mark_Hands.calls k A0 c0 l0 n e _ HR.out HC.out HH.out).mono ?_); rintro e w1 ⟨rfl, hb⟩; have HB1 := Aside0.mk hb; clear hb)
  go_ret2; exact ⟨_, rfl, Kd.R_nil _ _ _ _ _, HB1.out⟩
theorem isB_below {T e : TypeId} {B b : Nat} {bs : List Value} {W W' : World} (h : Lib.IsBuilderF T e B b bs W) (hb : Below W.heap.size W W') : Lib.IsBuilderF T e B b bs W' := by
 have one : ∀ p, Lib.BuilderAtF T e B b p bs W → Lib.BuilderAtF T e B b p bs W' := fun p h => by
  have hlt := h.lt; obtain ⟨hB, v, hv, hown, hne⟩ := h; exact ⟨hB, v, (hb.block b hlt).trans hv, hown.kept (row := none) ⟨hb.os, hb.tape, hb.output, hb.size, fun k hk _ => hb.block k hk⟩ (Classical.em _), hne⟩
 exact h.elim (fun x => .inl (one _ x)) (fun x => .inr (one _ x))
/-- The text that pieces give. -/
def givesT (h : Int) (l : List S37) : List UInt8 := l.flatMap fun p => (givesS p h).data.toList
theorem givesT_snoc (h : Int) (l : List S37) (p : S37) : givesT h (l ++ [p]) = givesT h l ++ (givesS p h).data.toList := by simp [givesT]
theorem spans_sum (h : Int) : ∀ (l : List S37) (at_ : Int) (acc r : List (Int × Int)), 0 ≤ at_ → at_ ≤ 65536 → spansG h l at_ acc = some r → at_ + (givesT h l).length ≤ 65536
 | [], at_, acc, r, h0, h1, _ => by simp [givesT]; exact h1
 | p :: l, at_, acc, r, h0, h1, hs => by
  unfold spansG at hs
  split at hs
  ·
   cases hs
  ·
   rename_i hb
   have ih := spans_sum h l _ _ r (by omega) (by omega) hs
   have e : givesT h (p :: l) = (givesS p h).data.toList ++ givesT h l := by simp [givesT]
   have e2 : (givesS p h).data.toList.length = (givesS p h).size := by rw [Array.length_toList]; rfl
   rw [e, List.length_append, e2]
   omega
def hand_Read.f (k : Nat) (l0 : List S37) (a1 : Int) : Option (ByteArray × Int) := (hand_Spans.f k l0 a1).bind fun t => if t.2 = 0 then some (⟨(givesT a1 l0).toArray⟩, 0) else some (⟨#[]⟩, t.2)
theorem take_nextH {α : Type} (l : List α) (k : Nat) (d : α) (h : k < l.length) : l.take (k + 1) = l.take k ++ [l.getD k d] := by
 rw [List.take_succ_eq_append_getElem h]
 simp [List.getD_eq_getElem?_getD, List.getElem?_eq_getElem h]
theorem spans_ok (k : Nat) (l0 : List S37) (a1 : Int) (r : List (Int × Int)) (h : hand_Spans.f k l0 a1 = some (r, 0)) : (∀ p ∈ l0, pieceOk a1 p) ∧ l0.length ≤ 4294967296 * 1024 ∧ (givesT a1 l0).length ≤ 65536 := by
 obtain ⟨⟨n, e⟩, hH, h⟩ := Option.bind_eq_some_iff.mp h; dsimp only at h
 split at h
 ·
  split at h
  ·
   split at h
   ·
    rename_i _ _ hp
    refine ⟨hp.1, hp.2, ?_⟩
    cases hg : spansG a1 l0 0 [] with
    | none => rw [hg] at h; simp [spansR] at h
    | some q =>
     have := spans_sum a1 l0 0 [] q (by omega) (by omega) hg
     omega
   ·
    cases h
  ·
   simp at h
 ·
  rename_i he
  simp only [Option.some.injEq, Prod.mk.injEq] at h; exact absurd h.2 he
set_option maxHeartbeats 4000000 in
set_option maxRecDepth 100000 in
theorem hand_Read.calls (k : Nat) (A0 : Option Addr) (c0 : Nat) (l0 : List S37) (a1 : Int) (r1 : ByteArray) (r2 : Int) (w : World) (hr0 : Kd.C k37 w A0 l0.length l0) (hc0 : l0.length ≤ c0) (h : hand_Read.f k l0 a1 = some (r1, r2)) :
 Calls Try.prog 12 #[.slice A0 l0.length c0, .int .i64 a1] w fun e w' => e = .returned (.tuple #[.string r1, .int .i64 r2]) ∧ Below w.heap.size w w' := by
 obtain ⟨⟨sp, e⟩, hH, h⟩ := Option.bind_eq_some_iff.mp h; have HH := Aside0.mk hH; have HR := Aside0.mk hr0; have HC := Aside0.mk hc0; clear hr0 hc0; dsimp only at h
 by_cases he : e = 0
 ·
  subst he; rw [if_pos rfl] at h; obtain ⟨rfl, rfl⟩ := Prod.mk.inj (Option.some.inj h); obtain ⟨hok, hlen, hsum⟩ := spans_ok k l0 a1 sp hH; have HP := Aside0.mk hok; clear h hH hok; have hu := Try.underlying37
  go_enter Try.func12, Try.ntmps12
  go_wp2_with (go_at_call 10; (with_reducible refine (hand_Spans.calls k A0 c0 l0 a1 sp 0 _ HR.out HC.out HH.out).mono ?_); rintro e w1 ⟨v, rfl, _, hb⟩; have HB1 := Aside0.mk hb; have HI1 := Aside0.mk (Lib.IsBuilderF.of (Lib.fresh_isBuilder 56 5 w1)); clear hb)
  go_loopw [22] (fun v22 wr => ∃ (i : Nat) (I : Int), v22 = .int .i64 I ∧ Aside0 (I = (i : Int)) ∧ i ≤ l0.length ∧ Aside0 (Lib.IsBuilderF 56 5 w1.heap.size w1.heap.size (Lib.byteCells (givesT a1 (l0.take i))) wr) ∧ Aside0 (Below w.heap.size w wr) ∧ Aside0 (w1.heap.size ≤ wr.heap.size)) (fun v22 _ => l0.length - (intOf v22).toNat)
  case atStart => exact ⟨0, 0, rfl, ⟨rfl⟩, Nat.zero_le _, ⟨by have := HI1.out; simpa [givesT, Lib.byteCells] using this⟩, ⟨HB1.out.alloc HB1.out.size _⟩, ⟨by simp⟩⟩
  case round =>
   obtain ⟨i, I, rfl, HI, hi, HIB, HB, HSZ⟩ := hrel
   by_cases hil : i < l0.length
   ·
    have i0 : 0 ≤ I := by rw [HI.out]; exact Int.natCast_nonneg i
    have i1 : I < (l0.length : Int) := by rw [HI.out]; exact Int.ofNat_lt.2 hil
    have i1b : decide (I < (l0.length : Int)) = true := decide_eq_true i1; obtain ⟨ad, A1, c1, e0, x0, x1, x2, hl1, hi1⟩ := at_T37 (Kd.C_below HR.out HB.out) I i0 i1; subst e0
    have hrd : rd_T37 l0 I = l0.getD i z37 := by unfold rd_T37; rw [HI.out, Int.toNat_natCast]
    have htn := take_nextH l0 i z37 hil
    have hmem : l0.getD i z37 ∈ l0 := by rw [List.getD_eq_getElem?_getD, List.getElem?_eq_getElem hil]; exact List.getElem_mem hil
    have HTN := Aside0.mk (givesT_snoc a1 (l0.take i) (l0.getD i z37)); rw [← htn] at HTN; rw [hrd] at x0 x1 x2 hl1 hi1; have hok := HP.out _ hmem
    obtain ⟨C, hC⟩ : ∃ C, l0.getD i z37 = C := ⟨_, rfl⟩
    rw [hC] at x0 x1 x2 hl1 hi1 hok HTN; clear hC hmem hrd htn; obtain ⟨p0, l1, p2⟩ := C; dsimp only at x0 x1 x2 hl1 hi1; have HI1 := Aside0.mk hi1; have HL1 := Aside0.mk hl1
    obtain ⟨G, hG⟩ : ∃ G, givesP p0 l1 p2 a1 = G := ⟨_, rfl⟩
    have HGV : Aside0 (hand_gives.f p0 l1 p2 a1 = some G) := ⟨by unfold hand_gives.f; rw [if_pos hok.1, hG]⟩; have hgS : givesS ⟨p0, l1, p2⟩ a1 = G := hG
    have hgs : G.size ≤ 140737488355328 := by have := hok.2; rw [hgS] at this; exact this
    rw [hgS] at HTN
    have hpre : (givesT a1 (l0.take i)).length ≤ (givesT a1 l0).length := by
     have : givesT a1 l0 = givesT a1 (l0.take i) ++ givesT a1 (l0.drop i) := by unfold givesT; rw [← List.flatMap_append, List.take_append_drop]
     rw [this, List.length_append]
     omega
    have hpre2 : (givesT a1 (l0.take (i + 1))).length ≤ (givesT a1 l0).length := by
     have : givesT a1 l0 = givesT a1 (l0.take (i + 1)) ++ givesT a1 (l0.drop (i + 1)) := by unfold givesT; rw [← List.flatMap_append, List.take_append_drop]
     rw [this, List.length_append]
     omega
    have HLB : Aside0 ((Lib.byteCells (givesT a1 (l0.take i))).length + G.size ≤ 140737488355328) := ⟨by
     rw [HTN.out, List.length_append] at hpre2
     have e2 : G.data.toList.length = G.size := by rw [Array.length_toList]; rfl
     rw [Lib.byteCells_length]
     omega⟩
    have HTA : Aside0 (Lib.byteCells (givesT a1 (l0.take (i + 1))) = Lib.byteCells (givesT a1 (l0.take i)) ++ Lib.strCells G) := ⟨by rw [HTN.out, Lib.byteCells_append, Lib.strCells_eq]⟩
    obtain ⟨bs, hbs⟩ : ∃ bs, Lib.byteCells (givesT a1 (l0.take i)) = bs := ⟨_, rfl⟩
    rw [hbs] at HLB HTA HIB
    obtain ⟨I2, hI2⟩ : ∃ x : Int, wrap64 (I + 1) = x := ⟨_, rfl⟩
    have hI2w : IntKind.i64.wrap (I + 1) = I2 := (i64_w _).trans hI2
    have hlen0 : (l0.length : Int) ≤ 9223372036854775806 := by omega
    have EI2 : Aside0 (I2 = ((i + 1 : Nat) : Int)) := ⟨by rw [← hI2, HI.out, hw64 _ (by omega) (by omega)]; rfl⟩; replace i0 := eq_true i0; replace i1 := eq_true i1; clear hG hgS hok hi1 hl1 hgs hpre hpre2 hbs HTN hlen0
    go_wp2_with (first | (go_at_call 21; (with_reducible refine (hand_gives.calls p0 A1 c1 l1 p2 a1 G _ (Kd.C_alloc HI1.out _) HL1.out HGV.out).mono ?_); rintro e w5 ⟨rfl, hb⟩; have HB5 := Aside0.mk (below_step (HB.out.alloc HB.out.size _) hb); have HIB5 := Aside0.mk (isB_below (HIB.out.alloc _) hb); have HSZ5 := Aside0.mk (Nat.le_trans HSZ.out (Nat.le_trans (Below.size ((Below.refl _ wr).alloc (Nat.le_refl _) _)) hb.size)); clear hb) | (go_at_call 23; (with_reducible refine (Try.writeString_k w1.heap.size w1.heap.size bs G _ HIB5.out HLB.out HSZ5.out).mono ?_); rintro e w6 ⟨rfl, h1, b1, k1⟩; have HI6 := Aside0.mk h1; have HB6 := Aside0.mk b1; clear h1 b1 k1))
    go_roundw
    case rel => exact ⟨i + 1, I2, rfl, EI2, by omega, ⟨by rw [HTA.out]; exact Or.inr HI6.out⟩, ⟨HB5.out.trans (HB6.out.mono HB1.out.size)⟩, ⟨Nat.le_trans HSZ5.out HB6.out.size⟩⟩
    case measure => have := HI.out; have := EI2.out; simp [intOf]; omega
   ·
    have hie : i = l0.length := by omega
    have i1b : decide (I < (l0.length : Int)) = false := decide_eq_false (by rw [HI.out]; omega); have HI3' : Aside0 (Lib.IsBuilderF 56 5 w1.heap.size w1.heap.size (Lib.byteCells (givesT a1 l0)) wr) := ⟨by have h7 := HIB.out; rw [hie, List.take_length] at h7; exact h7⟩
    go_wp2_with (go_at_call 24; (with_reducible refine (Try.Builder_String_any_k w1.heap.size w1.heap.size (givesT a1 l0) _ HI3'.out HSZ.out).mono ?_); rintro e w5 ⟨rfl, _, b1, _⟩; have HB5 := Aside0.mk b1; clear b1)
    go_ret2; exact ⟨rfl, HB.out.trans (HB5.out.mono HB1.out.size)⟩
 ·
  rw [if_neg he] at h; obtain ⟨rfl, rfl⟩ := Prod.mk.inj (Option.some.inj h); have heb : (e != 0) = true := bne_iff_ne.2 he; clear h hH
  go_enter Try.func12, Try.ntmps12
  go_wp2_with (go_at_call 10; (with_reducible refine (hand_Spans.calls k A0 c0 l0 a1 sp e _ HR.out HC.out HH.out).mono ?_); rintro e' w1 ⟨v, rfl, _, hb⟩; have HB1 := Aside0.mk hb; clear hb)
  go_ret2; exact ⟨rfl, HB1.out⟩
end Go.Proofs.Ytpmiaaphmgoapaa.H
