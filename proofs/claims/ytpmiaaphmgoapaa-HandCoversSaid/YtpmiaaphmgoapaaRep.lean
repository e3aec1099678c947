/-
  strings.Repeat at the sign of a lost word and few copies: Go's own text, walked: the buffer is grown, then copied onto itself.
-/
import Derived.Test.YtpmiaaphmgoapaaBuild
import Derived.Lib.MakeNoZero
import Derived.Test.YtpmiaaphmgoapaaWWords
import Derived.RegionTactic
import Derived.Deep.LoopGhost
namespace Go.Proofs
open Go.RowKit Go.Lib
open Go.Proofs.YtpmiaaphmgoapaaW.PrintWords (Aside0)
set_option linter.unusedVariables false
set_option linter.unusedSimpArgs false

/-- The sign of a lost word and a blank, n times. -/
def lostL : Nat → List UInt8
  | 0 => []
  | n + 1 => [226, 151, 140, 32] ++ lostL n
theorem lostL_add (a b : Nat) : lostL (a + b) = lostL a ++ lostL b := by
  induction a with
  | zero => simp [lostL]
  | succ a ih => rw [Nat.succ_add, lostL, lostL, ih, List.append_assoc]
theorem lostL_length (n : Nat) : (lostL n).length = 4 * n := by
  induction n with
  | zero => rfl
  | succ n ih => rw [lostL, List.length_append, ih]; simp; omega
theorem lostL_take (q k : Nat) (h : k ≤ q) : (lostL q).take (4 * k) = lostL k := by
  obtain ⟨d, rfl⟩ := Nat.exists_eq_add_of_le h
  rw [lostL_add, List.take_append_of_le_length (by rw [lostL_length]; omega), List.take_of_length_le (by rw [lostL_length]; omega)]
theorem Try.infoByteG : (Try.prog.info? 5).map (fun i => (i.zero, i.size, i.bytes)) = some (some (.int .u8 0), 1, 1) := by kernel_rfl
set_option maxHeartbeats 4000000 in
set_option maxRecDepth 100000 in
/-- (*strings.Builder).grow at a builder without a buffer. -/
theorem Try.grow_fresh (B b n : Nat) (w : World) (hB : B ≤ b) (hbk : w.heap[b]? = some (.cells #[.pointer (some ⟨b, 0, none⟩), .slice none 0 0] 56 (0, 0))) (hBw : B ≤ w.heap.size) (hn : n ≤ 65536) :
    Calls Try.prog 38 #[.pointer (some ⟨b, 0, none⟩), .int .i64 n] w fun e w' => e = .returned (.tuple #[]) ∧ (Lib.BuilderAt 56 5 B b (.pointer (some ⟨b, 0, none⟩)) [] w' ∧ Below B w w') := by
  obtain ⟨i0, hi, hz0, hz1, hz2⟩ := info_parts Try.infoByteG
  obtain ⟨cs, hrun, hle, hmax⟩ := Lib.run_makeNoZero (P := Try.prog) w.drew #[3] 54 5 Try.underlying54 n (by omega)
  have hfit : cs.size ≤ maxLen := hmax (by unfold maxLen; omega)
  have hlt : b < w.heap.size := by
    rcases Nat.lt_or_ge b w.heap.size with h' | h'
    · exact h'
    · simp [Array.getElem?_eq_none h'] at hbk
  have hcall : ∀ x : Int, x = (n : Int) → (callFunc 39 #[.int .i64 x]).run Try.prog w.drew = .ok (.value (.slice (some ⟨w.heap.size, 0, none⟩) n cs.size)) (w.drew.drew.drew.alloc (.cells cs 5)) := by
    intro x hx
    rw [hx, run_callFunc_extern Try.func39 (by kernel_rfl) (by kernel_rfl) (by kernel_rfl) (e := Extern.BytealgMakeNoZero.makeNoZero #[3] #[54]) (by kernel_rfl), hrun]
    rfl
  have hcall2 := hcall (IntKind.i64.wrap (IntKind.i64.wrap 0 + (n : Int))) (by rw [IntKind.wrap_i64, IntKind.wrap_i64]; omega)
  have c1 : w.drew.cell? ⟨b, 1, none⟩ = some (.slice none 0 0) := by
    have : w.drew.heap[b]? = _ := hbk
    rw [Lib.cell_of_heap this]; rfl
  have c2 : (w.alloc (.cells cs 5)).cell? ⟨b, 1, none⟩ = some (.slice none 0 0) := by
    have : (w.alloc (.cells cs 5)).heap[b]? = _ := (Lib.alloc_old w _ b hlt).trans hbk
    rw [Lib.cell_of_heap this]; rfl
  have f2 : (w.alloc (.cells cs 5)).frozen? ⟨b, 1, none⟩ = false := Lib.frozen_of_heap ((Lib.alloc_old w _ b hlt).trans hbk) 1
  have hcopy : ∀ W : World, (Builtin.copy_ #[54, 54] 3 #[.slice (some ⟨w.heap.size, 0, none⟩) 0 cs.size, .slice none 0 0]).run Try.prog W = .ok (goInt 0) W :=
    fun W => run_copy_none W 54 54 3 5 _ _ 0 cs.size 0 0 Try.underlying54 (by kernel_rfl) rfl
  have hfin := Lib.grown_fresh (T := 56) (e := 5) (cs := cs) hB hbk hBw hfit (by decide)
  rw [World.setCell_alloc_past _ _ _ _ hlt] at hfin
  clear hcall hrun hmax
  go_enter Try.func38, Try.ntmps38
  go_wp2
  go_region
  all_goals (go_wp2; go_end0; exact ⟨rfl, hfin⟩)
set_option maxHeartbeats 4000000 in
set_option maxRecDepth 100000 in
/-- (*strings.Builder).Grow at a builder that has not been written. -/
theorem Try.Grow_fresh (B b n : Nat) (w : World) (hB : B ≤ b) (hbk : w.heap[b]? = some (.cells #[.pointer none, .slice none 0 0] 56 (0, 0))) (hBw : B ≤ w.heap.size) (hn0 : 0 < n) (hn : n ≤ 65536) :
    Calls Try.prog 32 #[.pointer (some ⟨b, 0, none⟩), .int .i64 n] w fun e w' => e = .returned (.tuple #[]) ∧ (Lib.BuilderAt 56 5 B b (.pointer (some ⟨b, 0, none⟩)) [] w' ∧ Below B w w') := by
  have hlt : b < w.heap.size := by
    rcases Nat.lt_or_ge b w.heap.size with h' | h'
    · exact h'
    · simp [Array.getElem?_eq_none h'] at hbk
  have c0 : w.cell? ⟨b, 0, none⟩ = some (.pointer none) := by rw [Lib.cell_of_heap hbk]; rfl
  have hfz : w.frozen? ⟨b, 0, none⟩ = false := Lib.frozen_of_heap hbk 0
  have hsh : w.shape? b = some (56, 2) := by unfold World.shape?; rw [hbk]; rfl
  have hb1 : (w.setCell ⟨b, 0, none⟩ (.pointer (some ⟨b, 0, none⟩))).heap[b]? = some (.cells #[.pointer (some ⟨b, 0, none⟩), .slice none 0 0] 56 (0, 0)) := by
    rw [heap_setCell_same w b 0 _ _ _ hbk]
    rfl
  have c1 : w.cell? ⟨b, 1, none⟩ = some (.slice none 0 0) := by rw [Lib.cell_of_heap hbk]; rfl
  have hBW : Below B w (w.setCell ⟨b, 0, none⟩ (.pointer (some ⟨b, 0, none⟩))) := (Below.refl B w).setCell (p := ⟨b, 0, none⟩) hB _
  have hnn : decide ((0 : Int) < (n : Int)) = true := decide_eq_true (by omega)
  have hnn0 : decide ((n : Int) < 0) = false := decide_eq_false (by omega)
  have HG := fun W2 (h : W2 = (w.setCell ⟨b, 0, none⟩ (.pointer (some ⟨b, 0, none⟩))).drew) => Try.grow_fresh B b n W2 hB (by rw [h]; exact hb1) (by rw [h]; have := hBW.size; simp; omega) hn
  go_enter Try.func32, Try.ntmps32
  go_wp2_with (go_at_call 28; refine (Try.copyCheck_fresh b _ c0 hsh hfz).mono ?_; rintro e w1 ⟨rfl, rfl⟩)
  go_region
  all_goals go_wp2_with (go_at_call 38; refine (HG _ rfl).mono ?_; rintro e w1 ⟨rfl, h1, h2⟩)
  all_goals (go_end0; exact ⟨rfl, h1, hBW.drew.trans h2⟩)
theorem rep_min3 {P : Program} (W : World) (ts : Array TypeId) (t : TypeId) (x y z v : Int) (h : (if z < (if y < x then y else x) then z else (if y < x then y else x)) = v) :
    (Builtin.min_ ts t #[.int .i64 x, .int .i64 y, .int .i64 z]).run P W = .ok (.int .i64 v) W := by
  rw [← h]
  simp [Builtin.min_, Builtin.min2]
theorem rep_w64 (x : Int) (h : -9223372036854775808 ≤ x) (h2 : x < 9223372036854775808) : wrap64 x = x := by
  unfold wrap64
  omega
theorem lostL_extract (q k : Nat) (h : k ≤ q) : (⟨(lostL q).toArray⟩ : ByteArray).extract 0 (4 * k) = ⟨(lostL k).toArray⟩ := by
  rw [Lib.extract_eq]
  simp [lostL_take q k h]
theorem strCells_lost (k : Nat) : Lib.strCells ⟨(lostL k).toArray⟩ = Lib.byteCells (lostL k) := by rw [Lib.strCells_eq]
set_option maxHeartbeats 8000000 in
set_option maxRecDepth 100000 in
/-- strings.Repeat, the sign of a lost word and a blank, at most 99 times. -/
theorem Try.Repeat_lost (n : Nat) (w : World) (hn : n ≤ 99) :
    Calls Try.prog 27 #[.string ⟨#[226, 151, 140, 32]⟩, .int .i64 n] w fun e w' => e = .returned (.string ⟨(lostL n).toArray⟩) ∧ Below w.heap.size w w' := by
  by_cases h0 : n = 0
  · subst h0
    go_enter Try.func27, Try.ntmps27
    go_wp2
    go_ret
    exact ⟨rfl, Below.refl _ _⟩
  · by_cases h1 : n = 1
    · subst h1
      go_enter Try.func27, Try.ntmps27
      go_wp2
      go_ret
      exact ⟨rfl, Below.refl _ _⟩
    · have hMul := Try.bits_Mul 4 n (by omega) (by omega) w
      rw [Nat.div_eq_of_lt (by omega : 4 * n < 18446744073709551616), Nat.mod_eq_of_lt (by omega : 4 * n < 18446744073709551616)] at hMul
      obtain ⟨N, hN⟩ : ∃ N : Nat, 4 * n = N := ⟨_, rfl⟩
      rw [hN] at hMul
      have HN := Aside0.mk hN
      have b0 : ((n : Int) == 0) = false := beq_eq_false_iff_ne.2 (by omega)
      have b1 : ((n : Int) == 1) = false := beq_eq_false_iff_ne.2 (by omega)
      have b2 : decide ((n : Int) < 0) = false := decide_eq_false (by omega)
      have b3 : decide ((N : Int) > 9223372036854775807) = false := decide_eq_false (by omega)
      have b3' : decide ((9223372036854775807 : Int) < (N : Int)) = false := decide_eq_false (by omega)
      have b4 : decide ((N : Int) > 8192) = false := decide_eq_false (by omega)
      have b4' : decide ((8192 : Int) < (N : Int)) = false := decide_eq_false (by omega)
      have b5 : IntKind.i64.wrap (N : Int) = (N : Int) := by rw [IntKind.wrap_i64]; omega
      have hNb : N ≤ 396 := by omega
      have hNb8 : 8 ≤ N := by omega
      clear hN
      have HK1 : Aside0 ((w.alloc (.cells #[.pointer none, .slice none 0 0] 56)).heap[w.heap.size]? = some (.cells #[.pointer none, .slice none 0 0] 56 (0, 0))) := ⟨heap_alloc_new w _⟩
      have HK2 : Aside0 (w.heap.size ≤ (w.alloc (.cells #[.pointer none, .slice none 0 0] 56)).heap.size) := ⟨by simp⟩
      have HK3 : Aside0 (Below w.heap.size w (w.alloc (.cells #[.pointer none, .slice none 0 0] 56))) := ⟨(Below.refl w.heap.size w).alloc (Nat.le_refl _) _⟩
      have n1 : 0 < N := by omega
      have n2 : N ≤ 65536 := by omega
      have HL4 : Aside0 (([] : List Value).length + (⟨#[226, 151, 140, 32]⟩ : ByteArray).size ≤ 140737488355328) := ⟨by show 0 + 4 ≤ _; omega⟩
      have HMul : Aside0 (Calls Try.prog 30 #[.int .u64 4, .int .u64 (n : Int)] w fun e w' => e = .returned (.tuple #[.int .u64 0, .int .u64 (N : Int)]) ∧ w' = w) := ⟨hMul⟩
      clear hMul
      go_enter Try.func27, Try.ntmps27
      go_wp2_with (first | (go_at_call 30; (with_reducible refine HMul.out.mono ?_); rintro e w1 ⟨rfl, hw⟩; obtain rfl := hw.symm) | (go_at_call 32; (with_reducible refine (Try.Grow_fresh w.heap.size w.heap.size N _ (Nat.le_refl _) HK1.out HK2.out n1 n2).mono ?_); rintro e w1 ⟨rfl, h1, h2⟩; have HI1 := Aside0.mk (Lib.IsBuilderF.of (Or.inr h1)); have HS1 := Aside0.mk (HK3.out.trans h2).size; have HB1 := Aside0.mk (HK3.out.trans h2); clear h1 h2) | (go_at_call 23; (with_reducible refine (Try.writeString_k w.heap.size w.heap.size [] ⟨#[226, 151, 140, 32]⟩ _ HI1.out HL4.out HS1.out).mono ?_); rintro e w2 ⟨rfl, h1, b1, k1⟩; have HI2 := Aside0.mk h1; have HB2 := Aside0.mk (HB1.out.trans b1); clear h1 b1 k1))
      go_loopg [10] (n - 1) (fun kq v wr => ∃ (q : Nat) (C : Value), v = C ∧ Aside0 (kq = n - q) ∧ 1 ≤ q ∧ q ≤ n ∧ Aside0 (Lib.IsBuilderF 56 5 w.heap.size w.heap.size (Lib.byteCells (lostL q)) wr) ∧ Aside0 (Below w.heap.size w wr))
      case atStart => exact ⟨1, _, rfl, ⟨rfl⟩, Nat.le_refl _, by omega, ⟨Or.inr HI2.out⟩, HB2⟩
      case round =>
        obtain ⟨q, C, rfl, HG, hq1, hq2, HI, HB⟩ := hrel
        have hNn : 4 * n = N := HN.out
        by_cases hqn : q < n
        · obtain ⟨k, hk, hk1, hk2, hk3⟩ : ∃ k, k = min (n - q) q ∧ 1 ≤ k ∧ k ≤ q ∧ q + k ≤ n := ⟨_, rfl, by omega, by omega, by omega⟩
          obtain ⟨L, hL⟩ : ∃ L, 4 * q = L := ⟨_, rfl⟩
          obtain ⟨K, hK⟩ : ∃ K, 4 * k = K := ⟨_, rfl⟩
          have HE := Aside0.mk (lostL_extract q k hk2)
          have HS : Aside0 ((⟨(lostL q).toArray⟩ : ByteArray).size = L) := ⟨by rw [← hL]; show (lostL q).toArray.size = _; simp [lostL_length]⟩
          have HA : Aside0 (Lib.byteCells (lostL (q + k)) = Lib.byteCells (lostL q) ++ Lib.strCells ⟨(lostL k).toArray⟩) := ⟨by rw [lostL_add, Lib.byteCells_append, strCells_lost]⟩
          have HKL : Aside0 ((⟨(lostL k).toArray⟩ : ByteArray).size = K) := ⟨by rw [← hK]; show (lostL k).toArray.size = _; simp [lostL_length]⟩
          have HBL : Aside0 ((Lib.byteCells (lostL q)).length = L) := ⟨by rw [Lib.byteCells_length, lostL_length]; exact hL⟩
          rw [hK] at HE
          obtain ⟨D, hD⟩ : ∃ D : Int, (N : Int) - (L : Int) = D := ⟨_, rfl⟩
          have hDw : wrap64 ((N : Int) - (L : Int)) = D := by rw [rep_w64 _ (by omega) (by omega)]; exact hD
          have hmin : ∀ W : World, (Builtin.min_ #[3, 3, 3] 3 #[.int .i64 D, .int .i64 (L : Int), .int .i64 (N : Int)]).run Try.prog W = .ok (.int .i64 (K : Int)) W := fun W => rep_min3 W _ _ _ _ _ _ (by
            by_cases hlt : (L : Int) < D
            · rw [if_pos hlt, if_neg (by omega)]
              omega
            · rw [if_neg hlt, if_neg (by omega)]
              omega)
          have m0 : ((L : Int) < (N : Int)) = True := eq_true (by omega)
          have m0b : decide ((L : Int) < (N : Int)) = true := decide_eq_true (by omega)
          have e0 : ((0 : Int) ≤ (K : Int)) = True := eq_true (by omega)
          have e1 : ((K : Int) ≤ (L : Int)) = True := eq_true (by omega)
          have e2 : (K ≤ L) = True := eq_true (by omega)
          have hLb : (Lib.byteCells (lostL q)).length + (⟨(lostL k).toArray⟩ : ByteArray).size ≤ 140737488355328 := by rw [HBL.out, HKL.out]; omega
          have HLb := Aside0.mk hLb
          have hbs : ((⟨(lostL q).toArray⟩ : ByteArray).size) = L := HS.out
          have hex : (⟨(lostL q).toArray⟩ : ByteArray).extract 0 K = ⟨(lostL k).toArray⟩ := HE.out
          obtain ⟨T, hT⟩ : ∃ T : ByteArray, ⟨(lostL q).toArray⟩ = T := ⟨_, rfl⟩
          have HT := Aside0.mk hT
          rw [hT] at hbs hex
          clear hLb hT hD hL hK hk
          go_wp2_with (first | (go_at_call 33; (with_reducible refine (Try.Builder_Len_f w.heap.size w.heap.size _ _ HI.out).mono ?_); rintro e w1 ⟨rfl, hw⟩; obtain rfl := hw.symm; rw [HBL.out]) | (go_at_call 24; (with_reducible refine (Try.Builder_String_any_k w.heap.size w.heap.size (lostL q) _ HI.out HB.out.size).mono ?_); rintro e w2 ⟨rfl, h1, b1, k1⟩; have HI2 := Aside0.mk h1; have HB2 := Aside0.mk (HB.out.trans b1); rw [HT.out]; clear h1 b1 k1) | (go_at_call 23; (with_reducible refine (Try.writeString_k w.heap.size w.heap.size (Lib.byteCells (lostL q)) ⟨(lostL k).toArray⟩ _ HI2.out HLb.out HB2.out.size).mono ?_); rintro e w3 ⟨rfl, h1, b1, k1⟩; have HI3 := Aside0.mk h1; have HB3 := Aside0.mk (HB2.out.trans b1); clear h1 b1 k1))
          go_roundg (n - (q + k))
          case measure => have := HG.out; omega
          case rel => exact ⟨q + k, _, rfl, ⟨rfl⟩, by omega, hk3, ⟨by rw [HA.out]; exact Or.inr HI3.out⟩, HB3⟩
        · obtain rfl : q = n := by omega
          have m0 : ((N : Int) < (N : Int)) = False := eq_false (by omega)
          have HBL : Aside0 ((Lib.byteCells (lostL q)).length = N) := ⟨by rw [Lib.byteCells_length, lostL_length]; exact hNn⟩
          go_wp2_with (first | (go_at_call 33; (with_reducible refine (Try.Builder_Len_f w.heap.size w.heap.size _ _ HI.out).mono ?_); rintro e w1 ⟨rfl, hw⟩; obtain rfl := hw.symm; rw [HBL.out]) | (go_at_call 24; (with_reducible refine (Try.Builder_String_any_k w.heap.size w.heap.size (lostL q) _ HI.out HB.out.size).mono ?_); rintro e w2 ⟨rfl, h1, b1, k1⟩; have HB2 := Aside0.mk (HB.out.trans b1); clear h1 b1 k1))
          go_ret
          exact ⟨rfl, HB2.out⟩
end Go.Proofs
