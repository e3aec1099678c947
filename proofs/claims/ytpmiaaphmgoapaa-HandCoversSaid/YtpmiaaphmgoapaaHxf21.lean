-- Printed by hprint.py (this session's program over the kit's print) out of the translation; the parts 'by hand' are the session's own.
import Derived.Test.YtpmiaaphmgoapaaHx0
namespace Go.Proofs.Ytpmiaaphmgoapaa.H
open Go.RowKit Go.Proofs.YtpmiaaphmgoapaaW.PrintWords Go.Proofs.YtpmiaaphmgoapaaW.PrintLast Go.Proofs.YtpmiaaphmgoapaaW.PrintMore
attribute [local go_sem] max2_int min2_int max_two min_two max_three min_three max_four min_four   -- for this text's walks alone
set_option linter.unusedVariables false
set_option linter.unusedSimpArgs false

/-! ### hand_gives: function 21: by hand -/
/-- What a piece gives by a hand. -/
def givesP (p0 : Int) (l : List ByteArray) (p2 h : Int) : ByteArray := if p0 = 2 then ⟨(lostL p2.toNat).toArray⟩ else rdOf ByteArray.empty l (if h < (l.length : Int) - 1 then h else (l.length : Int) - 1)
def givesOk (p0 : Int) (n : Nat) (p2 h : Int) : Prop := if p0 = 2 then 0 ≤ p2 ∧ p2 ≤ 99 else 1 ≤ n ∧ n ≤ 4294967296 ∧ 0 ≤ h
instance (p0 : Int) (n : Nat) (p2 h : Int) : Decidable (givesOk p0 n p2 h) := by unfold givesOk; infer_instance
def hand_gives.f (a0_0 : Int) (l0_1 : List ByteArray) (a0_2 a1 : Int) : Option ByteArray := if givesOk a0_0 l0_1.length a0_2 a1 then some (givesP a0_0 l0_1 a0_2 a1) else none
theorem hw64 (x : Int) (h : -9223372036854775808 ≤ x) (h2 : x < 9223372036854775808) : wrap64 x = x := by
  unfold wrap64
  omega
theorem cell_allocH {w : World} {a : Addr} {v : Value} (h : w.cell? a = some v) (o : Obj) : (w.alloc o).cell? a = some v :=
  ((below_alloc (Below.refl w.heap.size w) o).cell (World.block_lt_of_cell? w _ h)).trans h
set_option maxHeartbeats 4000000 in
set_option maxRecDepth 100000 in
theorem hand_gives.calls (a0_0 : Int) (A0_1 : Option Addr) (c0_1 : Nat) (l0_1 : List ByteArray) (a0_2 : Int) (a1 : Int) (r : ByteArray) (w : World) (hr0_1 : Kd.C Kd.string w A0_1 l0_1.length l0_1) (hc0_1 : l0_1.length ≤ c0_1) (h : hand_gives.f a0_0 l0_1 a0_2 a1 = some r) :
    Calls Try.prog 21 #[.agg #[.int .i64 a0_0, .slice A0_1 l0_1.length c0_1, .int .i64 a0_2], .int .i64 a1] w fun e w' => e = .returned (.string r) ∧ Below w.heap.size w w' := by
  unfold hand_gives.f at h
  by_cases hg : givesOk a0_0 l0_1.length a0_2 a1
  · rw [if_pos hg] at h
    obtain rfl := Option.some.inj h
    clear h
    have HR := Aside0.mk hr0_1
    clear hr0_1 hc0_1
    unfold givesOk at hg
    unfold givesP
    by_cases h2 : a0_0 = 2
    · subst h2
      rw [if_pos rfl] at hg ⊢
      obtain ⟨n, rfl⟩ : ∃ n : Nat, a0_2 = (n : Int) := ⟨a0_2.toNat, by omega⟩
      have hn : n ≤ 99 := by omega
      have HN1 := Aside0.mk hn
      clear hg hn
      rw [Int.toNat_natCast]
      obtain ⟨X, hX⟩ : ∃ X, lostL n = X := ⟨_, rfl⟩
      have HX := Aside0.mk hX
      rw [hX]
      clear hX
      go_enter Try.func21, Try.ntmps21
      go_wp2_with (go_at_call 27; (with_reducible refine (Try.Repeat_lost n _ HN1.out).mono ?_); rintro e w1 ⟨rfl, hb⟩; have HB := Aside0.mk hb; clear hb)
      go_ret
      exact ⟨by rw [HX.out]; rfl, below_step (by repeat (first | exact Below.refl _ _ | apply below_alloc)) HB.out⟩
    · rw [if_neg h2] at hg ⊢
      have h2b : (a0_0 == 2) = false := beq_eq_false_iff_ne.2 h2
      obtain ⟨hl, hl2, hh⟩ := hg
      obtain ⟨N, hN⟩ : ∃ N : Nat, l0_1.length = N := ⟨_, rfl⟩
      obtain ⟨M, hM⟩ : ∃ M : Int, (N : Int) - 1 = M := ⟨_, rfl⟩
      have hMw : wrap64 ((N : Int) - 1) = M := by rw [hw64 _ (by omega) (by omega)]; exact hM
      have key : ∀ J : Int, (if a1 < M then a1 else M) = J → 0 ≤ J ∧ J < (N : Int) := fun J h => by rw [← h]; split <;> omega
      rw [hN, hM]
      by_cases hlt : M < a1
      · obtain ⟨hJ0, hJ1⟩ := key M (by rw [if_neg (by omega)])
        rw [if_neg (show ¬ a1 < M by omega)]
        obtain ⟨ad, e0, x0⟩ := Kd.at_string HR.out M hJ0 (by rw [hN]; exact hJ1)
        subst e0
        obtain ⟨X, hX⟩ : ∃ X, rdOf ByteArray.empty l0_1 M = X := ⟨_, rfl⟩
        rw [hX] at x0 ⊢
        have x1 := fun o => cell_allocH x0 o
        have hJ0t := eq_true hJ0
        have hJ1t := eq_true hJ1
        clear hX hl hl2 hM h2 key
        go_enter Try.func21, Try.ntmps21
        go_wp2
        go_ret
        exact ⟨rfl, (Below.refl _ w).alloc (Nat.le_refl _) _⟩
      · obtain ⟨hJ0, hJ1⟩ := key a1 (by split <;> omega)
        rw [show (if a1 < M then a1 else M) = a1 from by split <;> omega]
        obtain ⟨ad, e0, x0⟩ := Kd.at_string HR.out a1 hJ0 (by rw [hN]; exact hJ1)
        subst e0
        obtain ⟨X, hX⟩ : ∃ X, rdOf ByteArray.empty l0_1 a1 = X := ⟨_, rfl⟩
        rw [hX] at x0 ⊢
        have x1 := fun o => cell_allocH x0 o
        have hJ0t := eq_true hJ0
        have hJ1t := eq_true hJ1
        clear hX hl hl2 hM h2 key
        go_enter Try.func21, Try.ntmps21
        go_wp2
        go_ret
        exact ⟨rfl, (Below.refl _ w).alloc (Nat.le_refl _) _⟩
  · rw [if_neg hg] at h
    cases h

end Go.Proofs.Ytpmiaaphmgoapaa.H
