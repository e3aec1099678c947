-- Printed by hprint.py (this session's program over the kit's print) out of the translation; the parts 'by hand' are the session's own.
import Derived.Test.YtcpbalnbgmjhjaaDoorEx0
namespace Go.Proofs.YtcpbalnbgmjhjaaDoor.E
open Go.RowKit Go.Proofs.YtcpbalnbgmjhjaaDoorW.PrintWords Go.Proofs.YtcpbalnbgmjhjaaDoorW.PrintLast Go.Proofs.YtcpbalnbgmjhjaaDoorW.PrintMore
attribute [local go_sem] max2_int min2_int max_two min_two max_three min_three max_four min_four   -- for this text's walks alone
set_option linter.unusedVariables false
set_option linter.unusedSimpArgs false

/-! ### cost_Check: function 18: by hand -/
def scaleOk (g n f o : Int) : Prop := (1 ≤ g ∧ g ≤ 1000) ∧ (1 ≤ n ∧ n ≤ 1000) ∧ (1 ≤ f ∧ f ≤ 1000) ∧ 0 ≤ o ∧ o ≤ 31
instance (g n f o : Int) : Decidable (scaleOk g n f o) := by unfold scaleOk; infer_instance
def cost_Check.f (a0_0 a0_1 a0_2 a0_3 : Int) : Option Int := some (if scaleOk a0_0 a0_1 a0_2 a0_3 then 0 else 90)
set_option maxHeartbeats 8000000 in
set_option maxRecDepth 100000 in
theorem cost_Check.calls (a0_0 : Int) (a0_1 : Int) (a0_2 : Int) (a0_3 : Int) (r : Int) (w : World) (h : cost_Check.f a0_0 a0_1 a0_2 a0_3 = some r) :
    Calls Tryd.prog 18 #[.agg #[.int .i64 a0_0, .int .i64 a0_1, .int .i64 a0_2, .int .i64 a0_3]] w fun e w' => e = .returned (.int .i64 r) ∧ Below w.heap.size w w' := by
  unfold cost_Check.f at h
  obtain rfl := Option.some.inj h
  clear h
  have ix0 : ∀ w, (Instr.index 77 (.agg #[.int .i64 a0_0, .int .i64 a0_1, .int .i64 a0_2]) (.int .i64 0)).run Tryd.prog w = .ok (.int .i64 a0_0) w := fun _ => by kernel_rfl
  have ix1 : ∀ w, (Instr.index 77 (.agg #[.int .i64 a0_0, .int .i64 a0_1, .int .i64 a0_2]) (.int .i64 1)).run Tryd.prog w = .ok (.int .i64 a0_1) w := fun _ => by kernel_rfl
  have ix2 : ∀ w, (Instr.index 77 (.agg #[.int .i64 a0_0, .int .i64 a0_1, .int .i64 a0_2]) (.int .i64 2)).run Tryd.prog w = .ok (.int .i64 a0_2) w := fun _ => by kernel_rfl
  have hu := Tryd.underlying23
  obtain ⟨R, hR⟩ : ∃ R : Int, (if scaleOk a0_0 a0_1 a0_2 a0_3 then 0 else 90) = R := ⟨_, rfl⟩
  have HR := Aside0.mk hR
  rw [hR]
  clear hR
  go_enter Tryd.func18, Tryd.ntmps18
  go_wp2
  go_loop [4, 12] (fun v4 v12 => ∃ i : Nat, v12 = .int .i64 (i : Int) ∧ i ≤ 3 ∧ Aside0 (1 ≤ i → 1 ≤ a0_0 ∧ a0_0 ≤ 1000) ∧ Aside0 (2 ≤ i → 1 ≤ a0_1 ∧ a0_1 ≤ 1000) ∧ Aside0 (3 ≤ i → 1 ≤ a0_2 ∧ a0_2 ≤ 1000)) (fun _ v12 => 3 - (intOf v12).toNat)
  case atStart => exact ⟨0, rfl, by omega, ⟨fun h => by omega⟩, ⟨fun h => by omega⟩, ⟨fun h => by omega⟩⟩
  case round =>
    obtain ⟨i, rfl, hi, h1, h2, h3⟩ := hrel
    have hc : i = 0 ∨ i = 1 ∨ i = 2 ∨ i = 3 := by omega
    rcases hc with rfl | rfl | rfl | rfl
    · by_cases l0 : a0_0 < 1
      · have l0b : decide (a0_0 < 1) = true := decide_eq_true l0
        have HR90 : Aside0 (R = 90) := ⟨by rw [← HR.out, if_neg (by unfold scaleOk; omega)]⟩
        go_wp2
        go_ret
        exact ⟨by rw [HR90.out]; rfl, (Below.refl _ w).alloc (Nat.le_refl _) _⟩
      · have l0b : decide (a0_0 < 1) = false := decide_eq_false l0
        by_cases l1 : 1000 < a0_0
        · have l1b : decide (a0_0 > 1000) = true := decide_eq_true l1
          have l1c : decide (1000 < a0_0) = true := decide_eq_true l1
          have HR90 : Aside0 (R = 90) := ⟨by rw [← HR.out, if_neg (by unfold scaleOk; omega)]⟩
          go_wp2
          go_ret
          exact ⟨by rw [HR90.out]; rfl, (Below.refl _ w).alloc (Nat.le_refl _) _⟩
        · have l1b : decide (a0_0 > 1000) = false := decide_eq_false l1
          have l1c : decide (1000 < a0_0) = false := decide_eq_false l1
          go_wp2
          go_round
          case rel => exact ⟨1, rfl, by omega, ⟨fun _ => ⟨by omega, by omega⟩⟩, ⟨fun h => by omega⟩, ⟨fun h => by omega⟩⟩
          case measure => simp [intOf]
    · by_cases l0 : a0_1 < 1
      · have l0b : decide (a0_1 < 1) = true := decide_eq_true l0
        have HR90 : Aside0 (R = 90) := ⟨by rw [← HR.out, if_neg (by unfold scaleOk; omega)]⟩
        go_wp2
        go_ret
        exact ⟨by rw [HR90.out]; rfl, (Below.refl _ w).alloc (Nat.le_refl _) _⟩
      · have l0b : decide (a0_1 < 1) = false := decide_eq_false l0
        by_cases l1 : 1000 < a0_1
        · have l1b : decide (a0_1 > 1000) = true := decide_eq_true l1
          have l1c : decide (1000 < a0_1) = true := decide_eq_true l1
          have HR90 : Aside0 (R = 90) := ⟨by rw [← HR.out, if_neg (by unfold scaleOk; omega)]⟩
          go_wp2
          go_ret
          exact ⟨by rw [HR90.out]; rfl, (Below.refl _ w).alloc (Nat.le_refl _) _⟩
        · have l1b : decide (a0_1 > 1000) = false := decide_eq_false l1
          have l1c : decide (1000 < a0_1) = false := decide_eq_false l1
          go_wp2
          go_round
          case rel => exact ⟨2, rfl, by omega, ⟨fun _ => h1.out (by omega)⟩, ⟨fun _ => ⟨by omega, by omega⟩⟩, ⟨fun h => by omega⟩⟩
          case measure => simp [intOf]
    · by_cases l0 : a0_2 < 1
      · have l0b : decide (a0_2 < 1) = true := decide_eq_true l0
        have HR90 : Aside0 (R = 90) := ⟨by rw [← HR.out, if_neg (by unfold scaleOk; omega)]⟩
        go_wp2
        go_ret
        exact ⟨by rw [HR90.out]; rfl, (Below.refl _ w).alloc (Nat.le_refl _) _⟩
      · have l0b : decide (a0_2 < 1) = false := decide_eq_false l0
        by_cases l1 : 1000 < a0_2
        · have l1b : decide (a0_2 > 1000) = true := decide_eq_true l1
          have l1c : decide (1000 < a0_2) = true := decide_eq_true l1
          have HR90 : Aside0 (R = 90) := ⟨by rw [← HR.out, if_neg (by unfold scaleOk; omega)]⟩
          go_wp2
          go_ret
          exact ⟨by rw [HR90.out]; rfl, (Below.refl _ w).alloc (Nat.le_refl _) _⟩
        · have l1b : decide (a0_2 > 1000) = false := decide_eq_false l1
          have l1c : decide (1000 < a0_2) = false := decide_eq_false l1
          go_wp2
          go_round
          case rel => exact ⟨3, rfl, by omega, ⟨fun _ => h1.out (by omega)⟩, ⟨fun _ => h2.out (by omega)⟩, ⟨fun _ => ⟨by omega, by omega⟩⟩⟩
          case measure => simp [intOf]
    · have g1 := h1.out (by omega)
      have g2 := h2.out (by omega)
      have g3 := h3.out (by omega)
      by_cases l0 : a0_3 < 0
      · have l0b : decide (a0_3 < 0) = true := decide_eq_true l0
        have HR90 : Aside0 (R = 90) := ⟨by rw [← HR.out, if_neg (by unfold scaleOk; omega)]⟩
        clear g1 g2 g3
        go_wp2
        go_ret
        exact ⟨by rw [HR90.out]; rfl, (Below.refl _ w).alloc (Nat.le_refl _) _⟩
      · have l0b : decide (a0_3 < 0) = false := decide_eq_false l0
        by_cases l1 : 31 < a0_3
        · have l1b : decide (a0_3 > 31) = true := decide_eq_true l1
          have l1c : decide (31 < a0_3) = true := decide_eq_true l1
          have HR90 : Aside0 (R = 90) := ⟨by rw [← HR.out, if_neg (by unfold scaleOk; omega)]⟩
          clear g1 g2 g3
          go_wp2
          go_ret
          exact ⟨by rw [HR90.out]; rfl, (Below.refl _ w).alloc (Nat.le_refl _) _⟩
        · have l1b : decide (a0_3 > 31) = false := decide_eq_false l1
          have l1c : decide (31 < a0_3) = false := decide_eq_false l1
          have HR90 : Aside0 (R = 0) := ⟨by rw [← HR.out, if_pos (by unfold scaleOk; omega)]⟩
          clear g1 g2 g3
          go_wp2
          go_ret
          exact ⟨by rw [HR90.out]; rfl, (Below.refl _ w).alloc (Nat.le_refl _) _⟩

end Go.Proofs.YtcpbalnbgmjhjaaDoor.E
