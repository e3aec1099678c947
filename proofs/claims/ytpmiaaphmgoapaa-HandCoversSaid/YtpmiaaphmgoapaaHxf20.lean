-- Printed by hprint.py (this session's program over the kit's print) out of the translation; the parts 'by hand' are the session's own.
import Derived.Test.YtpmiaaphmgoapaaHx0
namespace Go.Proofs.Ytpmiaaphmgoapaa.H
open Go.RowKit Go.Proofs.YtpmiaaphmgoapaaW.PrintWords Go.Proofs.YtpmiaaphmgoapaaW.PrintLast Go.Proofs.YtpmiaaphmgoapaaW.PrintMore
attribute [local go_sem] max2_int min2_int max_two min_two max_three min_three max_four min_four   -- for this text's walks alone
set_option linter.unusedVariables false
set_option linter.unusedSimpArgs false

/-! ### hand_wrong: function 20 -/
def hand_wrong.f (a0 : Int) : Option (Bool) := if a0 < 0 then (some true) else (some (decide (a0 ≥ 4)))
set_option maxHeartbeats 8000000 in
set_option maxRecDepth 100000 in
theorem hand_wrong.calls (a0 : Int) (r : Bool) (w : World) (h : hand_wrong.f a0 = some r) :
    Calls Try.prog 20 #[.int .i64 a0] w fun e w' => e = .returned (.bool r) ∧ Drawn0 w w' := by
  have H : (if a0 < 0 then (some true) else (some (decide (a0 ≥ 4)))) = some r := h
  clear h
  by_cases c2 : a0 < 0
  · rw [if_pos c2] at H
    have c2b0 : decide (a0 < 0) = true := decide_eq_true c2
    clear c2
    obtain rfl := Option.some.inj H
    go_enter Try.func20, Try.ntmps20
    go_wp2
    go_ret
    exact ⟨by first | rfl | (simp; done) | (simp [*]; done), by repeat (first | exact Drawn0.refl _ | apply Drawn0.step)⟩
  · rw [if_neg c2] at H
    have c2b0 : decide (a0 < 0) = false := decide_eq_false c2
    clear c2
    obtain rfl := Option.some.inj H
    go_enter Try.func20, Try.ntmps20
    go_wp2
    go_ret
    exact ⟨by first | rfl | (simp; done) | (simp [*]; done), by repeat (first | exact Drawn0.refl _ | apply Drawn0.step)⟩

end Go.Proofs.Ytpmiaaphmgoapaa.H
