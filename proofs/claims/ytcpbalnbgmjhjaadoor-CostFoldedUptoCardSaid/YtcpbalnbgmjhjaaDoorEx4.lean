-- Printed by hprint.py (this session's program over the kit's print) out of the translation; the parts 'by hand' are the session's own.
import Derived.Test.YtcpbalnbgmjhjaaDoorEx0
namespace Go.Proofs.YtcpbalnbgmjhjaaDoor.E
open Go.RowKit Go.Proofs.YtcpbalnbgmjhjaaDoorW.PrintWords Go.Proofs.YtcpbalnbgmjhjaaDoorW.PrintLast Go.Proofs.YtcpbalnbgmjhjaaDoorW.PrintMore
attribute [local go_sem] max2_int min2_int max_two min_two max_three min_three max_four min_four   -- for this text's walks alone
set_option linter.unusedVariables false
set_option linter.unusedSimpArgs false

-- NOT PRINTED: function 59 (fold_unmarked)

/-! ### fold_letter: function 60 -/
def fold_letter.f (a0 : Int) : Option (Int) := if a0 = 118 then (some (wrap32 (a0 - 1))) else (if a0 = 86 then (some (wrap32 (a0 - 1))) else (if a0 = 106 then (some (wrap32 (a0 - 1))) else (if a0 = 74 then (some (wrap32 (a0 - 1))) else (some a0))))
set_option maxHeartbeats 8000000 in
set_option maxRecDepth 100000 in
theorem fold_letter.calls (a0 : Int) (r : Int) (w : World) (h : fold_letter.f a0 = some r) :
    Calls Tryd.prog 60 #[.int .i32 a0] w fun e w' => e = .returned (.int .i32 r) ∧ Drawn0 w w' := by
  have H : (if a0 = 118 then (some (wrap32 (a0 - 1))) else (if a0 = 86 then (some (wrap32 (a0 - 1))) else (if a0 = 106 then (some (wrap32 (a0 - 1))) else (if a0 = 74 then (some (wrap32 (a0 - 1))) else (some a0))))) = some r := h
  clear h
  by_cases c2 : a0 = 118
  · rw [if_pos c2] at H
    have c2b0 : (a0 == 118) = true := beq_iff_eq.mpr c2
    have c2b1 : (a0 != 118) = false := bne_eq_false_iff_eq.mpr c2
    clear c2
    obtain rfl := Option.some.inj H
    go_enter Tryd.func60, Tryd.ntmps60
    go_wp2
    go_ret
    exact ⟨by first | rfl | (simp; done) | (simp [*]; done), by repeat (first | exact Drawn0.refl _ | apply Drawn0.step)⟩
  · rw [if_neg c2] at H
    have c2b0 : (a0 == 118) = false := beq_eq_false_iff_ne.mpr c2
    have c2b1 : (a0 != 118) = true := bne_iff_ne.mpr c2
    by_cases c3 : a0 = 86
    · rw [if_pos c3] at H
      have c3b0 : (a0 == 86) = true := beq_iff_eq.mpr c3
      have c3b1 : (a0 != 86) = false := bne_eq_false_iff_eq.mpr c3
      clear c3
      obtain rfl := Option.some.inj H
      go_enter Tryd.func60, Tryd.ntmps60
      go_wp2
      go_ret
      exact ⟨by first | rfl | (simp; done) | (simp [*]; done), by repeat (first | exact Drawn0.refl _ | apply Drawn0.step)⟩
    · rw [if_neg c3] at H
      have c3b0 : (a0 == 86) = false := beq_eq_false_iff_ne.mpr c3
      have c3b1 : (a0 != 86) = true := bne_iff_ne.mpr c3
      by_cases c4 : a0 = 106
      · rw [if_pos c4] at H
        have c4b0 : (a0 == 106) = true := beq_iff_eq.mpr c4
        have c4b1 : (a0 != 106) = false := bne_eq_false_iff_eq.mpr c4
        clear c4
        obtain rfl := Option.some.inj H
        go_enter Tryd.func60, Tryd.ntmps60
        go_wp2
        go_ret
        exact ⟨by first | rfl | (simp; done) | (simp [*]; done), by repeat (first | exact Drawn0.refl _ | apply Drawn0.step)⟩
      · rw [if_neg c4] at H
        have c4b0 : (a0 == 106) = false := beq_eq_false_iff_ne.mpr c4
        have c4b1 : (a0 != 106) = true := bne_iff_ne.mpr c4
        by_cases c5 : a0 = 74
        · rw [if_pos c5] at H
          have c5b0 : (a0 == 74) = true := beq_iff_eq.mpr c5
          have c5b1 : (a0 != 74) = false := bne_eq_false_iff_eq.mpr c5
          clear c5
          obtain rfl := Option.some.inj H
          go_enter Tryd.func60, Tryd.ntmps60
          go_wp2
          go_ret
          exact ⟨by first | rfl | (simp; done) | (simp [*]; done), by repeat (first | exact Drawn0.refl _ | apply Drawn0.step)⟩
        · rw [if_neg c5] at H
          have c5b0 : (a0 == 74) = false := beq_eq_false_iff_ne.mpr c5
          have c5b1 : (a0 != 74) = true := bne_iff_ne.mpr c5
          obtain rfl := Option.some.inj H
          go_enter Tryd.func60, Tryd.ntmps60
          go_wp2
          go_ret
          exact ⟨by first | rfl | (simp; done) | (simp [*]; done), by repeat (first | exact Drawn0.refl _ | apply Drawn0.step)⟩

-- NOT PRINTED: function 44 (fold_steps)

end Go.Proofs.YtcpbalnbgmjhjaaDoor.E
