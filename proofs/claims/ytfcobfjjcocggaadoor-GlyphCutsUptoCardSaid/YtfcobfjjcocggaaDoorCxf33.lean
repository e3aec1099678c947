-- Printed by hprint.py (this session's program over the kit's print) out of the translation; the parts 'by hand' are the session's own.
import Derived.Test.YtfcobfjjcocggaaDoorCx0
namespace Go.Proofs.YtfcobfjjcocggaaDoor.C
open Go.RowKit Go.Proofs.YtfcobfjjcocggaaDoorW.PrintWords Go.Proofs.YtfcobfjjcocggaaDoorW.PrintLast Go.Proofs.YtfcobfjjcocggaaDoorW.PrintMore
attribute [local go_sem] max2_int min2_int max_two min_two max_three min_three max_four min_four   -- for this text's walks alone
set_option linter.unusedVariables false
set_option linter.unusedSimpArgs false

/-! ### glyph_Place: function 33: by hand -/
def glyph_Place.f (a0 : ByteArray) (a1 : Int) : Option (Int × Int) := if a0.size ≤ 4294967296 then (if a1 < 0 then some (0, 2) else if (a0.size : Int) ≤ a1 then some (0, 2) else some ((Rg.placeN a1 (Rg.pairs a0 a0.size 0) : Int) - 1, 0)) else none
set_option maxHeartbeats 4000000 in
set_option maxRecDepth 100000 in
theorem glyph_Place.calls (a0 : ByteArray) (a1 : Int) (r1 : Int) (r2 : Int) (w : World) (h : glyph_Place.f a0 a1 = some (r1, r2)) :
    Calls Tryd.prog 33 #[.string a0, .int .i64 a1] w fun e w' => e = .returned (.tuple #[.int .i64 r1, .int .i64 r2]) ∧ Below w.heap.size w w' := by
  unfold glyph_Place.f at h
  by_cases hs : a0.size ≤ 4294967296
  · rw [if_pos hs] at h
    by_cases h0 : a1 < 0
    · rw [if_pos h0] at h
      obtain ⟨rfl, rfl⟩ := Prod.mk.inj (Option.some.inj h)
      clear h
      have hd : decide (a1 < 0) = true := decide_eq_true h0
      go_enter Tryd.func33, Tryd.ntmps33
      go_wp2
      go_ret2
      exact ⟨rfl, (Below.refl _ w).alloc (Nat.le_refl _) _⟩
    · rw [if_neg h0] at h
      by_cases h1 : (a0.size : Int) ≤ a1
      · rw [if_pos h1] at h
        obtain ⟨rfl, rfl⟩ := Prod.mk.inj (Option.some.inj h)
        clear h
        have hd : decide (a1 < 0) = false := decide_eq_false h0
        have hd1 : decide ((a0.size : Int) ≤ a1) = true := decide_eq_true h1
        have hd2 : decide (a1 ≥ (a0.size : Int)) = true := decide_eq_true h1
        go_enter Tryd.func33, Tryd.ntmps33
        go_wp2
        go_ret2
        exact ⟨rfl, (Below.refl _ w).alloc (Nat.le_refl _) _⟩
      · rw [if_neg h1] at h
        obtain ⟨rfl, rfl⟩ := Prod.mk.inj (Option.some.inj h)
        exact (callsIn_wide (n := 3)).1 (Rg.Place_in _ 3 trivial trivial trivial rfl (by omega) a0 a1 hs (by omega) (by omega) w)
  · rw [if_neg hs] at h
    cases h

end Go.Proofs.YtfcobfjjcocggaaDoor.C
