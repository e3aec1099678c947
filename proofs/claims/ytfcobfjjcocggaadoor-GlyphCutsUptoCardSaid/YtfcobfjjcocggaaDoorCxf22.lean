-- Printed by hprint.py (this session's program over the kit's print) out of the translation; the parts 'by hand' are the session's own.
import Derived.Test.YtfcobfjjcocggaaDoorCx0
namespace Go.Proofs.YtfcobfjjcocggaaDoor.C
open Go.RowKit Go.Proofs.YtfcobfjjcocggaaDoorW.PrintWords Go.Proofs.YtfcobfjjcocggaaDoorW.PrintLast Go.Proofs.YtfcobfjjcocggaaDoorW.PrintMore
attribute [local go_sem] max2_int min2_int max_two min_two max_three min_three max_four min_four   -- for this text's walks alone
set_option linter.unusedVariables false
set_option linter.unusedSimpArgs false

/-! ### glyph_Count: function 22: by hand -/
def glyph_Count.f (a0 : ByteArray) : Option Int := if a0.size ≤ 4294967296 then some (Lib.runeCount a0 : Int) else none
set_option maxHeartbeats 1000000 in
set_option maxRecDepth 100000 in
theorem glyph_Count.calls (a0 : ByteArray) (r : Int) (w : World) (h : glyph_Count.f a0 = some r) :
    Calls Tryd.prog 22 #[.string a0] w fun e w' => e = .returned (.int .i64 r) ∧ Below w.heap.size w w' := by
  unfold glyph_Count.f at h
  by_cases hs : a0.size ≤ 4294967296
  · rw [if_pos hs] at h
    obtain rfl := Option.some.inj h
    clear h
    go_enter Tryd.func22, Tryd.ntmps22
    go_wp2_with (go_at_call 43; refine (Tryd.utf8_RuneCountInString a0 _ (by omega)).mono ?_; rintro e w1 ⟨rfl, pos, rfl⟩)
    go_ret
    exact ⟨rfl, (Below.refl _ w).alloc (Nat.le_refl _) _⟩
  · rw [if_neg hs] at h
    cases h

end Go.Proofs.YtfcobfjjcocggaaDoor.C
