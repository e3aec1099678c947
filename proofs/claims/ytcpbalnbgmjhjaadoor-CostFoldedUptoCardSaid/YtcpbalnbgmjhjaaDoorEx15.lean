-- Printed by hprint.py (this session's program over the kit's print) out of the translation; the parts 'by hand' are the session's own.
import Derived.Test.YtcpbalnbgmjhjaaDoorEx0
namespace Go.Proofs.YtcpbalnbgmjhjaaDoor.E
open Go.RowKit Go.Proofs.YtcpbalnbgmjhjaaDoorW.PrintWords Go.Proofs.YtcpbalnbgmjhjaaDoorW.PrintLast Go.Proofs.YtcpbalnbgmjhjaaDoorW.PrintMore
attribute [local go_sem] max2_int min2_int max_two min_two max_three min_three max_four min_four   -- for this text's walks alone
set_option linter.unusedVariables false
set_option linter.unusedSimpArgs false

/-! ### glyph_Valid: function 25: by hand -/
def glyph_Valid.f (a0 : ByteArray) : Option Bool := if a0.size ≤ 4294967296 then some (Lib.validD a0.data.toList) else none
set_option maxHeartbeats 1000000 in
set_option maxRecDepth 100000 in
theorem glyph_Valid.calls (a0 : ByteArray) (r : Bool) (w : World) (hT : Lib.Utf8Tabs 0 1 w) (h : glyph_Valid.f a0 = some r) :
    Calls Tryd.prog 25 #[.string a0] w fun e w' => e = .returned (.bool r) ∧ Below w.heap.size w w' := by
  unfold glyph_Valid.f at h
  by_cases hs : a0.size ≤ 4294967296
  · rw [if_pos hs] at h
    obtain rfl := Option.some.inj h
    clear h
    have HT := Aside0.mk hT
    clear hT
    obtain ⟨V, hV⟩ : ∃ V, Lib.validD a0.data.toList = V := ⟨_, rfl⟩
    have HV := Aside0.mk hV
    rw [hV]
    clear hV
    go_enter Tryd.func25, Tryd.ntmps25
    go_wp2_with (go_at_call 49; refine (Tryd.utf8_ValidString a0 _ (by omega) HT.out).mono ?_; rintro e w1 ⟨rfl, hb⟩; rw [HV.out])
    go_ret
    exact ⟨rfl, hb⟩
  · rw [if_neg hs] at h
    cases h

end Go.Proofs.YtcpbalnbgmjhjaaDoor.E
