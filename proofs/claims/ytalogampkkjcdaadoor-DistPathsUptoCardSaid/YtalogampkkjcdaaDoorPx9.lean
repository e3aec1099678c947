-- Printed by hprint.py (this session's program over the kit's print) out of the translation; the parts 'by hand' are the session's own.
import Derived.Test.YtalogampkkjcdaaDoorPx0
namespace Go.Proofs.YtalogampkkjcdaaDoor.P
open Go.RowKit Go.Proofs.YtalogampkkjcdaaDoorW.PrintWords Go.Proofs.YtalogampkkjcdaaDoorW.PrintLast Go.Proofs.YtalogampkkjcdaaDoorW.PrintMore
attribute [local go_sem] max2_int min2_int max_two min_two max_three min_three max_four min_four   -- for this text's walks alone
set_option linter.unusedVariables false
set_option linter.unusedSimpArgs false

/-! ### siglumref08_bytes: function 38 -/
def siglumref08_bytes.f (a0 : ByteArray) (a1_0 : Int) (a1_1 : Int) (a1_2 : Int) (a1_3 : Bool) (a1_4 : Int) : Option (ByteArray) := if 0 ≤ a1_0 then (if a1_0 ≤ (wrap64 (a1_0 + a1_1)) then (if (wrap64 (a1_0 + a1_1)) ≤ (a0.size : Int) then (some (a0.extract (a1_0 : Int).toNat ((wrap64 (a1_0 + a1_1)) : Int).toNat)) else (none)) else (none)) else (none)
set_option maxHeartbeats 8000000 in
set_option maxRecDepth 100000 in
theorem siglumref08_bytes.calls (a0 : ByteArray) (a1_0 : Int) (a1_1 : Int) (a1_2 : Int) (a1_3 : Bool) (a1_4 : Int) (r : ByteArray) (w : World) (h : siglumref08_bytes.f a0 a1_0 a1_1 a1_2 a1_3 a1_4 = some r) :
    Calls Tryd.prog 38 #[.string a0, .agg #[.int .i64 a1_0, .int .i64 a1_1, .int .i32 a1_2, .bool a1_3, .int .u8 a1_4]] w fun e w' => e = .returned (.string r) ∧ Below w.heap.size w w' := by
  have hu75 := Tryd.underlying75
  have HB := Aside0.mk (Below.refl w.heap.size w)
  have H : (if 0 ≤ a1_0 then (if a1_0 ≤ (wrap64 (a1_0 + a1_1)) then (if (wrap64 (a1_0 + a1_1)) ≤ (a0.size : Int) then (some (a0.extract (a1_0 : Int).toNat ((wrap64 (a1_0 + a1_1)) : Int).toNat)) else (none)) else (none)) else (none)) = some r := h
  clear h
  by_cases c3 : 0 ≤ a1_0
  · rw [if_pos c3] at H
    have c3b0 := eq_true c3
    have c3b1 : decide (0 ≤ a1_0) = true := decide_eq_true c3
    clear c3
    by_cases c4 : a1_0 ≤ (wrap64 (a1_0 + a1_1))
    · rw [if_pos c4] at H
      have c4b0 := eq_true c4
      have c4b1 : decide (a1_0 ≤ (wrap64 (a1_0 + a1_1))) = true := decide_eq_true c4
      by_cases c5 : (wrap64 (a1_0 + a1_1)) ≤ (a0.size : Int)
      · rw [if_pos c5] at H
        have c5b0 := eq_true c5
        have c5b1 : decide ((wrap64 (a1_0 + a1_1)) ≤ (a0.size : Int)) = true := decide_eq_true c5
        obtain rfl := Option.some.inj H
        go_enter Tryd.func38, Tryd.ntmps38
        go_wp2_with (first | ((with_reducible refine gate_dst (N := 3) rfl ?_); refine box_event ?hg (N := 3) ?hd (cs := #[.int .i64 a1_0, .int .i64 a1_1, .int .i32 a1_2, .bool a1_3, .int .u8 a1_4]) (t := 75) ?hr ?_; (case hd => rfl); (case hg => rfl); (case hr => first | (go_simp; done) | (go_simp; rfl)); intro gb218 hg w6 hbox hb; have n0_ := Aside0.mk (below_step (by repeat (first | (with_reducible first | exact HB.out | apply below_alloc | apply pw_below_drewN | apply below_drew1) | exact HB.out)) hb); have n1_ := Aside0.mk (hbox); have n2_ := Aside0.mk ((by rw [hg]; exact (below_size (by repeat (first | (with_reducible first | exact HB.out | apply below_alloc | apply pw_below_drewN | apply below_drew1) | exact HB.out))) : w.heap.size ≤ gb218)); have n3_ := Aside0.mk ((by rw [hg]; exact (below_size (by repeat (first | (with_reducible first | exact HB.out | apply below_alloc | apply pw_below_drewN | apply below_drew1) | exact HB.out))) : w.heap.size ≤ gb218)); clear HB; have HB := n0_; have BK218 := n1_; have GW218 := n2_; have GE218 := n3_; clear n0_ n1_ n2_ n3_; clear hb hbox hg; have hcz7_0 : w6.cell? ⟨gb218, 0, none⟩ = some (.int .i64 a1_0) := (blk_cell BK218.out 0).trans rfl; have hcz7_1 : w6.cell? ⟨gb218, 1, none⟩ = some (.int .i64 a1_1) := (blk_cell BK218.out 1).trans rfl; have hcz7_2 : w6.cell? ⟨gb218, 2, none⟩ = some (.int .i32 a1_2) := (blk_cell BK218.out 2).trans rfl; have hcz7_3 : w6.cell? ⟨gb218, 3, none⟩ = some (.bool a1_3) := (blk_cell BK218.out 3).trans rfl; have hcz7_4 : w6.cell? ⟨gb218, 4, none⟩ = some (.int .u8 a1_4) := (blk_cell BK218.out 4).trans rfl; have hfz7_0 := blk_frozen BK218.out 0; have hfz7_1 := blk_frozen BK218.out 1; have hfz7_2 := blk_frozen BK218.out 2; have hfz7_3 := blk_frozen BK218.out 3; have hfz7_4 := blk_frozen BK218.out 4))
        go_ret
        exact ⟨by first | rfl | (simp [errW_none, errW_some] <;> rfl) | (simp [*, errW_none, errW_some] <;> rfl), by repeat (first | (with_reducible first | exact HB.out | apply below_alloc | apply pw_below_drewN | apply below_drew1 | refine below_set ?_ GE218.out) | exact HB.out)⟩
      · rw [if_neg c5] at H
        exact absurd H (by simp)
    · rw [if_neg c4] at H
      exact absurd H (by simp)
  · rw [if_neg c3] at H
    exact absurd H (by simp)

end Go.Proofs.YtalogampkkjcdaaDoor.P
