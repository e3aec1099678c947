-- Printed by hprint.py (this session's program over the kit's print) out of the translation; the parts 'by hand' are the session's own.
import Derived.Test.YtpmiaaphmgoapaaHx0
namespace Go.Proofs.Ytpmiaaphmgoapaa.H
open Go.RowKit Go.Proofs.YtpmiaaphmgoapaaW.PrintWords Go.Proofs.YtpmiaaphmgoapaaW.PrintLast Go.Proofs.YtpmiaaphmgoapaaW.PrintMore
attribute [local go_sem] max2_int min2_int max_two min_two max_three min_three max_four min_four   -- for this text's walks alone
set_option linter.unusedVariables false
set_option linter.unusedSimpArgs false

/-! ### mark_right: function 29 -/
def mark_right.f (a0_0 : Int) (l0_1 : List ByteArray) (a0_2 : Int) (a1 : Int) : Option (Bool) := if a0_0 = 1 then (if (l0_1.length : Int) = 1 then (if 0 < (l0_1.length : Int) then (if (rdOf ByteArray.empty l0_1 0).toList = ([] : List UInt8) then (some false) else (if a0_2 = 0 then (some (a1 != 1)) else (some false))) else (none)) else (some false)) else (if a0_0 = 4 then (if (l0_1.length : Int) = 1 then (if 0 < (l0_1.length : Int) then (if (rdOf ByteArray.empty l0_1 0).toList = ([] : List UInt8) then (some false) else (some (a0_2 == 0))) else (none)) else (some false)) else (if a0_0 = 2 then (if (l0_1.length : Int) = 0 then (if a0_2 ≥ 1 then (some (decide (a0_2 ≤ 99))) else (some false)) else (some false)) else (if a0_0 = 3 then (if (l0_1.length : Int) ≥ 2 then (if (l0_1.length : Int) ≤ 4 then (some (a0_2 == 0)) else (some false)) else (some false)) else (some false))))
set_option maxHeartbeats 8000000 in
set_option maxRecDepth 100000 in
theorem mark_right.calls (a0_0 : Int) (A0_1 : Option Addr) (c0_1 : Nat) (l0_1 : List ByteArray) (a0_2 : Int) (a1 : Int) (r : Bool) (w : World) (hr0_1 : Kd.C Kd.string w A0_1 l0_1.length l0_1) (hc0_1 : l0_1.length ≤ c0_1) (h : mark_right.f a0_0 l0_1 a0_2 a1 = some r) :
    Calls Try.prog 29 #[.agg #[.int .i64 a0_0, .slice A0_1 l0_1.length c0_1, .int .i64 a0_2], .int .i64 a1] w fun e w' => e = .returned (.bool r) ∧ Below w.heap.size w w' := by
  have hu37 := Try.underlying37
  have HR0_1 := Aside0.mk hr0_1
  have HC0_1 := Aside0.mk hc0_1
  clear hr0_1 hc0_1
  have HB := Aside0.mk (Below.refl w.heap.size w)
  have H : (if a0_0 = 1 then (if (l0_1.length : Int) = 1 then (if 0 < (l0_1.length : Int) then (if (rdOf ByteArray.empty l0_1 0).toList = ([] : List UInt8) then (some false) else (if a0_2 = 0 then (some (a1 != 1)) else (some false))) else (none)) else (some false)) else (if a0_0 = 4 then (if (l0_1.length : Int) = 1 then (if 0 < (l0_1.length : Int) then (if (rdOf ByteArray.empty l0_1 0).toList = ([] : List UInt8) then (some false) else (some (a0_2 == 0))) else (none)) else (some false)) else (if a0_0 = 2 then (if (l0_1.length : Int) = 0 then (if a0_2 ≥ 1 then (some (decide (a0_2 ≤ 99))) else (some false)) else (some false)) else (if a0_0 = 3 then (if (l0_1.length : Int) ≥ 2 then (if (l0_1.length : Int) ≤ 4 then (some (a0_2 == 0)) else (some false)) else (some false)) else (some false))))) = some r := h
  clear h
  by_cases c3 : a0_0 = 1
  · rw [if_pos c3] at H
    have c3b0 : (a0_0 == 1) = true := beq_iff_eq.mpr c3
    have c3b1 : (a0_0 != 1) = false := bne_eq_false_iff_eq.mpr c3
    clear c3
    by_cases c4 : (l0_1.length : Int) = 1
    · rw [if_pos c4] at H
      have c4b0 : ((l0_1.length : Int) == 1) = true := beq_iff_eq.mpr c4
      have c4b1 : ((l0_1.length : Int) != 1) = false := bne_eq_false_iff_eq.mpr c4
      clear c4
      by_cases c5 : 0 < (l0_1.length : Int)
      · rw [if_pos c5] at H
        have c5b0 : decide (0 < (l0_1.length : Int)) = true := decide_eq_true c5
        have c5b1 : decide (0 < l0_1.length) = true := decide_eq_true (by omega)
        clear c5
        by_cases c6 : (rdOf ByteArray.empty l0_1 0).toList = ([] : List UInt8)
        · rw [if_pos c6] at H
          have c6b0 : ((rdOf ByteArray.empty l0_1 0).toList == ([] : List UInt8)) = true := beq_iff_eq.mpr c6
          have c6b1 : ((rdOf ByteArray.empty l0_1 0).toList != ([] : List UInt8)) = false := bne_eq_false_iff_eq.mpr c6
          clear c6
          obtain rfl := Option.some.inj H
          go_enter Try.func29, Try.ntmps29
          go_wp2_with (first | ((with_reducible refine gate_dst (N := 2) rfl ?_); refine box_event ?hg (N := 2) ?hd (cs := #[.int .i64 a0_0, .slice A0_1 l0_1.length c0_1, .int .i64 a0_2]) (t := 37) ?hr ?_; (case hd => rfl); (case hg => rfl); (case hr => first | (go_simp; done) | (go_simp; rfl)); intro gb29101 hg w7 hbox hb; have n0_ := Aside0.mk (below_step (by repeat (first | (with_reducible first | exact HB.out | apply below_alloc | apply pw_below_drewN | apply below_drew1) | exact HB.out)) hb); have n1_ := Aside0.mk (hbox); have n2_ := Aside0.mk ((by rw [hg]; exact (below_size (by repeat (first | (with_reducible first | exact HB.out | apply below_alloc | apply pw_below_drewN | apply below_drew1) | exact HB.out))) : w.heap.size ≤ gb29101)); have n3_ := Aside0.mk ((by rw [hg]; exact (below_size (by repeat (first | (with_reducible first | exact HB.out | apply below_alloc | apply pw_below_drewN | apply below_drew1) | exact HB.out))) : w.heap.size ≤ gb29101)); clear HB; have HB := n0_; have BK29101 := n1_; have GW29101 := n2_; have GE29101 := n3_; clear n0_ n1_ n2_ n3_; clear hb hbox hg; have hcz8_0 : w7.cell? ⟨gb29101, 0, none⟩ = some (.int .i64 a0_0) := (blk_cell BK29101.out 0).trans rfl; have hcz8_1 : w7.cell? ⟨gb29101, 1, none⟩ = some (.slice A0_1 l0_1.length c0_1) := (blk_cell BK29101.out 1).trans rfl; have hcz8_2 : w7.cell? ⟨gb29101, 2, none⟩ = some (.int .i64 a0_2) := (blk_cell BK29101.out 2).trans rfl; have hfz8_0 := blk_frozen BK29101.out 0; have hfz8_1 := blk_frozen BK29101.out 1; have hfz8_2 := blk_frozen BK29101.out 2; have p29102 : 0 ≤ (0 : Int) := (by omega); have q29102 : 0 < (l0_1.length : Int) := of_decide_eq_true (by first | (with_reducible assumption) | assumption); obtain ⟨ad29102, e29102, hx29102_0⟩ := Kd.at_string HR0_1.out 0 p29102 q29102; cases e29102; have qi29102 : (0 < l0_1.length) = True := eq_true (by omega); (try rw [show ((0 : Int)).toNat = 0 from rfl] at hx29102_0); (try rw [Addr.add_zero'] at hx29102_0); replace hx29102_0 := (HB.out.cell (World.block_lt_of_cell? w _ hx29102_0)).trans hx29102_0; replace p29102 := eq_true p29102; replace q29102 := eq_true q29102))
          go_ret
          exact ⟨by first | rfl | (simp [errW_none, errW_some] <;> rfl) | (simp [*, errW_none, errW_some] <;> rfl), by repeat (first | (with_reducible first | exact HB.out | apply below_alloc | apply pw_below_drewN | apply below_drew1 | refine below_set ?_ GE29101.out) | exact HB.out)⟩
        · rw [if_neg c6] at H
          have c6b0 : ((rdOf ByteArray.empty l0_1 0).toList == ([] : List UInt8)) = false := beq_eq_false_iff_ne.mpr c6
          have c6b1 : ((rdOf ByteArray.empty l0_1 0).toList != ([] : List UInt8)) = true := bne_iff_ne.mpr c6
          by_cases c9 : a0_2 = 0
          · rw [if_pos c9] at H
            have c9b0 : (a0_2 == 0) = true := beq_iff_eq.mpr c9
            have c9b1 : (a0_2 != 0) = false := bne_eq_false_iff_eq.mpr c9
            clear c9
            obtain rfl := Option.some.inj H
            go_enter Try.func29, Try.ntmps29
            go_wp2_with (first | ((with_reducible refine gate_dst (N := 2) rfl ?_); refine box_event ?hg (N := 2) ?hd (cs := #[.int .i64 a0_0, .slice A0_1 l0_1.length c0_1, .int .i64 a0_2]) (t := 37) ?hr ?_; (case hd => rfl); (case hg => rfl); (case hr => first | (go_simp; done) | (go_simp; rfl)); intro gb29101 hg w10 hbox hb; have n0_ := Aside0.mk (below_step (by repeat (first | (with_reducible first | exact HB.out | apply below_alloc | apply pw_below_drewN | apply below_drew1) | exact HB.out)) hb); have n1_ := Aside0.mk (hbox); have n2_ := Aside0.mk ((by rw [hg]; exact (below_size (by repeat (first | (with_reducible first | exact HB.out | apply below_alloc | apply pw_below_drewN | apply below_drew1) | exact HB.out))) : w.heap.size ≤ gb29101)); have n3_ := Aside0.mk ((by rw [hg]; exact (below_size (by repeat (first | (with_reducible first | exact HB.out | apply below_alloc | apply pw_below_drewN | apply below_drew1) | exact HB.out))) : w.heap.size ≤ gb29101)); clear HB; have HB := n0_; have BK29101 := n1_; have GW29101 := n2_; have GE29101 := n3_; clear n0_ n1_ n2_ n3_; clear hb hbox hg; have hcz11_0 : w10.cell? ⟨gb29101, 0, none⟩ = some (.int .i64 a0_0) := (blk_cell BK29101.out 0).trans rfl; have hcz11_1 : w10.cell? ⟨gb29101, 1, none⟩ = some (.slice A0_1 l0_1.length c0_1) := (blk_cell BK29101.out 1).trans rfl; have hcz11_2 : w10.cell? ⟨gb29101, 2, none⟩ = some (.int .i64 a0_2) := (blk_cell BK29101.out 2).trans rfl; have hfz11_0 := blk_frozen BK29101.out 0; have hfz11_1 := blk_frozen BK29101.out 1; have hfz11_2 := blk_frozen BK29101.out 2; have p29102 : 0 ≤ (0 : Int) := (by omega); have q29102 : 0 < (l0_1.length : Int) := of_decide_eq_true (by first | (with_reducible assumption) | assumption); obtain ⟨ad29102, e29102, hx29102_0⟩ := Kd.at_string HR0_1.out 0 p29102 q29102; cases e29102; have qi29102 : (0 < l0_1.length) = True := eq_true (by omega); (try rw [show ((0 : Int)).toNat = 0 from rfl] at hx29102_0); (try rw [Addr.add_zero'] at hx29102_0); replace hx29102_0 := (HB.out.cell (World.block_lt_of_cell? w _ hx29102_0)).trans hx29102_0; replace p29102 := eq_true p29102; replace q29102 := eq_true q29102))
            go_ret
            exact ⟨by first | rfl | (simp [errW_none, errW_some] <;> rfl) | (simp [*, errW_none, errW_some] <;> rfl), by repeat (first | (with_reducible first | exact HB.out | apply below_alloc | apply pw_below_drewN | apply below_drew1 | refine below_set ?_ GE29101.out) | exact HB.out)⟩
          · rw [if_neg c9] at H
            have c9b0 : (a0_2 == 0) = false := beq_eq_false_iff_ne.mpr c9
            have c9b1 : (a0_2 != 0) = true := bne_iff_ne.mpr c9
            obtain rfl := Option.some.inj H
            go_enter Try.func29, Try.ntmps29
            go_wp2_with (first | ((with_reducible refine gate_dst (N := 2) rfl ?_); refine box_event ?hg (N := 2) ?hd (cs := #[.int .i64 a0_0, .slice A0_1 l0_1.length c0_1, .int .i64 a0_2]) (t := 37) ?hr ?_; (case hd => rfl); (case hg => rfl); (case hr => first | (go_simp; done) | (go_simp; rfl)); intro gb29101 hg w12 hbox hb; have n0_ := Aside0.mk (below_step (by repeat (first | (with_reducible first | exact HB.out | apply below_alloc | apply pw_below_drewN | apply below_drew1) | exact HB.out)) hb); have n1_ := Aside0.mk (hbox); have n2_ := Aside0.mk ((by rw [hg]; exact (below_size (by repeat (first | (with_reducible first | exact HB.out | apply below_alloc | apply pw_below_drewN | apply below_drew1) | exact HB.out))) : w.heap.size ≤ gb29101)); have n3_ := Aside0.mk ((by rw [hg]; exact (below_size (by repeat (first | (with_reducible first | exact HB.out | apply below_alloc | apply pw_below_drewN | apply below_drew1) | exact HB.out))) : w.heap.size ≤ gb29101)); clear HB; have HB := n0_; have BK29101 := n1_; have GW29101 := n2_; have GE29101 := n3_; clear n0_ n1_ n2_ n3_; clear hb hbox hg; have hcz13_0 : w12.cell? ⟨gb29101, 0, none⟩ = some (.int .i64 a0_0) := (blk_cell BK29101.out 0).trans rfl; have hcz13_1 : w12.cell? ⟨gb29101, 1, none⟩ = some (.slice A0_1 l0_1.length c0_1) := (blk_cell BK29101.out 1).trans rfl; have hcz13_2 : w12.cell? ⟨gb29101, 2, none⟩ = some (.int .i64 a0_2) := (blk_cell BK29101.out 2).trans rfl; have hfz13_0 := blk_frozen BK29101.out 0; have hfz13_1 := blk_frozen BK29101.out 1; have hfz13_2 := blk_frozen BK29101.out 2; have p29102 : 0 ≤ (0 : Int) := (by omega); have q29102 : 0 < (l0_1.length : Int) := of_decide_eq_true (by first | (with_reducible assumption) | assumption); obtain ⟨ad29102, e29102, hx29102_0⟩ := Kd.at_string HR0_1.out 0 p29102 q29102; cases e29102; have qi29102 : (0 < l0_1.length) = True := eq_true (by omega); (try rw [show ((0 : Int)).toNat = 0 from rfl] at hx29102_0); (try rw [Addr.add_zero'] at hx29102_0); replace hx29102_0 := (HB.out.cell (World.block_lt_of_cell? w _ hx29102_0)).trans hx29102_0; replace p29102 := eq_true p29102; replace q29102 := eq_true q29102))
            go_ret
            exact ⟨by first | rfl | (simp [errW_none, errW_some] <;> rfl) | (simp [*, errW_none, errW_some] <;> rfl), by repeat (first | (with_reducible first | exact HB.out | apply below_alloc | apply pw_below_drewN | apply below_drew1 | refine below_set ?_ GE29101.out) | exact HB.out)⟩
      · rw [if_neg c5] at H
        exact absurd H (by simp)
    · rw [if_neg c4] at H
      have c4b0 : ((l0_1.length : Int) == 1) = false := beq_eq_false_iff_ne.mpr c4
      have c4b1 : ((l0_1.length : Int) != 1) = true := bne_iff_ne.mpr c4
      obtain rfl := Option.some.inj H
      go_enter Try.func29, Try.ntmps29
      go_wp2_with (first | ((with_reducible refine gate_dst (N := 2) rfl ?_); refine box_event ?hg (N := 2) ?hd (cs := #[.int .i64 a0_0, .slice A0_1 l0_1.length c0_1, .int .i64 a0_2]) (t := 37) ?hr ?_; (case hd => rfl); (case hg => rfl); (case hr => first | (go_simp; done) | (go_simp; rfl)); intro gb29101 hg w14 hbox hb; have n0_ := Aside0.mk (below_step (by repeat (first | (with_reducible first | exact HB.out | apply below_alloc | apply pw_below_drewN | apply below_drew1) | exact HB.out)) hb); have n1_ := Aside0.mk (hbox); have n2_ := Aside0.mk ((by rw [hg]; exact (below_size (by repeat (first | (with_reducible first | exact HB.out | apply below_alloc | apply pw_below_drewN | apply below_drew1) | exact HB.out))) : w.heap.size ≤ gb29101)); have n3_ := Aside0.mk ((by rw [hg]; exact (below_size (by repeat (first | (with_reducible first | exact HB.out | apply below_alloc | apply pw_below_drewN | apply below_drew1) | exact HB.out))) : w.heap.size ≤ gb29101)); clear HB; have HB := n0_; have BK29101 := n1_; have GW29101 := n2_; have GE29101 := n3_; clear n0_ n1_ n2_ n3_; clear hb hbox hg; have hcz15_0 : w14.cell? ⟨gb29101, 0, none⟩ = some (.int .i64 a0_0) := (blk_cell BK29101.out 0).trans rfl; have hcz15_1 : w14.cell? ⟨gb29101, 1, none⟩ = some (.slice A0_1 l0_1.length c0_1) := (blk_cell BK29101.out 1).trans rfl; have hcz15_2 : w14.cell? ⟨gb29101, 2, none⟩ = some (.int .i64 a0_2) := (blk_cell BK29101.out 2).trans rfl; have hfz15_0 := blk_frozen BK29101.out 0; have hfz15_1 := blk_frozen BK29101.out 1; have hfz15_2 := blk_frozen BK29101.out 2))
      go_ret
      exact ⟨by first | rfl | (simp [errW_none, errW_some] <;> rfl) | (simp [*, errW_none, errW_some] <;> rfl), by repeat (first | (with_reducible first | exact HB.out | apply below_alloc | apply pw_below_drewN | apply below_drew1 | refine below_set ?_ GE29101.out) | exact HB.out)⟩
  · rw [if_neg c3] at H
    have c3b0 : (a0_0 == 1) = false := beq_eq_false_iff_ne.mpr c3
    have c3b1 : (a0_0 != 1) = true := bne_iff_ne.mpr c3
    by_cases c16 : a0_0 = 4
    · rw [if_pos c16] at H
      have c16b0 : (a0_0 == 4) = true := beq_iff_eq.mpr c16
      have c16b1 : (a0_0 != 4) = false := bne_eq_false_iff_eq.mpr c16
      clear c16
      by_cases c17 : (l0_1.length : Int) = 1
      · rw [if_pos c17] at H
        have c17b0 : ((l0_1.length : Int) == 1) = true := beq_iff_eq.mpr c17
        have c17b1 : ((l0_1.length : Int) != 1) = false := bne_eq_false_iff_eq.mpr c17
        clear c17
        by_cases c18 : 0 < (l0_1.length : Int)
        · rw [if_pos c18] at H
          have c18b0 : decide (0 < (l0_1.length : Int)) = true := decide_eq_true c18
          have c18b1 : decide (0 < l0_1.length) = true := decide_eq_true (by omega)
          clear c18
          by_cases c19 : (rdOf ByteArray.empty l0_1 0).toList = ([] : List UInt8)
          · rw [if_pos c19] at H
            have c19b0 : ((rdOf ByteArray.empty l0_1 0).toList == ([] : List UInt8)) = true := beq_iff_eq.mpr c19
            have c19b1 : ((rdOf ByteArray.empty l0_1 0).toList != ([] : List UInt8)) = false := bne_eq_false_iff_eq.mpr c19
            clear c19
            obtain rfl := Option.some.inj H
            go_enter Try.func29, Try.ntmps29
            go_wp2_with (first | ((with_reducible refine gate_dst (N := 2) rfl ?_); refine box_event ?hg (N := 2) ?hd (cs := #[.int .i64 a0_0, .slice A0_1 l0_1.length c0_1, .int .i64 a0_2]) (t := 37) ?hr ?_; (case hd => rfl); (case hg => rfl); (case hr => first | (go_simp; done) | (go_simp; rfl)); intro gb29101 hg w20 hbox hb; have n0_ := Aside0.mk (below_step (by repeat (first | (with_reducible first | exact HB.out | apply below_alloc | apply pw_below_drewN | apply below_drew1) | exact HB.out)) hb); have n1_ := Aside0.mk (hbox); have n2_ := Aside0.mk ((by rw [hg]; exact (below_size (by repeat (first | (with_reducible first | exact HB.out | apply below_alloc | apply pw_below_drewN | apply below_drew1) | exact HB.out))) : w.heap.size ≤ gb29101)); have n3_ := Aside0.mk ((by rw [hg]; exact (below_size (by repeat (first | (with_reducible first | exact HB.out | apply below_alloc | apply pw_below_drewN | apply below_drew1) | exact HB.out))) : w.heap.size ≤ gb29101)); clear HB; have HB := n0_; have BK29101 := n1_; have GW29101 := n2_; have GE29101 := n3_; clear n0_ n1_ n2_ n3_; clear hb hbox hg; have hcz21_0 : w20.cell? ⟨gb29101, 0, none⟩ = some (.int .i64 a0_0) := (blk_cell BK29101.out 0).trans rfl; have hcz21_1 : w20.cell? ⟨gb29101, 1, none⟩ = some (.slice A0_1 l0_1.length c0_1) := (blk_cell BK29101.out 1).trans rfl; have hcz21_2 : w20.cell? ⟨gb29101, 2, none⟩ = some (.int .i64 a0_2) := (blk_cell BK29101.out 2).trans rfl; have hfz21_0 := blk_frozen BK29101.out 0; have hfz21_1 := blk_frozen BK29101.out 1; have hfz21_2 := blk_frozen BK29101.out 2; have p29103 : 0 ≤ (0 : Int) := (by omega); have q29103 : 0 < (l0_1.length : Int) := of_decide_eq_true (by first | (with_reducible assumption) | assumption); obtain ⟨ad29103, e29103, hx29103_0⟩ := Kd.at_string HR0_1.out 0 p29103 q29103; cases e29103; have qi29103 : (0 < l0_1.length) = True := eq_true (by omega); (try rw [show ((0 : Int)).toNat = 0 from rfl] at hx29103_0); (try rw [Addr.add_zero'] at hx29103_0); replace hx29103_0 := (HB.out.cell (World.block_lt_of_cell? w _ hx29103_0)).trans hx29103_0; replace p29103 := eq_true p29103; replace q29103 := eq_true q29103))
            go_ret
            exact ⟨by first | rfl | (simp [errW_none, errW_some] <;> rfl) | (simp [*, errW_none, errW_some] <;> rfl), by repeat (first | (with_reducible first | exact HB.out | apply below_alloc | apply pw_below_drewN | apply below_drew1 | refine below_set ?_ GE29101.out) | exact HB.out)⟩
          · rw [if_neg c19] at H
            have c19b0 : ((rdOf ByteArray.empty l0_1 0).toList == ([] : List UInt8)) = false := beq_eq_false_iff_ne.mpr c19
            have c19b1 : ((rdOf ByteArray.empty l0_1 0).toList != ([] : List UInt8)) = true := bne_iff_ne.mpr c19
            obtain rfl := Option.some.inj H
            go_enter Try.func29, Try.ntmps29
            go_wp2_with (first | ((with_reducible refine gate_dst (N := 2) rfl ?_); refine box_event ?hg (N := 2) ?hd (cs := #[.int .i64 a0_0, .slice A0_1 l0_1.length c0_1, .int .i64 a0_2]) (t := 37) ?hr ?_; (case hd => rfl); (case hg => rfl); (case hr => first | (go_simp; done) | (go_simp; rfl)); intro gb29101 hg w22 hbox hb; have n0_ := Aside0.mk (below_step (by repeat (first | (with_reducible first | exact HB.out | apply below_alloc | apply pw_below_drewN | apply below_drew1) | exact HB.out)) hb); have n1_ := Aside0.mk (hbox); have n2_ := Aside0.mk ((by rw [hg]; exact (below_size (by repeat (first | (with_reducible first | exact HB.out | apply below_alloc | apply pw_below_drewN | apply below_drew1) | exact HB.out))) : w.heap.size ≤ gb29101)); have n3_ := Aside0.mk ((by rw [hg]; exact (below_size (by repeat (first | (with_reducible first | exact HB.out | apply below_alloc | apply pw_below_drewN | apply below_drew1) | exact HB.out))) : w.heap.size ≤ gb29101)); clear HB; have HB := n0_; have BK29101 := n1_; have GW29101 := n2_; have GE29101 := n3_; clear n0_ n1_ n2_ n3_; clear hb hbox hg; have hcz23_0 : w22.cell? ⟨gb29101, 0, none⟩ = some (.int .i64 a0_0) := (blk_cell BK29101.out 0).trans rfl; have hcz23_1 : w22.cell? ⟨gb29101, 1, none⟩ = some (.slice A0_1 l0_1.length c0_1) := (blk_cell BK29101.out 1).trans rfl; have hcz23_2 : w22.cell? ⟨gb29101, 2, none⟩ = some (.int .i64 a0_2) := (blk_cell BK29101.out 2).trans rfl; have hfz23_0 := blk_frozen BK29101.out 0; have hfz23_1 := blk_frozen BK29101.out 1; have hfz23_2 := blk_frozen BK29101.out 2; have p29103 : 0 ≤ (0 : Int) := (by omega); have q29103 : 0 < (l0_1.length : Int) := of_decide_eq_true (by first | (with_reducible assumption) | assumption); obtain ⟨ad29103, e29103, hx29103_0⟩ := Kd.at_string HR0_1.out 0 p29103 q29103; cases e29103; have qi29103 : (0 < l0_1.length) = True := eq_true (by omega); (try rw [show ((0 : Int)).toNat = 0 from rfl] at hx29103_0); (try rw [Addr.add_zero'] at hx29103_0); replace hx29103_0 := (HB.out.cell (World.block_lt_of_cell? w _ hx29103_0)).trans hx29103_0; replace p29103 := eq_true p29103; replace q29103 := eq_true q29103))
            go_ret
            exact ⟨by first | rfl | (simp [errW_none, errW_some] <;> rfl) | (simp [*, errW_none, errW_some] <;> rfl), by repeat (first | (with_reducible first | exact HB.out | apply below_alloc | apply pw_below_drewN | apply below_drew1 | refine below_set ?_ GE29101.out) | exact HB.out)⟩
        · rw [if_neg c18] at H
          exact absurd H (by simp)
      · rw [if_neg c17] at H
        have c17b0 : ((l0_1.length : Int) == 1) = false := beq_eq_false_iff_ne.mpr c17
        have c17b1 : ((l0_1.length : Int) != 1) = true := bne_iff_ne.mpr c17
        obtain rfl := Option.some.inj H
        go_enter Try.func29, Try.ntmps29
        go_wp2_with (first | ((with_reducible refine gate_dst (N := 2) rfl ?_); refine box_event ?hg (N := 2) ?hd (cs := #[.int .i64 a0_0, .slice A0_1 l0_1.length c0_1, .int .i64 a0_2]) (t := 37) ?hr ?_; (case hd => rfl); (case hg => rfl); (case hr => first | (go_simp; done) | (go_simp; rfl)); intro gb29101 hg w24 hbox hb; have n0_ := Aside0.mk (below_step (by repeat (first | (with_reducible first | exact HB.out | apply below_alloc | apply pw_below_drewN | apply below_drew1) | exact HB.out)) hb); have n1_ := Aside0.mk (hbox); have n2_ := Aside0.mk ((by rw [hg]; exact (below_size (by repeat (first | (with_reducible first | exact HB.out | apply below_alloc | apply pw_below_drewN | apply below_drew1) | exact HB.out))) : w.heap.size ≤ gb29101)); have n3_ := Aside0.mk ((by rw [hg]; exact (below_size (by repeat (first | (with_reducible first | exact HB.out | apply below_alloc | apply pw_below_drewN | apply below_drew1) | exact HB.out))) : w.heap.size ≤ gb29101)); clear HB; have HB := n0_; have BK29101 := n1_; have GW29101 := n2_; have GE29101 := n3_; clear n0_ n1_ n2_ n3_; clear hb hbox hg; have hcz25_0 : w24.cell? ⟨gb29101, 0, none⟩ = some (.int .i64 a0_0) := (blk_cell BK29101.out 0).trans rfl; have hcz25_1 : w24.cell? ⟨gb29101, 1, none⟩ = some (.slice A0_1 l0_1.length c0_1) := (blk_cell BK29101.out 1).trans rfl; have hcz25_2 : w24.cell? ⟨gb29101, 2, none⟩ = some (.int .i64 a0_2) := (blk_cell BK29101.out 2).trans rfl; have hfz25_0 := blk_frozen BK29101.out 0; have hfz25_1 := blk_frozen BK29101.out 1; have hfz25_2 := blk_frozen BK29101.out 2))
        go_ret
        exact ⟨by first | rfl | (simp [errW_none, errW_some] <;> rfl) | (simp [*, errW_none, errW_some] <;> rfl), by repeat (first | (with_reducible first | exact HB.out | apply below_alloc | apply pw_below_drewN | apply below_drew1 | refine below_set ?_ GE29101.out) | exact HB.out)⟩
    · rw [if_neg c16] at H
      have c16b0 : (a0_0 == 4) = false := beq_eq_false_iff_ne.mpr c16
      have c16b1 : (a0_0 != 4) = true := bne_iff_ne.mpr c16
      by_cases c26 : a0_0 = 2
      · rw [if_pos c26] at H
        have c26b0 : (a0_0 == 2) = true := beq_iff_eq.mpr c26
        have c26b1 : (a0_0 != 2) = false := bne_eq_false_iff_eq.mpr c26
        clear c26
        by_cases c27 : (l0_1.length : Int) = 0
        · rw [if_pos c27] at H
          have c27b0 : ((l0_1.length : Int) == 0) = true := beq_iff_eq.mpr c27
          have c27b1 : ((l0_1.length : Int) != 0) = false := bne_eq_false_iff_eq.mpr c27
          clear c27
          by_cases c28 : a0_2 ≥ 1
          · rw [if_pos c28] at H
            have c28b0 : decide (1 ≤ a0_2) = true := decide_eq_true c28
            clear c28
            obtain rfl := Option.some.inj H
            go_enter Try.func29, Try.ntmps29
            go_wp2_with (first | ((with_reducible refine gate_dst (N := 2) rfl ?_); refine box_event ?hg (N := 2) ?hd (cs := #[.int .i64 a0_0, .slice A0_1 l0_1.length c0_1, .int .i64 a0_2]) (t := 37) ?hr ?_; (case hd => rfl); (case hg => rfl); (case hr => first | (go_simp; done) | (go_simp; rfl)); intro gb29101 hg w29 hbox hb; have n0_ := Aside0.mk (below_step (by repeat (first | (with_reducible first | exact HB.out | apply below_alloc | apply pw_below_drewN | apply below_drew1) | exact HB.out)) hb); have n1_ := Aside0.mk (hbox); have n2_ := Aside0.mk ((by rw [hg]; exact (below_size (by repeat (first | (with_reducible first | exact HB.out | apply below_alloc | apply pw_below_drewN | apply below_drew1) | exact HB.out))) : w.heap.size ≤ gb29101)); have n3_ := Aside0.mk ((by rw [hg]; exact (below_size (by repeat (first | (with_reducible first | exact HB.out | apply below_alloc | apply pw_below_drewN | apply below_drew1) | exact HB.out))) : w.heap.size ≤ gb29101)); clear HB; have HB := n0_; have BK29101 := n1_; have GW29101 := n2_; have GE29101 := n3_; clear n0_ n1_ n2_ n3_; clear hb hbox hg; have hcz30_0 : w29.cell? ⟨gb29101, 0, none⟩ = some (.int .i64 a0_0) := (blk_cell BK29101.out 0).trans rfl; have hcz30_1 : w29.cell? ⟨gb29101, 1, none⟩ = some (.slice A0_1 l0_1.length c0_1) := (blk_cell BK29101.out 1).trans rfl; have hcz30_2 : w29.cell? ⟨gb29101, 2, none⟩ = some (.int .i64 a0_2) := (blk_cell BK29101.out 2).trans rfl; have hfz30_0 := blk_frozen BK29101.out 0; have hfz30_1 := blk_frozen BK29101.out 1; have hfz30_2 := blk_frozen BK29101.out 2))
            go_ret
            exact ⟨by first | rfl | (simp [errW_none, errW_some] <;> rfl) | (simp [*, errW_none, errW_some] <;> rfl), by repeat (first | (with_reducible first | exact HB.out | apply below_alloc | apply pw_below_drewN | apply below_drew1 | refine below_set ?_ GE29101.out) | exact HB.out)⟩
          · rw [if_neg c28] at H
            have c28b0 : decide (1 ≤ a0_2) = false := decide_eq_false c28
            clear c28
            obtain rfl := Option.some.inj H
            go_enter Try.func29, Try.ntmps29
            go_wp2_with (first | ((with_reducible refine gate_dst (N := 2) rfl ?_); refine box_event ?hg (N := 2) ?hd (cs := #[.int .i64 a0_0, .slice A0_1 l0_1.length c0_1, .int .i64 a0_2]) (t := 37) ?hr ?_; (case hd => rfl); (case hg => rfl); (case hr => first | (go_simp; done) | (go_simp; rfl)); intro gb29101 hg w31 hbox hb; have n0_ := Aside0.mk (below_step (by repeat (first | (with_reducible first | exact HB.out | apply below_alloc | apply pw_below_drewN | apply below_drew1) | exact HB.out)) hb); have n1_ := Aside0.mk (hbox); have n2_ := Aside0.mk ((by rw [hg]; exact (below_size (by repeat (first | (with_reducible first | exact HB.out | apply below_alloc | apply pw_below_drewN | apply below_drew1) | exact HB.out))) : w.heap.size ≤ gb29101)); have n3_ := Aside0.mk ((by rw [hg]; exact (below_size (by repeat (first | (with_reducible first | exact HB.out | apply below_alloc | apply pw_below_drewN | apply below_drew1) | exact HB.out))) : w.heap.size ≤ gb29101)); clear HB; have HB := n0_; have BK29101 := n1_; have GW29101 := n2_; have GE29101 := n3_; clear n0_ n1_ n2_ n3_; clear hb hbox hg; have hcz32_0 : w31.cell? ⟨gb29101, 0, none⟩ = some (.int .i64 a0_0) := (blk_cell BK29101.out 0).trans rfl; have hcz32_1 : w31.cell? ⟨gb29101, 1, none⟩ = some (.slice A0_1 l0_1.length c0_1) := (blk_cell BK29101.out 1).trans rfl; have hcz32_2 : w31.cell? ⟨gb29101, 2, none⟩ = some (.int .i64 a0_2) := (blk_cell BK29101.out 2).trans rfl; have hfz32_0 := blk_frozen BK29101.out 0; have hfz32_1 := blk_frozen BK29101.out 1; have hfz32_2 := blk_frozen BK29101.out 2))
            go_ret
            exact ⟨by first | rfl | (simp [errW_none, errW_some] <;> rfl) | (simp [*, errW_none, errW_some] <;> rfl), by repeat (first | (with_reducible first | exact HB.out | apply below_alloc | apply pw_below_drewN | apply below_drew1 | refine below_set ?_ GE29101.out) | exact HB.out)⟩
        · rw [if_neg c27] at H
          have c27b0 : ((l0_1.length : Int) == 0) = false := beq_eq_false_iff_ne.mpr c27
          have c27b1 : ((l0_1.length : Int) != 0) = true := bne_iff_ne.mpr c27
          have c27b2 : ¬ (l0_1 = []) := fun h_ => c27 (by rw [h_]; rfl)
          obtain rfl := Option.some.inj H
          go_enter Try.func29, Try.ntmps29
          go_wp2_with (first | ((with_reducible refine gate_dst (N := 2) rfl ?_); refine box_event ?hg (N := 2) ?hd (cs := #[.int .i64 a0_0, .slice A0_1 l0_1.length c0_1, .int .i64 a0_2]) (t := 37) ?hr ?_; (case hd => rfl); (case hg => rfl); (case hr => first | (go_simp; done) | (go_simp; rfl)); intro gb29101 hg w33 hbox hb; have n0_ := Aside0.mk (below_step (by repeat (first | (with_reducible first | exact HB.out | apply below_alloc | apply pw_below_drewN | apply below_drew1) | exact HB.out)) hb); have n1_ := Aside0.mk (hbox); have n2_ := Aside0.mk ((by rw [hg]; exact (below_size (by repeat (first | (with_reducible first | exact HB.out | apply below_alloc | apply pw_below_drewN | apply below_drew1) | exact HB.out))) : w.heap.size ≤ gb29101)); have n3_ := Aside0.mk ((by rw [hg]; exact (below_size (by repeat (first | (with_reducible first | exact HB.out | apply below_alloc | apply pw_below_drewN | apply below_drew1) | exact HB.out))) : w.heap.size ≤ gb29101)); clear HB; have HB := n0_; have BK29101 := n1_; have GW29101 := n2_; have GE29101 := n3_; clear n0_ n1_ n2_ n3_; clear hb hbox hg; have hcz34_0 : w33.cell? ⟨gb29101, 0, none⟩ = some (.int .i64 a0_0) := (blk_cell BK29101.out 0).trans rfl; have hcz34_1 : w33.cell? ⟨gb29101, 1, none⟩ = some (.slice A0_1 l0_1.length c0_1) := (blk_cell BK29101.out 1).trans rfl; have hcz34_2 : w33.cell? ⟨gb29101, 2, none⟩ = some (.int .i64 a0_2) := (blk_cell BK29101.out 2).trans rfl; have hfz34_0 := blk_frozen BK29101.out 0; have hfz34_1 := blk_frozen BK29101.out 1; have hfz34_2 := blk_frozen BK29101.out 2))
          go_ret
          exact ⟨by first | rfl | (simp [errW_none, errW_some] <;> rfl) | (simp [*, errW_none, errW_some] <;> rfl), by repeat (first | (with_reducible first | exact HB.out | apply below_alloc | apply pw_below_drewN | apply below_drew1 | refine below_set ?_ GE29101.out) | exact HB.out)⟩
      · rw [if_neg c26] at H
        have c26b0 : (a0_0 == 2) = false := beq_eq_false_iff_ne.mpr c26
        have c26b1 : (a0_0 != 2) = true := bne_iff_ne.mpr c26
        by_cases c35 : a0_0 = 3
        · rw [if_pos c35] at H
          have c35b0 : (a0_0 == 3) = true := beq_iff_eq.mpr c35
          have c35b1 : (a0_0 != 3) = false := bne_eq_false_iff_eq.mpr c35
          clear c35
          by_cases c36 : (l0_1.length : Int) ≥ 2
          · rw [if_pos c36] at H
            have c36b0 : decide (2 ≤ (l0_1.length : Int)) = true := decide_eq_true c36
            have c36b1 : decide (2 ≤ l0_1.length) = true := decide_eq_true (by omega)
            clear c36
            by_cases c37 : (l0_1.length : Int) ≤ 4
            · rw [if_pos c37] at H
              have c37b0 : decide ((l0_1.length : Int) ≤ 4) = true := decide_eq_true c37
              have c37b1 : decide (l0_1.length ≤ 4) = true := decide_eq_true (by omega)
              clear c37
              obtain rfl := Option.some.inj H
              go_enter Try.func29, Try.ntmps29
              go_wp2_with (first | ((with_reducible refine gate_dst (N := 2) rfl ?_); refine box_event ?hg (N := 2) ?hd (cs := #[.int .i64 a0_0, .slice A0_1 l0_1.length c0_1, .int .i64 a0_2]) (t := 37) ?hr ?_; (case hd => rfl); (case hg => rfl); (case hr => first | (go_simp; done) | (go_simp; rfl)); intro gb29101 hg w38 hbox hb; have n0_ := Aside0.mk (below_step (by repeat (first | (with_reducible first | exact HB.out | apply below_alloc | apply pw_below_drewN | apply below_drew1) | exact HB.out)) hb); have n1_ := Aside0.mk (hbox); have n2_ := Aside0.mk ((by rw [hg]; exact (below_size (by repeat (first | (with_reducible first | exact HB.out | apply below_alloc | apply pw_below_drewN | apply below_drew1) | exact HB.out))) : w.heap.size ≤ gb29101)); have n3_ := Aside0.mk ((by rw [hg]; exact (below_size (by repeat (first | (with_reducible first | exact HB.out | apply below_alloc | apply pw_below_drewN | apply below_drew1) | exact HB.out))) : w.heap.size ≤ gb29101)); clear HB; have HB := n0_; have BK29101 := n1_; have GW29101 := n2_; have GE29101 := n3_; clear n0_ n1_ n2_ n3_; clear hb hbox hg; have hcz39_0 : w38.cell? ⟨gb29101, 0, none⟩ = some (.int .i64 a0_0) := (blk_cell BK29101.out 0).trans rfl; have hcz39_1 : w38.cell? ⟨gb29101, 1, none⟩ = some (.slice A0_1 l0_1.length c0_1) := (blk_cell BK29101.out 1).trans rfl; have hcz39_2 : w38.cell? ⟨gb29101, 2, none⟩ = some (.int .i64 a0_2) := (blk_cell BK29101.out 2).trans rfl; have hfz39_0 := blk_frozen BK29101.out 0; have hfz39_1 := blk_frozen BK29101.out 1; have hfz39_2 := blk_frozen BK29101.out 2))
              go_ret
              exact ⟨by first | rfl | (simp [errW_none, errW_some] <;> rfl) | (simp [*, errW_none, errW_some] <;> rfl), by repeat (first | (with_reducible first | exact HB.out | apply below_alloc | apply pw_below_drewN | apply below_drew1 | refine below_set ?_ GE29101.out) | exact HB.out)⟩
            · rw [if_neg c37] at H
              have c37b0 : decide ((l0_1.length : Int) ≤ 4) = false := decide_eq_false c37
              have c37b1 : decide (l0_1.length ≤ 4) = false := decide_eq_false (by omega)
              clear c37
              obtain rfl := Option.some.inj H
              go_enter Try.func29, Try.ntmps29
              go_wp2_with (first | ((with_reducible refine gate_dst (N := 2) rfl ?_); refine box_event ?hg (N := 2) ?hd (cs := #[.int .i64 a0_0, .slice A0_1 l0_1.length c0_1, .int .i64 a0_2]) (t := 37) ?hr ?_; (case hd => rfl); (case hg => rfl); (case hr => first | (go_simp; done) | (go_simp; rfl)); intro gb29101 hg w40 hbox hb; have n0_ := Aside0.mk (below_step (by repeat (first | (with_reducible first | exact HB.out | apply below_alloc | apply pw_below_drewN | apply below_drew1) | exact HB.out)) hb); have n1_ := Aside0.mk (hbox); have n2_ := Aside0.mk ((by rw [hg]; exact (below_size (by repeat (first | (with_reducible first | exact HB.out | apply below_alloc | apply pw_below_drewN | apply below_drew1) | exact HB.out))) : w.heap.size ≤ gb29101)); have n3_ := Aside0.mk ((by rw [hg]; exact (below_size (by repeat (first | (with_reducible first | exact HB.out | apply below_alloc | apply pw_below_drewN | apply below_drew1) | exact HB.out))) : w.heap.size ≤ gb29101)); clear HB; have HB := n0_; have BK29101 := n1_; have GW29101 := n2_; have GE29101 := n3_; clear n0_ n1_ n2_ n3_; clear hb hbox hg; have hcz41_0 : w40.cell? ⟨gb29101, 0, none⟩ = some (.int .i64 a0_0) := (blk_cell BK29101.out 0).trans rfl; have hcz41_1 : w40.cell? ⟨gb29101, 1, none⟩ = some (.slice A0_1 l0_1.length c0_1) := (blk_cell BK29101.out 1).trans rfl; have hcz41_2 : w40.cell? ⟨gb29101, 2, none⟩ = some (.int .i64 a0_2) := (blk_cell BK29101.out 2).trans rfl; have hfz41_0 := blk_frozen BK29101.out 0; have hfz41_1 := blk_frozen BK29101.out 1; have hfz41_2 := blk_frozen BK29101.out 2))
              go_ret
              exact ⟨by first | rfl | (simp [errW_none, errW_some] <;> rfl) | (simp [*, errW_none, errW_some] <;> rfl), by repeat (first | (with_reducible first | exact HB.out | apply below_alloc | apply pw_below_drewN | apply below_drew1 | refine below_set ?_ GE29101.out) | exact HB.out)⟩
          · rw [if_neg c36] at H
            have c36b0 : decide (2 ≤ (l0_1.length : Int)) = false := decide_eq_false c36
            have c36b1 : decide (2 ≤ l0_1.length) = false := decide_eq_false (by omega)
            clear c36
            obtain rfl := Option.some.inj H
            go_enter Try.func29, Try.ntmps29
            go_wp2_with (first | ((with_reducible refine gate_dst (N := 2) rfl ?_); refine box_event ?hg (N := 2) ?hd (cs := #[.int .i64 a0_0, .slice A0_1 l0_1.length c0_1, .int .i64 a0_2]) (t := 37) ?hr ?_; (case hd => rfl); (case hg => rfl); (case hr => first | (go_simp; done) | (go_simp; rfl)); intro gb29101 hg w42 hbox hb; have n0_ := Aside0.mk (below_step (by repeat (first | (with_reducible first | exact HB.out | apply below_alloc | apply pw_below_drewN | apply below_drew1) | exact HB.out)) hb); have n1_ := Aside0.mk (hbox); have n2_ := Aside0.mk ((by rw [hg]; exact (below_size (by repeat (first | (with_reducible first | exact HB.out | apply below_alloc | apply pw_below_drewN | apply below_drew1) | exact HB.out))) : w.heap.size ≤ gb29101)); have n3_ := Aside0.mk ((by rw [hg]; exact (below_size (by repeat (first | (with_reducible first | exact HB.out | apply below_alloc | apply pw_below_drewN | apply below_drew1) | exact HB.out))) : w.heap.size ≤ gb29101)); clear HB; have HB := n0_; have BK29101 := n1_; have GW29101 := n2_; have GE29101 := n3_; clear n0_ n1_ n2_ n3_; clear hb hbox hg; have hcz43_0 : w42.cell? ⟨gb29101, 0, none⟩ = some (.int .i64 a0_0) := (blk_cell BK29101.out 0).trans rfl; have hcz43_1 : w42.cell? ⟨gb29101, 1, none⟩ = some (.slice A0_1 l0_1.length c0_1) := (blk_cell BK29101.out 1).trans rfl; have hcz43_2 : w42.cell? ⟨gb29101, 2, none⟩ = some (.int .i64 a0_2) := (blk_cell BK29101.out 2).trans rfl; have hfz43_0 := blk_frozen BK29101.out 0; have hfz43_1 := blk_frozen BK29101.out 1; have hfz43_2 := blk_frozen BK29101.out 2))
            go_ret
            exact ⟨by first | rfl | (simp [errW_none, errW_some] <;> rfl) | (simp [*, errW_none, errW_some] <;> rfl), by repeat (first | (with_reducible first | exact HB.out | apply below_alloc | apply pw_below_drewN | apply below_drew1 | refine below_set ?_ GE29101.out) | exact HB.out)⟩
        · rw [if_neg c35] at H
          have c35b0 : (a0_0 == 3) = false := beq_eq_false_iff_ne.mpr c35
          have c35b1 : (a0_0 != 3) = true := bne_iff_ne.mpr c35
          obtain rfl := Option.some.inj H
          go_enter Try.func29, Try.ntmps29
          go_wp2_with (first | ((with_reducible refine gate_dst (N := 2) rfl ?_); refine box_event ?hg (N := 2) ?hd (cs := #[.int .i64 a0_0, .slice A0_1 l0_1.length c0_1, .int .i64 a0_2]) (t := 37) ?hr ?_; (case hd => rfl); (case hg => rfl); (case hr => first | (go_simp; done) | (go_simp; rfl)); intro gb29101 hg w44 hbox hb; have n0_ := Aside0.mk (below_step (by repeat (first | (with_reducible first | exact HB.out | apply below_alloc | apply pw_below_drewN | apply below_drew1) | exact HB.out)) hb); have n1_ := Aside0.mk (hbox); have n2_ := Aside0.mk ((by rw [hg]; exact (below_size (by repeat (first | (with_reducible first | exact HB.out | apply below_alloc | apply pw_below_drewN | apply below_drew1) | exact HB.out))) : w.heap.size ≤ gb29101)); have n3_ := Aside0.mk ((by rw [hg]; exact (below_size (by repeat (first | (with_reducible first | exact HB.out | apply below_alloc | apply pw_below_drewN | apply below_drew1) | exact HB.out))) : w.heap.size ≤ gb29101)); clear HB; have HB := n0_; have BK29101 := n1_; have GW29101 := n2_; have GE29101 := n3_; clear n0_ n1_ n2_ n3_; clear hb hbox hg; have hcz45_0 : w44.cell? ⟨gb29101, 0, none⟩ = some (.int .i64 a0_0) := (blk_cell BK29101.out 0).trans rfl; have hcz45_1 : w44.cell? ⟨gb29101, 1, none⟩ = some (.slice A0_1 l0_1.length c0_1) := (blk_cell BK29101.out 1).trans rfl; have hcz45_2 : w44.cell? ⟨gb29101, 2, none⟩ = some (.int .i64 a0_2) := (blk_cell BK29101.out 2).trans rfl; have hfz45_0 := blk_frozen BK29101.out 0; have hfz45_1 := blk_frozen BK29101.out 1; have hfz45_2 := blk_frozen BK29101.out 2))
          go_ret
          exact ⟨by first | rfl | (simp [errW_none, errW_some] <;> rfl) | (simp [*, errW_none, errW_some] <;> rfl), by repeat (first | (with_reducible first | exact HB.out | apply below_alloc | apply pw_below_drewN | apply below_drew1 | refine below_set ?_ GE29101.out) | exact HB.out)⟩

end Go.Proofs.Ytpmiaaphmgoapaa.H
