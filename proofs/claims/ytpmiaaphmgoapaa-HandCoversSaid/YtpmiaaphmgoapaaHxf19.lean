-- Printed by hprint.py (this session's program over the kit's print) out of the translation; the parts 'by hand' are the session's own.
import Derived.Test.YtpmiaaphmgoapaaHx0
import Derived.Test.YtpmiaaphmgoapaaHxf26
namespace Go.Proofs.Ytpmiaaphmgoapaa.H
open Go.RowKit Go.Proofs.YtpmiaaphmgoapaaW.PrintWords Go.Proofs.YtpmiaaphmgoapaaW.PrintLast Go.Proofs.YtpmiaaphmgoapaaW.PrintMore
attribute [local go_sem] max2_int min2_int max_two min_two max_three min_three max_four min_four   -- for this text's walks alone
set_option linter.unusedVariables false
set_option linter.unusedSimpArgs false

/-! ### mark_Hands: function 19 -/
def mark_Hands.l0 : Nat → Int → List (S37) → Int → Int → Option (Int × Int)
  | 0, _, _, _, _ => none
  | k + 1, x5, x13, x14, x15 => if x15 < x14 then (if 0 ≤ x15 then (if x15 < (x13.length : Int) then (if ((rd_T37 x13 x15).f0) = 3 then (mark_Hands.l0 k (mx x5 (((rd_T37 x13 x15).f1).length : Int)) x13 x14 (wrap64 (x15 + 1))) else (mark_Hands.l0 k x5 x13 x14 (wrap64 (x15 + 1)))) else (none)) else (none)) else (some (x5, 0))
def mark_Hands.f (k : Nat) (l0 : List (S37)) : Option (Int × Int) := (mark_check.f k l0).bind fun t19101 => (if t19101 = 0 then (mark_Hands.l0 k 1 l0 (l0.length : Int) 0) else (some (0, t19101)))
theorem mark_Hands.mono_l : ∀ k, (∀ y0 y1 y2 y3, LeO (mark_Hands.l0 k y0 y1 y2 y3) (mark_Hands.l0 (k + 1) y0 y1 y2 y3))
  | 0 => fun _ _ _ _ r h => by simp [mark_Hands.l0] at h
  | k + 1 => by
    have ih0 := mark_Hands.mono_l k
    · intro y0 y1 y2 y3
      unfold mark_Hands.l0
      repeat' first
      | (with_reducible exact ih0 _ _ _ _)
      | (with_reducible exact mark_check.mono _ _)
      | (with_reducible exact LeO.refl _)
      | (with_reducible exact LeO.none _)
      | (with_reducible refine LeO.ite ?_ ?_)
      | (with_reducible refine LeO.bind ?_ (fun _ => ?_))
      | exact ih0 _ _ _ _
      | exact mark_check.mono _ _
      | exact LeO.none _
      | refine LeO.ite ?_ ?_
      | refine LeO.bind ?_ (fun _ => ?_)
theorem mark_Hands.mono : ∀ a0 k, LeO (mark_Hands.f k a0) (mark_Hands.f (k + 1) a0) := by
  intro a0 k
  have ih0 := mark_Hands.mono_l k
  unfold mark_Hands.f
  repeat' first
      | (with_reducible exact ih0 _ _ _ _)
      | (with_reducible exact mark_check.mono _ _)
      | (with_reducible exact LeO.refl _)
      | (with_reducible exact LeO.none _)
      | (with_reducible refine LeO.ite ?_ ?_)
      | (with_reducible refine LeO.bind ?_ (fun _ => ?_))
      | exact ih0 _ _ _ _
      | exact mark_check.mono _ _
      | exact LeO.none _
      | refine LeO.ite ?_ ?_
      | refine LeO.bind ?_ (fun _ => ?_)
set_option maxHeartbeats 8000000 in
set_option maxRecDepth 100000 in
theorem mark_Hands.calls (k : Nat) (A0 : Option Addr) (c0 : Nat) (l0 : List (S37)) (r1 : Int) (r2 : Int) (w : World) (hr0 : Kd.C k37 w A0 l0.length l0) (hc0 : l0.length ≤ c0) (h : mark_Hands.f k l0 = some (r1, r2)) :
    Calls Try.prog 19 #[.slice A0 l0.length c0] w fun e w' => e = .returned (.tuple #[.int .i64 r1, .int .i64 r2]) ∧ Below w.heap.size w w' := by
  have hu37 := Try.underlying37
  have HR0 := Aside0.mk hr0
  have HC0 := Aside0.mk hc0
  clear hr0 hc0
  have HB := Aside0.mk (Below.refl w.heap.size w)
  have H : ((mark_check.f k l0).bind fun t19101 => (if t19101 = 0 then (mark_Hands.l0 k 1 l0 (l0.length : Int) 0) else (some (0, t19101)))) = some (r1, r2) := h
  clear h
  replace H := Option.bind_eq_some_iff.mp H
  obtain ⟨t19101, A20, H⟩ := H
  replace H : (if t19101 = 0 then (mark_Hands.l0 k 1 l0 (l0.length : Int) 0) else (some (0, t19101))) = some (r1, r2) := H
  have A2 := Aside0.mk A20
  clear A20
  by_cases c3 : t19101 = 0
  · rw [if_pos c3] at H
    have c3b0 : (t19101 == 0) = true := beq_iff_eq.mpr c3
    have c3b1 : (t19101 != 0) = false := bne_eq_false_iff_eq.mpr c3
    clear c3
    have H' := Aside0.mk H
    clear H
    go_enter Try.func19, Try.ntmps19
    go_wp2_with (first | ((with_reducible refine gate_callee (f := 26) rfl ?_); refine goesL_ (some 9) rfl rfl Try.func26 (by kernel_rfl) rfl #[.slice A0 l0.length c0] rfl (by (try simp only [List.map_toArray, List.map_cons, List.map_nil]); first | done | rfl | (simp only [List.length_drop, List.length_take]; rfl)) ?_; (with_reducible refine (mark_check.calls k _ _ l0 t19101 _ ?side1 ?side2 A2.out).mono ?_); (case side1 => repeat (first | exact HR0.out | (with_reducible refine Kd.C_alloc ?_ _) | (with_reducible refine Kd.C_drewN ?_ _) | (with_reducible refine Kd.C_drew ?_))); (case side2 => exact HC0.out); rintro e w4 ⟨rfl, hb⟩; refine ⟨_, rfl, ?_⟩; have n0_ := Aside0.mk (below_step (by repeat (first | (with_reducible first | exact HB.out | apply below_alloc | apply pw_below_drewN | apply below_drew1) | exact HB.out)) hb); clear HB; have HB := n0_; clear n0_; (try clear hb); (try clear hb2); (try clear hk); (try clear hi)))
    go_loopg [5, 15] k (fun kq v5 v15 w' => ∃ (x5_1 : Int) (x15_1 : Int), v5 = .int .i64 x5_1 ∧ v15 = .int .i64 x15_1 ∧ Aside0 (mark_Hands.l0 kq x5_1 l0 (l0.length : Int) x15_1 = some (r1, r2)) ∧ Aside0 (kq ≤ k) ∧ Aside0 (Below w.heap.size w w'))
    case atStart => exact ⟨(1), (0), (by first | rfl | (simp; done) | (simp [*]; done)), (by first | rfl | (simp; done) | (simp [*]; done)), H', ⟨Nat.le_refl _⟩, ⟨by repeat (first | (with_reducible first | exact HB.out | apply below_alloc | apply pw_below_drewN | apply below_drew1) | exact HB.out)⟩⟩
    case round =>
      clear H'
      try clear c1
      try clear c2
      try clear p2
      try clear c3
      try clear c3b0
      try clear c3b1
      obtain ⟨x5_1, x15_1, rfl, rfl, HA, HK1, HB⟩ := hrel
      cases gk with
      | zero => exact absurd HA.out (by simp [mark_Hands.l0])
      | succ k1 =>
        have H := HA.out
        clear HA
        simp only [mark_Hands.l0] at H
        by_cases c5 : x15_1 < (l0.length : Int)
        · rw [if_pos c5] at H
          have c5b0 : decide (x15_1 < (l0.length : Int)) = true := decide_eq_true c5
          clear c5
          by_cases c6 : 0 ≤ x15_1
          · rw [if_pos c6] at H
            have c6b0 : decide (0 ≤ x15_1) = true := decide_eq_true c6
            clear c6
            by_cases c7 : x15_1 < (l0.length : Int)
            · rw [if_pos c7] at H
              have c7b0 : decide (x15_1 < (l0.length : Int)) = true := decide_eq_true c7
              clear c7
              by_cases c8 : ((rd_T37 l0 x15_1).f0) = 3
              · rw [if_pos c8] at H
                have c8b0 : (((rd_T37 l0 x15_1).f0) == 3) = true := beq_iff_eq.mpr c8
                have c8b1 : (((rd_T37 l0 x15_1).f0) != 3) = false := bne_eq_false_iff_eq.mpr c8
                clear c8
                obtain ⟨ji9, hji9⟩ : ∃ j_ : Int, (mx x5_1 (((rd_T37 l0 x15_1).f1).length : Int)) = j_ := ⟨_, rfl⟩
                replace H : (mark_Hands.l0 k1 ji9 l0 (l0.length : Int) (wrap64 (x15_1 + 1))) = some (r1, r2) := by first | (rw [hji9] at H; exact H) | (simp only [hji9] at H ⊢; exact H)
                have hji9_ : (if x5_1 < (((rd_T37 l0 x15_1).f1).length : Int) then (((rd_T37 l0 x15_1).f1).length : Int) else x5_1) = ji9 := hji9
                have H' := Aside0.mk H
                clear H
                have p19102 : 0 ≤ (x15_1 : Int) := of_decide_eq_true (by first | (with_reducible assumption) | assumption)
                have q19102 : x15_1 < (l0.length : Int) := of_decide_eq_true (by first | (with_reducible assumption) | assumption)
                obtain ⟨ad19102, A19102_1, c19102_1, e19102, hx19102_0, hx19102_1, hx19102_2, hl19102_1, hi19102_1⟩ := at_T37 HR0.out x15_1 p19102 q19102
                cases e19102
                replace hx19102_0 := (HB.out.cell (World.block_lt_of_cell? w _ hx19102_0)).trans hx19102_0
                replace hx19102_1 := (HB.out.cell (World.block_lt_of_cell? w _ hx19102_1)).trans hx19102_1
                replace hx19102_2 := (HB.out.cell (World.block_lt_of_cell? w _ hx19102_2)).trans hx19102_2
                have HR19102_1 := Aside0.mk hi19102_1
                have HC19102_1 := Aside0.mk hl19102_1
                clear hi19102_1 hl19102_1
                replace p19102 := eq_true p19102
                replace q19102 := eq_true q19102
                go_wp2_with (first | ((with_reducible refine gate_dst (N := 7) rfl ?_); refine box_event ?hg (N := 7) ?hd (cs := #[.int .i64 0, .slice none 0 0, .int .i64 0]) (t := 37) ?hr ?_; (case hd => rfl); (case hg => rfl); (case hr => first | (go_simp; done) | (go_simp; rfl)); intro gb19103 hg w10 hbox hb; have n0_ := Aside0.mk (below_step (by repeat (first | (with_reducible first | exact HB.out | apply below_alloc | apply pw_below_drewN | apply below_drew1) | exact HB.out)) hb); have n1_ := Aside0.mk (hbox); have n2_ := Aside0.mk ((by rw [hg]; exact (below_size (by repeat (first | (with_reducible first | exact HB.out | apply below_alloc | apply pw_below_drewN | apply below_drew1) | exact HB.out))) : w.heap.size ≤ gb19103)); have n3_ := Aside0.mk ((by rw [hg]; exact (below_size (by repeat (first | (with_reducible first | exact HB.out | apply below_alloc | apply pw_below_drewN | apply below_drew1) | exact HB.out))) : w.heap.size ≤ gb19103)); clear HB; have HB := n0_; have BK19103 := n1_; have GW19103 := n2_; have GE19103 := n3_; clear n0_ n1_ n2_ n3_; clear hb hbox hg; have hcz11_0 : w10.cell? ⟨gb19103, 0, none⟩ = some (.int .i64 0) := (blk_cell BK19103.out 0).trans rfl; have hcz11_1 : w10.cell? ⟨gb19103, 1, none⟩ = some (.slice none 0 0) := (blk_cell BK19103.out 1).trans rfl; have hcz11_2 : w10.cell? ⟨gb19103, 2, none⟩ = some (.int .i64 0) := (blk_cell BK19103.out 2).trans rfl; have hfz11_0 := blk_frozen BK19103.out 0; have hfz11_1 := blk_frozen BK19103.out 1; have hfz11_2 := blk_frozen BK19103.out 2))
                go_roundg k1
                case measure => have := HK1.out; omega
                case rel => exact ⟨(ji9), (wrap64 (x15_1 + 1)), (by first | rfl | (simp; done) | (simp only [← hji9] <;> (first | rfl | simp)) | (simp [*]; done)), (by first | rfl | (simp; done) | (simp [*]; done)), H', ⟨by have := HK1.out; omega⟩, ⟨by repeat (first | (with_reducible first | exact HB.out | apply below_alloc | apply pw_below_drewN | apply below_drew1 | refine below_set ?_ GE19103.out) | exact HB.out)⟩⟩
              · rw [if_neg c8] at H
                have c8b0 : (((rd_T37 l0 x15_1).f0) == 3) = false := beq_eq_false_iff_ne.mpr c8
                have c8b1 : (((rd_T37 l0 x15_1).f0) != 3) = true := bne_iff_ne.mpr c8
                have H' := Aside0.mk H
                clear H
                have p19102 : 0 ≤ (x15_1 : Int) := of_decide_eq_true (by first | (with_reducible assumption) | assumption)
                have q19102 : x15_1 < (l0.length : Int) := of_decide_eq_true (by first | (with_reducible assumption) | assumption)
                obtain ⟨ad19102, A19102_1, c19102_1, e19102, hx19102_0, hx19102_1, hx19102_2, hl19102_1, hi19102_1⟩ := at_T37 HR0.out x15_1 p19102 q19102
                cases e19102
                replace hx19102_0 := (HB.out.cell (World.block_lt_of_cell? w _ hx19102_0)).trans hx19102_0
                replace hx19102_1 := (HB.out.cell (World.block_lt_of_cell? w _ hx19102_1)).trans hx19102_1
                replace hx19102_2 := (HB.out.cell (World.block_lt_of_cell? w _ hx19102_2)).trans hx19102_2
                have HR19102_1 := Aside0.mk hi19102_1
                have HC19102_1 := Aside0.mk hl19102_1
                clear hi19102_1 hl19102_1
                replace p19102 := eq_true p19102
                replace q19102 := eq_true q19102
                go_wp2_with (first | ((with_reducible refine gate_dst (N := 7) rfl ?_); refine box_event ?hg (N := 7) ?hd (cs := #[.int .i64 0, .slice none 0 0, .int .i64 0]) (t := 37) ?hr ?_; (case hd => rfl); (case hg => rfl); (case hr => first | (go_simp; done) | (go_simp; rfl)); intro gb19103 hg w12 hbox hb; have n0_ := Aside0.mk (below_step (by repeat (first | (with_reducible first | exact HB.out | apply below_alloc | apply pw_below_drewN | apply below_drew1) | exact HB.out)) hb); have n1_ := Aside0.mk (hbox); have n2_ := Aside0.mk ((by rw [hg]; exact (below_size (by repeat (first | (with_reducible first | exact HB.out | apply below_alloc | apply pw_below_drewN | apply below_drew1) | exact HB.out))) : w.heap.size ≤ gb19103)); have n3_ := Aside0.mk ((by rw [hg]; exact (below_size (by repeat (first | (with_reducible first | exact HB.out | apply below_alloc | apply pw_below_drewN | apply below_drew1) | exact HB.out))) : w.heap.size ≤ gb19103)); clear HB; have HB := n0_; have BK19103 := n1_; have GW19103 := n2_; have GE19103 := n3_; clear n0_ n1_ n2_ n3_; clear hb hbox hg; have hcz13_0 : w12.cell? ⟨gb19103, 0, none⟩ = some (.int .i64 0) := (blk_cell BK19103.out 0).trans rfl; have hcz13_1 : w12.cell? ⟨gb19103, 1, none⟩ = some (.slice none 0 0) := (blk_cell BK19103.out 1).trans rfl; have hcz13_2 : w12.cell? ⟨gb19103, 2, none⟩ = some (.int .i64 0) := (blk_cell BK19103.out 2).trans rfl; have hfz13_0 := blk_frozen BK19103.out 0; have hfz13_1 := blk_frozen BK19103.out 1; have hfz13_2 := blk_frozen BK19103.out 2))
                go_roundg k1
                case measure => have := HK1.out; omega
                case rel => exact ⟨(x5_1), (wrap64 (x15_1 + 1)), (by first | rfl | (simp; done) | (simp [*]; done)), (by first | rfl | (simp; done) | (simp [*]; done)), H', ⟨by have := HK1.out; omega⟩, ⟨by repeat (first | (with_reducible first | exact HB.out | apply below_alloc | apply pw_below_drewN | apply below_drew1 | refine below_set ?_ GE19103.out) | exact HB.out)⟩⟩
            · rw [if_neg c7] at H
              exact absurd H (by simp)
          · rw [if_neg c6] at H
            exact absurd H (by simp)
        · rw [if_neg c5] at H
          have c5b0 : decide (x15_1 < (l0.length : Int)) = false := decide_eq_false c5
          clear c5
          simp only [Option.some.injEq, Prod.mk.injEq] at H
          obtain ⟨rfl, rfl⟩ := H
          go_wp2
          go_ret2
          exact ⟨by first | rfl | (simp [errW_none, errW_some] <;> rfl) | (simp [*, errW_none, errW_some] <;> rfl), by repeat (first | (with_reducible first | exact HB.out | apply below_alloc | apply pw_below_drewN | apply below_drew1) | exact HB.out)⟩
  · rw [if_neg c3] at H
    have c3b0 : (t19101 == 0) = false := beq_eq_false_iff_ne.mpr c3
    have c3b1 : (t19101 != 0) = true := bne_iff_ne.mpr c3
    simp only [Option.some.injEq, Prod.mk.injEq] at H
    obtain ⟨rfl, rfl⟩ := H
    go_enter Try.func19, Try.ntmps19
    go_wp2_with (first | ((with_reducible refine gate_callee (f := 26) rfl ?_); refine goesL_ (some 9) rfl rfl Try.func26 (by kernel_rfl) rfl #[.slice A0 l0.length c0] rfl (by (try simp only [List.map_toArray, List.map_cons, List.map_nil]); first | done | rfl | (simp only [List.length_drop, List.length_take]; rfl)) ?_; (with_reducible refine (mark_check.calls k _ _ l0 t19101 _ ?side1 ?side2 A2.out).mono ?_); (case side1 => repeat (first | exact HR0.out | (with_reducible refine Kd.C_alloc ?_ _) | (with_reducible refine Kd.C_drewN ?_ _) | (with_reducible refine Kd.C_drew ?_))); (case side2 => exact HC0.out); rintro e w14 ⟨rfl, hb⟩; refine ⟨_, rfl, ?_⟩; have n0_ := Aside0.mk (below_step (by repeat (first | (with_reducible first | exact HB.out | apply below_alloc | apply pw_below_drewN | apply below_drew1) | exact HB.out)) hb); clear HB; have HB := n0_; clear n0_; (try clear hb); (try clear hb2); (try clear hk); (try clear hi)))
    go_ret2
    exact ⟨by first | rfl | (simp [errW_none, errW_some] <;> rfl) | (simp [*, errW_none, errW_some] <;> rfl), by repeat (first | (with_reducible first | exact HB.out | apply below_alloc | apply pw_below_drewN | apply below_drew1) | exact HB.out)⟩

end Go.Proofs.Ytpmiaaphmgoapaa.H
