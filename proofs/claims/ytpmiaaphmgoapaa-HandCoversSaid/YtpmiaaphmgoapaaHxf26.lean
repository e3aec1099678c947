-- Printed by hprint.py (this session's program over the kit's print) out of the translation; the parts 'by hand' are the session's own.
import Derived.Test.YtpmiaaphmgoapaaHx0
import Derived.Test.YtpmiaaphmgoapaaHxf29
namespace Go.Proofs.Ytpmiaaphmgoapaa.H
open Go.RowKit Go.Proofs.YtpmiaaphmgoapaaW.PrintWords Go.Proofs.YtpmiaaphmgoapaaW.PrintLast Go.Proofs.YtpmiaaphmgoapaaW.PrintMore
attribute [local go_sem] max2_int min2_int max_two min_two max_three min_three max_four min_four   -- for this text's walks alone
set_option linter.unusedVariables false
set_option linter.unusedSimpArgs false

/-! ### mark_check: function 26 -/
def mark_check.l0 : Nat → Int → List (S37) → Int → Int → Option (Int)
  | 0, _, _, _, _ => none
  | k + 1, x3, x6, x7, x8 => if x8 < x7 then (if 0 ≤ x8 then (if x8 < (x6.length : Int) then ((mark_right.f ((rd_T37 x6 x8).f0) ((rd_T37 x6 x8).f1) ((rd_T37 x6 x8).f2) x3).bind fun t26103 => (if t26103 = true then (mark_check.l0 k ((rd_T37 x6 x8).f0) x6 x7 (wrap64 (x8 + 1))) else (some 51))) else (none)) else (none)) else (some 0)
def mark_check.f (k : Nat) (l0 : List (S37)) : Option (Int) := mark_check.l0 k 0 l0 (l0.length : Int) 0
theorem mark_check.mono_l : ∀ k, (∀ y0 y1 y2 y3, LeO (mark_check.l0 k y0 y1 y2 y3) (mark_check.l0 (k + 1) y0 y1 y2 y3))
  | 0 => fun _ _ _ _ r h => by simp [mark_check.l0] at h
  | k + 1 => by
    have ih0 := mark_check.mono_l k
    · intro y0 y1 y2 y3
      unfold mark_check.l0
      repeat' first
      | (with_reducible exact ih0 _ _ _ _)
      | (with_reducible exact LeO.refl _)
      | (with_reducible exact LeO.none _)
      | (with_reducible refine LeO.ite ?_ ?_)
      | (with_reducible refine LeO.bind ?_ (fun _ => ?_))
      | exact ih0 _ _ _ _
      | exact LeO.none _
      | refine LeO.ite ?_ ?_
      | refine LeO.bind ?_ (fun _ => ?_)
theorem mark_check.mono : ∀ a0 k, LeO (mark_check.f k a0) (mark_check.f (k + 1) a0) := by
  intro a0 k
  have ih0 := mark_check.mono_l k
  unfold mark_check.f
  repeat' first
      | (with_reducible exact ih0 _ _ _ _)
      | (with_reducible exact LeO.refl _)
      | (with_reducible exact LeO.none _)
      | (with_reducible refine LeO.ite ?_ ?_)
      | (with_reducible refine LeO.bind ?_ (fun _ => ?_))
      | exact ih0 _ _ _ _
      | exact LeO.none _
      | refine LeO.ite ?_ ?_
      | refine LeO.bind ?_ (fun _ => ?_)
set_option maxHeartbeats 8000000 in
set_option maxRecDepth 100000 in
theorem mark_check.calls (k : Nat) (A0 : Option Addr) (c0 : Nat) (l0 : List (S37)) (r : Int) (w : World) (hr0 : Kd.C k37 w A0 l0.length l0) (hc0 : l0.length ≤ c0) (h : mark_check.f k l0 = some r) :
    Calls Try.prog 26 #[.slice A0 l0.length c0] w fun e w' => e = .returned (.int .i64 r) ∧ Below w.heap.size w w' := by
  have hu37 := Try.underlying37
  have HR0 := Aside0.mk hr0
  have HC0 := Aside0.mk hc0
  clear hr0 hc0
  have HB := Aside0.mk (Below.refl w.heap.size w)
  have H : (mark_check.l0 k 0 l0 (l0.length : Int) 0) = some r := h
  clear h
  have H' := Aside0.mk H
  clear H
  go_enter Try.func26, Try.ntmps26
  go_wp2
  go_loopg [3, 8] k (fun kq v3 v8 w' => ∃ (x3_1 : Int) (x8_1 : Int), v3 = .int .i64 x3_1 ∧ v8 = .int .i64 x8_1 ∧ Aside0 (mark_check.l0 kq x3_1 l0 (l0.length : Int) x8_1 = some r) ∧ Aside0 (kq ≤ k) ∧ Aside0 (Below w.heap.size w w'))
  case atStart => exact ⟨(0), (0), (by first | rfl | (simp; done) | (simp [*]; done)), (by first | rfl | (simp; done) | (simp [*]; done)), H', ⟨Nat.le_refl _⟩, ⟨by repeat (first | (with_reducible first | exact HB.out | apply below_alloc | apply pw_below_drewN | apply below_drew1) | exact HB.out)⟩⟩
  case round =>
    clear H'
    obtain ⟨x3_1, x8_1, rfl, rfl, HA, HK1, HB⟩ := hrel
    cases gk with
    | zero => exact absurd HA.out (by simp [mark_check.l0])
    | succ k1 =>
      have H := HA.out
      clear HA
      simp only [mark_check.l0] at H
      by_cases c2 : x8_1 < (l0.length : Int)
      · rw [if_pos c2] at H
        have c2b0 : decide (x8_1 < (l0.length : Int)) = true := decide_eq_true c2
        clear c2
        by_cases c3 : 0 ≤ x8_1
        · rw [if_pos c3] at H
          have c3b0 : decide (0 ≤ x8_1) = true := decide_eq_true c3
          clear c3
          by_cases c4 : x8_1 < (l0.length : Int)
          · rw [if_pos c4] at H
            have c4b0 : decide (x8_1 < (l0.length : Int)) = true := decide_eq_true c4
            clear c4
            replace H := Option.bind_eq_some_iff.mp H
            obtain ⟨t26103, A50, H⟩ := H
            replace H : (if t26103 = true then (mark_check.l0 k1 ((rd_T37 l0 x8_1).f0) l0 (l0.length : Int) (wrap64 (x8_1 + 1))) else (some 51)) = some r := H
            have A5 := Aside0.mk A50
            clear A50
            by_cases c6 : t26103 = true
            · subst c6
              have H1 : (mark_check.l0 k1 ((rd_T37 l0 x8_1).f0) l0 (l0.length : Int) (wrap64 (x8_1 + 1))) = some r := by rw [if_pos rfl] at H; exact H
              clear H
              have H := H1
              clear H1
              have H' := Aside0.mk H
              clear H
              have p26101 : 0 ≤ (x8_1 : Int) := of_decide_eq_true (by first | (with_reducible assumption) | assumption)
              have q26101 : x8_1 < (l0.length : Int) := of_decide_eq_true (by first | (with_reducible assumption) | assumption)
              obtain ⟨ad26101, A26101_1, c26101_1, e26101, hx26101_0, hx26101_1, hx26101_2, hl26101_1, hi26101_1⟩ := at_T37 HR0.out x8_1 p26101 q26101
              cases e26101
              replace hx26101_0 := (HB.out.cell (World.block_lt_of_cell? w _ hx26101_0)).trans hx26101_0
              replace hx26101_1 := (HB.out.cell (World.block_lt_of_cell? w _ hx26101_1)).trans hx26101_1
              replace hx26101_2 := (HB.out.cell (World.block_lt_of_cell? w _ hx26101_2)).trans hx26101_2
              have HR26101_1 := Aside0.mk hi26101_1
              have HC26101_1 := Aside0.mk hl26101_1
              clear hi26101_1 hl26101_1
              replace p26101 := eq_true p26101
              replace q26101 := eq_true q26101
              go_wp2_with (first | ((with_reducible refine gate_dst (N := 5) rfl ?_); refine box_event ?hg (N := 5) ?hd (cs := #[.int .i64 0, .slice none 0 0, .int .i64 0]) (t := 37) ?hr ?_; (case hd => rfl); (case hg => rfl); (case hr => first | (go_simp; done) | (go_simp; rfl)); intro gb26102 hg w7 hbox hb; have n0_ := Aside0.mk (below_step (by repeat (first | (with_reducible first | exact HB.out | apply below_alloc | apply pw_below_drewN | apply below_drew1) | exact HB.out)) hb); have n1_ := Aside0.mk (hbox); have n2_ := Aside0.mk ((by rw [hg]; exact (below_size (by repeat (first | (with_reducible first | exact HB.out | apply below_alloc | apply pw_below_drewN | apply below_drew1) | exact HB.out))) : w.heap.size ≤ gb26102)); have n3_ := Aside0.mk ((by rw [hg]; exact (below_size (by repeat (first | (with_reducible first | exact HB.out | apply below_alloc | apply pw_below_drewN | apply below_drew1) | exact HB.out))) : w.heap.size ≤ gb26102)); clear HB; have HB := n0_; have BK26102 := n1_; have GW26102 := n2_; have GE26102 := n3_; clear n0_ n1_ n2_ n3_; clear hb hbox hg; have hcz8_0 : w7.cell? ⟨gb26102, 0, none⟩ = some (.int .i64 0) := (blk_cell BK26102.out 0).trans rfl; have hcz8_1 : w7.cell? ⟨gb26102, 1, none⟩ = some (.slice none 0 0) := (blk_cell BK26102.out 1).trans rfl; have hcz8_2 : w7.cell? ⟨gb26102, 2, none⟩ = some (.int .i64 0) := (blk_cell BK26102.out 2).trans rfl; have hfz8_0 := blk_frozen BK26102.out 0; have hfz8_1 := blk_frozen BK26102.out 1; have hfz8_2 := blk_frozen BK26102.out 2) | ((with_reducible refine gate_callee (f := 29) rfl ?_); refine goesL_ (some 14) rfl rfl Try.func29 (by kernel_rfl) rfl #[.agg #[.int .i64 ((rd_T37 l0 x8_1).f0), .slice A26101_1 ((rd_T37 l0 x8_1).f1).length c26101_1, .int .i64 ((rd_T37 l0 x8_1).f2)], .int .i64 x3_1] rfl (by (try simp only [List.map_toArray, List.map_cons, List.map_nil]); first | done | rfl | (simp only [List.length_drop, List.length_take]; rfl)) ?_; (with_reducible refine (mark_right.calls ((rd_T37 l0 x8_1).f0) _ _ ((rd_T37 l0 x8_1).f1) ((rd_T37 l0 x8_1).f2) x3_1 true _ ?side1 ?side2 A5.out).mono ?_); (case side1 => exact Kd.C_below HR26101_1.out (by repeat (first | (with_reducible first | exact HB.out | apply below_alloc | apply pw_below_drewN | apply below_drew1 | refine below_set ?_ GE26102.out) | exact HB.out))); (case side2 => exact HC26101_1.out); rintro e w9 ⟨rfl, hb⟩; refine ⟨_, rfl, ?_⟩; have n0_ := Aside0.mk (blk_below (g := gb26102) (o := .cells #[.int .i64 ((rd_T37 l0 x8_1).f0), .slice A26101_1 ((rd_T37 l0 x8_1).f1).length c26101_1, .int .i64 ((rd_T37 l0 x8_1).f2)] 37 (0, 0)) (by (with_reducible repeat (first | refine blk_drewN ?_ _ | refine blk_drew ?_ | refine blk_alloc ?_ _)); refine blk_put (cs := #[.int .i64 ((rd_T37 l0 x8_1).f0), .slice A26101_1 ((rd_T37 l0 x8_1).f1).length c26101_1, .int .i64 0]) ?_ 2 _ rfl; (with_reducible repeat (first | refine blk_drewN ?_ _ | refine blk_drew ?_ | refine blk_alloc ?_ _)); refine blk_put (cs := #[.int .i64 ((rd_T37 l0 x8_1).f0), .slice none 0 0, .int .i64 0]) ?_ 1 _ rfl; (with_reducible repeat (first | refine blk_drewN ?_ _ | refine blk_drew ?_ | refine blk_alloc ?_ _)); refine blk_put (cs := #[.int .i64 0, .slice none 0 0, .int .i64 0]) ?_ 0 _ rfl; (with_reducible repeat (first | refine blk_drewN ?_ _ | refine blk_drew ?_ | refine blk_alloc ?_ _)); exact BK26102.out) hb); have n1_ := Aside0.mk (below_step (by repeat (first | (with_reducible first | exact HB.out | apply below_alloc | apply pw_below_drewN | apply below_drew1 | refine below_set ?_ GE26102.out) | exact HB.out)) hb); clear BK26102; clear HB; have BK26102 := n0_; have HB := n1_; clear n0_ n1_; (try clear hb); (try clear hb2); (try clear hk); (try clear hi); have hcz10_0 : w9.cell? ⟨gb26102, 0, none⟩ = some (.int .i64 ((rd_T37 l0 x8_1).f0)) := (blk_cell BK26102.out 0).trans rfl; have hcz10_1 : w9.cell? ⟨gb26102, 1, none⟩ = some (.slice A26101_1 ((rd_T37 l0 x8_1).f1).length c26101_1) := (blk_cell BK26102.out 1).trans rfl; have hcz10_2 : w9.cell? ⟨gb26102, 2, none⟩ = some (.int .i64 ((rd_T37 l0 x8_1).f2)) := (blk_cell BK26102.out 2).trans rfl; have hfz10_0 := blk_frozen BK26102.out 0; have hfz10_1 := blk_frozen BK26102.out 1; have hfz10_2 := blk_frozen BK26102.out 2))
              go_roundg k1
              case measure => have := HK1.out; omega
              case rel => exact ⟨((rd_T37 l0 x8_1).f0), (wrap64 (x8_1 + 1)), (by first | rfl | (simp; done) | (simp [*]; done)), (by first | rfl | (simp; done) | (simp [*]; done)), H', ⟨by have := HK1.out; omega⟩, ⟨by repeat (first | (with_reducible first | exact HB.out | apply below_alloc | apply pw_below_drewN | apply below_drew1 | refine below_set ?_ GE26102.out) | exact HB.out)⟩⟩
            · replace c6 := Bool.eq_false_iff.mpr c6
              subst c6
              have H1 : (some 51) = some r := by rw [if_neg (show ¬ (false = true) by decide)] at H; exact H
              clear H
              have H := H1
              clear H1
              obtain rfl := Option.some.inj H
              have p26101 : 0 ≤ (x8_1 : Int) := of_decide_eq_true (by first | (with_reducible assumption) | assumption)
              have q26101 : x8_1 < (l0.length : Int) := of_decide_eq_true (by first | (with_reducible assumption) | assumption)
              obtain ⟨ad26101, A26101_1, c26101_1, e26101, hx26101_0, hx26101_1, hx26101_2, hl26101_1, hi26101_1⟩ := at_T37 HR0.out x8_1 p26101 q26101
              cases e26101
              replace hx26101_0 := (HB.out.cell (World.block_lt_of_cell? w _ hx26101_0)).trans hx26101_0
              replace hx26101_1 := (HB.out.cell (World.block_lt_of_cell? w _ hx26101_1)).trans hx26101_1
              replace hx26101_2 := (HB.out.cell (World.block_lt_of_cell? w _ hx26101_2)).trans hx26101_2
              have HR26101_1 := Aside0.mk hi26101_1
              have HC26101_1 := Aside0.mk hl26101_1
              clear hi26101_1 hl26101_1
              replace p26101 := eq_true p26101
              replace q26101 := eq_true q26101
              go_wp2_with (first | ((with_reducible refine gate_dst (N := 5) rfl ?_); refine box_event ?hg (N := 5) ?hd (cs := #[.int .i64 0, .slice none 0 0, .int .i64 0]) (t := 37) ?hr ?_; (case hd => rfl); (case hg => rfl); (case hr => first | (go_simp; done) | (go_simp; rfl)); intro gb26102 hg w11 hbox hb; have n0_ := Aside0.mk (below_step (by repeat (first | (with_reducible first | exact HB.out | apply below_alloc | apply pw_below_drewN | apply below_drew1) | exact HB.out)) hb); have n1_ := Aside0.mk (hbox); have n2_ := Aside0.mk ((by rw [hg]; exact (below_size (by repeat (first | (with_reducible first | exact HB.out | apply below_alloc | apply pw_below_drewN | apply below_drew1) | exact HB.out))) : w.heap.size ≤ gb26102)); have n3_ := Aside0.mk ((by rw [hg]; exact (below_size (by repeat (first | (with_reducible first | exact HB.out | apply below_alloc | apply pw_below_drewN | apply below_drew1) | exact HB.out))) : w.heap.size ≤ gb26102)); clear HB; have HB := n0_; have BK26102 := n1_; have GW26102 := n2_; have GE26102 := n3_; clear n0_ n1_ n2_ n3_; clear hb hbox hg; have hcz12_0 : w11.cell? ⟨gb26102, 0, none⟩ = some (.int .i64 0) := (blk_cell BK26102.out 0).trans rfl; have hcz12_1 : w11.cell? ⟨gb26102, 1, none⟩ = some (.slice none 0 0) := (blk_cell BK26102.out 1).trans rfl; have hcz12_2 : w11.cell? ⟨gb26102, 2, none⟩ = some (.int .i64 0) := (blk_cell BK26102.out 2).trans rfl; have hfz12_0 := blk_frozen BK26102.out 0; have hfz12_1 := blk_frozen BK26102.out 1; have hfz12_2 := blk_frozen BK26102.out 2) | ((with_reducible refine gate_callee (f := 29) rfl ?_); refine goesL_ (some 14) rfl rfl Try.func29 (by kernel_rfl) rfl #[.agg #[.int .i64 ((rd_T37 l0 x8_1).f0), .slice A26101_1 ((rd_T37 l0 x8_1).f1).length c26101_1, .int .i64 ((rd_T37 l0 x8_1).f2)], .int .i64 x3_1] rfl (by (try simp only [List.map_toArray, List.map_cons, List.map_nil]); first | done | rfl | (simp only [List.length_drop, List.length_take]; rfl)) ?_; (with_reducible refine (mark_right.calls ((rd_T37 l0 x8_1).f0) _ _ ((rd_T37 l0 x8_1).f1) ((rd_T37 l0 x8_1).f2) x3_1 false _ ?side1 ?side2 A5.out).mono ?_); (case side1 => exact Kd.C_below HR26101_1.out (by repeat (first | (with_reducible first | exact HB.out | apply below_alloc | apply pw_below_drewN | apply below_drew1 | refine below_set ?_ GE26102.out) | exact HB.out))); (case side2 => exact HC26101_1.out); rintro e w13 ⟨rfl, hb⟩; refine ⟨_, rfl, ?_⟩; have n0_ := Aside0.mk (blk_below (g := gb26102) (o := .cells #[.int .i64 ((rd_T37 l0 x8_1).f0), .slice A26101_1 ((rd_T37 l0 x8_1).f1).length c26101_1, .int .i64 ((rd_T37 l0 x8_1).f2)] 37 (0, 0)) (by (with_reducible repeat (first | refine blk_drewN ?_ _ | refine blk_drew ?_ | refine blk_alloc ?_ _)); refine blk_put (cs := #[.int .i64 ((rd_T37 l0 x8_1).f0), .slice A26101_1 ((rd_T37 l0 x8_1).f1).length c26101_1, .int .i64 0]) ?_ 2 _ rfl; (with_reducible repeat (first | refine blk_drewN ?_ _ | refine blk_drew ?_ | refine blk_alloc ?_ _)); refine blk_put (cs := #[.int .i64 ((rd_T37 l0 x8_1).f0), .slice none 0 0, .int .i64 0]) ?_ 1 _ rfl; (with_reducible repeat (first | refine blk_drewN ?_ _ | refine blk_drew ?_ | refine blk_alloc ?_ _)); refine blk_put (cs := #[.int .i64 0, .slice none 0 0, .int .i64 0]) ?_ 0 _ rfl; (with_reducible repeat (first | refine blk_drewN ?_ _ | refine blk_drew ?_ | refine blk_alloc ?_ _)); exact BK26102.out) hb); have n1_ := Aside0.mk (below_step (by repeat (first | (with_reducible first | exact HB.out | apply below_alloc | apply pw_below_drewN | apply below_drew1 | refine below_set ?_ GE26102.out) | exact HB.out)) hb); clear BK26102; clear HB; have BK26102 := n0_; have HB := n1_; clear n0_ n1_; (try clear hb); (try clear hb2); (try clear hk); (try clear hi)))
              go_ret
              exact ⟨by first | rfl | (simp [errW_none, errW_some] <;> rfl) | (simp [*, errW_none, errW_some] <;> rfl), by repeat (first | (with_reducible first | exact HB.out | apply below_alloc | apply pw_below_drewN | apply below_drew1 | refine below_set ?_ GE26102.out) | exact HB.out)⟩
          · rw [if_neg c4] at H
            exact absurd H (by simp)
        · rw [if_neg c3] at H
          exact absurd H (by simp)
      · rw [if_neg c2] at H
        have c2b0 : decide (x8_1 < (l0.length : Int)) = false := decide_eq_false c2
        clear c2
        obtain rfl := Option.some.inj H
        go_wp2
        go_ret
        exact ⟨by first | rfl | (simp [errW_none, errW_some] <;> rfl) | (simp [*, errW_none, errW_some] <;> rfl), by repeat (first | (with_reducible first | exact HB.out | apply below_alloc | apply pw_below_drewN | apply below_drew1) | exact HB.out)⟩

end Go.Proofs.Ytpmiaaphmgoapaa.H
