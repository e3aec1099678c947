-- Printed by hprint.py (this session's program over the kit's print) out of the translation; the parts 'by hand' are the session's own.
import Derived.Test.YtalogampkkjcdaaDoorPx0
import Derived.Test.YtalogampkkjcdaaDoorPx6
namespace Go.Proofs.YtalogampkkjcdaaDoor.P
open Go.RowKit Go.Proofs.YtalogampkkjcdaaDoorW.PrintWords Go.Proofs.YtalogampkkjcdaaDoorW.PrintLast Go.Proofs.YtalogampkkjcdaaDoorW.PrintMore
attribute [local go_sem] max2_int min2_int max_two min_two max_three min_three max_four min_four   -- for this text's walks alone
set_option linter.unusedVariables false
set_option linter.unusedSimpArgs false

/-! ### siglumref01_cell: function 39 -/
def siglumref01_cell.j0 : Nat → ByteArray → Int → Int → Bool → Option (Int × Int × Int × Bool × Int)
 | 0, _, _, _, _ => none
 | k + 1, x0, x1, x5, x19 => if x19 = true then (if 0 ≤ x1 then (if x1 < (x0.size : Int) then (some (x1, 1, 65533, true, bt x0 x1)) else (none)) else (none)) else (if 0 ≤ x1 then (if x1 < (x0.size : Int) then (if x5 = 2 then (if 0 ≤ (wrap64 (x1 + 1)) then (if (wrap64 (x1 + 1)) < (x0.size : Int) then (some (x1, x5, Go.bits .or .i32 (wrap32 ((wrap32 (Go.bits .and .u8 (bt x0 x1) 31)) * 64)) (wrap32 (Go.bits .and .u8 (bt x0 (wrap64 (x1 + 1))) 63)), false, 0)) else (none)) else (none)) else (if x5 = 3 then (if 0 ≤ (wrap64 (x1 + 1)) then (if (wrap64 (x1 + 1)) < (x0.size : Int) then (if 0 ≤ (wrap64 (x1 + 2)) then (if (wrap64 (x1 + 2)) < (x0.size : Int) then (some (x1, x5, Go.bits .or .i32 (Go.bits .or .i32 (wrap32 ((wrap32 (Go.bits .and .u8 (bt x0 x1) 15)) * 4096)) (wrap32 ((wrap32 (Go.bits .and .u8 (bt x0 (wrap64 (x1 + 1))) 63)) * 64))) (wrap32 (Go.bits .and .u8 (bt x0 (wrap64 (x1 + 2))) 63)), false, 0)) else (none)) else (none)) else (none)) else (none)) else (if x5 = 4 then (if 0 ≤ (wrap64 (x1 + 1)) then (if (wrap64 (x1 + 1)) < (x0.size : Int) then (if 0 ≤ (wrap64 (x1 + 2)) then (if (wrap64 (x1 + 2)) < (x0.size : Int) then (if 0 ≤ (wrap64 (x1 + 3)) then (if (wrap64 (x1 + 3)) < (x0.size : Int) then (some (x1, x5, Go.bits .or .i32 (Go.bits .or .i32 (Go.bits .or .i32 (wrap32 ((wrap32 (Go.bits .and .u8 (bt x0 x1) 7)) * 262144)) (wrap32 ((wrap32 (Go.bits .and .u8 (bt x0 (wrap64 (x1 + 1))) 63)) * 4096))) (wrap32 ((wrap32 (Go.bits .and .u8 (bt x0 (wrap64 (x1 + 2))) 63)) * 64))) (wrap32 (Go.bits .and .u8 (bt x0 (wrap64 (x1 + 3))) 63)), false, 0)) else (none)) else (none)) else (none)) else (none)) else (none)) else (none)) else (some (x1, x5, wrap32 (bt x0 x1), false, 0))))) else (none)) else (none))
def siglumref01_cell.f (k : Nat) (a0 : ByteArray) (a1 : Int) : Option (Int × Int × Int × Bool × Int) := if 0 ≤ a1 then (if a1 < (a0.size : Int) then ((siglumref01_wants.f (bt a0 a1)).bind fun t161 => (if t161 = 0 then (siglumref01_cell.j0 k a0 a1 t161 true) else ((siglumref01_fits.f k a0 a1).bind fun t162 => (siglumref01_cell.j0 k a0 a1 t161 (decide (t162 < t161)))))) else (none)) else (none)
theorem siglumref01_cell.mono_l : ∀ k, (∀ y0 y1 y2 y3, LeO (siglumref01_cell.j0 k y0 y1 y2 y3) (siglumref01_cell.j0 (k + 1) y0 y1 y2 y3))
 | 0 => fun _ _ _ _ r h => by simp [siglumref01_cell.j0] at h
 | k + 1 => by
  have ih0 := siglumref01_cell.mono_l k
  ·
   intro y0 y1 y2 y3
   unfold siglumref01_cell.j0
   repeat' first
   | (with_reducible exact ih0 _ _ _ _)
   | (with_reducible exact siglumref01_fits.mono _ _ _)
   | (with_reducible exact LeO.refl _)
   | (with_reducible exact LeO.none _)
   | (with_reducible refine LeO.ite ?_ ?_)
   | (with_reducible refine LeO.bind ?_ (fun _ => ?_))
   | exact ih0 _ _ _ _
   | exact siglumref01_fits.mono _ _ _
   | exact LeO.none _
   | refine LeO.ite ?_ ?_
   | refine LeO.bind ?_ (fun _ => ?_)
theorem siglumref01_cell.mono : ∀ a0 a1 k, LeO (siglumref01_cell.f k a0 a1) (siglumref01_cell.f (k + 1) a0 a1) := by
 intro a0 a1 k
 have ih0 := siglumref01_cell.mono_l k
 unfold siglumref01_cell.f
 repeat' first
  | (with_reducible exact ih0 _ _ _ _)
  | (with_reducible exact siglumref01_fits.mono _ _ _)
  | (with_reducible exact LeO.refl _)
  | (with_reducible exact LeO.none _)
  | (with_reducible refine LeO.ite ?_ ?_)
  | (with_reducible refine LeO.bind ?_ (fun _ => ?_))
  | exact ih0 _ _ _ _
  | exact siglumref01_fits.mono _ _ _
  | exact LeO.none _
  | refine LeO.ite ?_ ?_
  | refine LeO.bind ?_ (fun _ => ?_)
set_option maxHeartbeats 8000000 in
set_option maxRecDepth 100000 in
theorem siglumref01_cell.calls (k : Nat) (a0 : ByteArray) (a1 : Int) (r1 : Int) (r2 : Int) (r3 : Int) (r4 : Bool) (r5 : Int) (w : World) (h : siglumref01_cell.f k a0 a1 = some (r1, r2, r3, r4, r5)) :
 Calls Tryd.prog 39 #[.string a0, .int .i64 a1] w fun e w' => e = .returned (.agg #[.int .i64 r1, .int .i64 r2, .int .i32 r3, .bool r4, .int .u8 r5]) ∧ Below w.heap.size w w' := by
 have hu75 := Tryd.underlying75
 have HB := Aside0.mk (Below.refl w.heap.size w)
 have H : (if 0 ≤ a1 then (if a1 < (a0.size : Int) then ((siglumref01_wants.f (bt a0 a1)).bind fun t161 => (if t161 = 0 then (siglumref01_cell.j0 k a0 a1 t161 true) else ((siglumref01_fits.f k a0 a1).bind fun t162 => (siglumref01_cell.j0 k a0 a1 t161 (decide (t162 < t161)))))) else (none)) else (none)) = some (r1, r2, r3, r4, r5) := h
 clear h
 by_cases c3 : 0 ≤ a1
 rotate_left
 · rw [if_neg c3] at H; exact absurd H (by simp)
 rw [if_pos c3] at H
 have c3b0 : decide (0 ≤ a1) = true := decide_eq_true c3
 clear c3
 by_cases c4 : a1 < (a0.size : Int)
 rotate_left
 · rw [if_neg c4] at H; exact absurd H (by simp)
 rw [if_pos c4] at H
 have c4b0 : decide (a1 < (a0.size : Int)) = true := decide_eq_true c4
 clear c4
 replace H := Option.bind_eq_some_iff.mp H
 obtain ⟨t161, A60, H⟩ := H
 replace H : (if t161 = 0 then (siglumref01_cell.j0 k a0 a1 t161 true) else ((siglumref01_fits.f k a0 a1).bind fun t162 => (siglumref01_cell.j0 k a0 a1 t161 (decide (t162 < t161))))) = some (r1, r2, r3, r4, r5) := H
 have A6 := Aside0.mk A60
 clear A60
 have HC7 := Aside0.mk H
 clear H
 go_enter Tryd.func39, Tryd.ntmps39
 go_upto_region 2 with (first | ((with_reducible refine gate_dst (N := 4) rfl ?_); refine box_event ?hg (N := 4) ?hd (cs := #[.int .i64 0, .int .i64 0, .int .i32 0, .bool false, .int .u8 0]) (t := 75) ?hr ?_; (case hd => rfl); (case hg => rfl); (case hr => first | (go_simp; done) | (go_simp; rfl)); intro gb160 hg w8 hbox hb; have n0_ := Aside0.mk (below_step (by repeat (first | (with_reducible first | exact HB.out | apply below_alloc | apply pw_below_drewN | apply below_drew1) | exact HB.out)) hb); have n1_ := Aside0.mk (hbox); have n2_ := Aside0.mk ((by rw [hg]; exact (below_size (by repeat (first | (with_reducible first | exact HB.out | apply below_alloc | apply pw_below_drewN | apply below_drew1) | exact HB.out))) : w.heap.size ≤ gb160)); have n3_ := Aside0.mk ((by rw [hg]; exact (below_size (by repeat (first | (with_reducible first | exact HB.out | apply below_alloc | apply pw_below_drewN | apply below_drew1) | exact HB.out))) : w.heap.size ≤ gb160)); clear HB; have HB := n0_; have BK160 := n1_; have GW160 := n2_; have GE160 := n3_; clear n0_ n1_ n2_ n3_; clear hb hbox hg; have p5 : 0 ≤ (a1 : Int) := of_decide_eq_true (by assumption); have q5 : a1 < (a0.size : Int) := of_decide_eq_true (by assumption); have hx5 := bt_at a0 a1; replace p5 := eq_true p5; replace q5 := eq_true q5) | (go_at_call 46; (with_reducible refine (siglumref01_wants.calls (bt a0 a1) t161 _ A6.out).mono ?_); rintro e w' ⟨rfl, ⟨nd, rfl⟩⟩; (try first | exact ⟨rfl, _, World.drewN_drewN _ _ _⟩ | exact ⟨rfl, _, Eq.trans (World.drewN_drewN _ _ _) (congrArg (World.drewN _) (Nat.add_assoc _ _ _))⟩)))
 repeat (go_quiet (first | ((with_reducible refine gate_dst (N := 4) rfl ?_); refine box_event ?hg (N := 4) ?hd (cs := #[.int .i64 0, .int .i64 0, .int .i32 0, .bool false, .int .u8 0]) (t := 75) ?hr ?_; (case hd => rfl); (case hg => rfl); (case hr => first | (go_simp; done) | (go_simp; rfl)); intro gb160 hg w8 hbox hb; have n0_ := Aside0.mk (below_step (by repeat (first | (with_reducible first | exact HB.out | apply below_alloc | apply pw_below_drewN | apply below_drew1) | exact HB.out)) hb); have n1_ := Aside0.mk (hbox); have n2_ := Aside0.mk ((by rw [hg]; exact (below_size (by repeat (first | (with_reducible first | exact HB.out | apply below_alloc | apply pw_below_drewN | apply below_drew1) | exact HB.out))) : w.heap.size ≤ gb160)); have n3_ := Aside0.mk ((by rw [hg]; exact (below_size (by repeat (first | (with_reducible first | exact HB.out | apply below_alloc | apply pw_below_drewN | apply below_drew1) | exact HB.out))) : w.heap.size ≤ gb160)); clear HB; have HB := n0_; have BK160 := n1_; have GW160 := n2_; have GE160 := n3_; clear n0_ n1_ n2_ n3_; clear hb hbox hg; have p5 : 0 ≤ (a1 : Int) := of_decide_eq_true (by assumption); have q5 : a1 < (a0.size : Int) := of_decide_eq_true (by assumption); have hx5 := bt_at a0 a1; replace p5 := eq_true p5; replace q5 := eq_true q5) | (go_at_call 46; (with_reducible refine (siglumref01_wants.calls (bt a0 a1) t161 _ A6.out).mono ?_); rintro e w' ⟨rfl, ⟨nd, rfl⟩⟩; (try first | exact ⟨rfl, _, World.drewN_drewN _ _ _⟩ | exact ⟨rfl, _, Eq.trans (World.drewN_drewN _ _ _) (congrArg (World.drewN _) (Nat.add_assoc _ _ _))⟩))); go_upto_region 2 with (first | ((with_reducible refine gate_dst (N := 4) rfl ?_); refine box_event ?hg (N := 4) ?hd (cs := #[.int .i64 0, .int .i64 0, .int .i32 0, .bool false, .int .u8 0]) (t := 75) ?hr ?_; (case hd => rfl); (case hg => rfl); (case hr => first | (go_simp; done) | (go_simp; rfl)); intro gb160 hg w8 hbox hb; have n0_ := Aside0.mk (below_step (by repeat (first | (with_reducible first | exact HB.out | apply below_alloc | apply pw_below_drewN | apply below_drew1) | exact HB.out)) hb); have n1_ := Aside0.mk (hbox); have n2_ := Aside0.mk ((by rw [hg]; exact (below_size (by repeat (first | (with_reducible first | exact HB.out | apply below_alloc | apply pw_below_drewN | apply below_drew1) | exact HB.out))) : w.heap.size ≤ gb160)); have n3_ := Aside0.mk ((by rw [hg]; exact (below_size (by repeat (first | (with_reducible first | exact HB.out | apply below_alloc | apply pw_below_drewN | apply below_drew1) | exact HB.out))) : w.heap.size ≤ gb160)); clear HB; have HB := n0_; have BK160 := n1_; have GW160 := n2_; have GE160 := n3_; clear n0_ n1_ n2_ n3_; clear hb hbox hg; have p5 : 0 ≤ (a1 : Int) := of_decide_eq_true (by assumption); have q5 : a1 < (a0.size : Int) := of_decide_eq_true (by assumption); have hx5 := bt_at a0 a1; replace p5 := eq_true p5; replace q5 := eq_true q5) | (go_at_call 46; (with_reducible refine (siglumref01_wants.calls (bt a0 a1) t161 _ A6.out).mono ?_); rintro e w' ⟨rfl, ⟨nd, rfl⟩⟩; (try first | exact ⟨rfl, _, World.drewN_drewN _ _ _⟩ | exact ⟨rfl, _, Eq.trans (World.drewN_drewN _ _ _) (congrArg (World.drewN _) (Nat.add_assoc _ _ _))⟩))))
 (try simp only [Act.put,List.setIfInBounds_toArray,List.set_cons_zero,List.set_cons_succ])
 go_cut [19] (fun v19 wc => ∃ (kq : Nat) (x19_6 : Bool), v19 = .bool x19_6 ∧ Aside0 (siglumref01_cell.j0 kq a0 a1 t161 x19_6 = some (r1, r2, r3, r4, r5)) ∧ Aside0 (kq ≤ k) ∧ Aside0 (wc.heap[gb160]? = some (.cells #[.int .i64 0, .int .i64 0, .int .i32 0, .bool false, .int .u8 0] 75 (0, 0))) ∧ Aside0 (Below w.heap.size w wc))
 case first =>
  have H := HC7.out
  clear HC7
  by_cases c9 : t161 = 0
  ·
   rw [if_pos c9] at H
   have c9b0 : (t161 == 0) = true := beq_iff_eq.mpr c9
   have c9b1 : (t161 != 0) = false := bne_eq_false_iff_eq.mpr c9
   clear c9
   (first | rw [c9b0] | (simp only [i64_w, i32_w]; rw [c9b0]) | skip)
   have H' := Aside0.mk H
   clear H
   go_wp2
   repeat (go_quiet (fail); try go_wp2)
   go_meet
   case rel => exact ⟨_, (true), (by first | rfl | (simp; done) | (simp [*]; done)), H', ⟨by first | omega | exact Nat.le_refl _⟩, ⟨by (with_reducible repeat (first | refine blk_drewN ?_ _ | refine blk_drew ?_ | refine blk_alloc ?_ _)); exact BK160.out⟩, ⟨by repeat (first | (with_reducible first | exact HB.out | apply below_alloc | apply pw_below_drewN | apply below_drew1 | refine below_set ?_ GE160.out) | exact HB.out)⟩⟩
  ·
   rw [if_neg c9] at H
   have c9b0 : (t161 == 0) = false := beq_eq_false_iff_ne.mpr c9
   have c9b1 : (t161 != 0) = true := bne_iff_ne.mpr c9
   (first | rw [c9b0] | (simp only [i64_w, i32_w]; rw [c9b0]) | skip)
   replace H := Option.bind_eq_some_iff.mp H
   obtain ⟨t162, A100, H⟩ := H
   replace H : (siglumref01_cell.j0 k a0 a1 t161 (decide (t162 < t161))) = some (r1, r2, r3, r4, r5) := H
   have A10 := Aside0.mk A100
   clear A100
   have H' := Aside0.mk H
   clear H
   go_wp2_with (first | (go_at_call 47; (with_reducible refine (siglumref01_fits.calls k a0 a1 t162 _ A10.out).mono ?_); rintro e w' ⟨rfl, ⟨nd, rfl⟩⟩; (try first | exact ⟨rfl, _, World.drewN_drewN _ _ _⟩ | exact ⟨rfl, _, Eq.trans (World.drewN_drewN _ _ _) (congrArg (World.drewN _) (Nat.add_assoc _ _ _))⟩)))
   repeat (go_quiet (first | (go_at_call 47; (with_reducible refine (siglumref01_fits.calls k a0 a1 t162 _ A10.out).mono ?_); rintro e w' ⟨rfl, ⟨nd, rfl⟩⟩; (try first | exact ⟨rfl, _, World.drewN_drewN _ _ _⟩ | exact ⟨rfl, _, Eq.trans (World.drewN_drewN _ _ _) (congrArg (World.drewN _) (Nat.add_assoc _ _ _))⟩))); try go_wp2_with (first | (go_at_call 47; (with_reducible refine (siglumref01_fits.calls k a0 a1 t162 _ A10.out).mono ?_); rintro e w' ⟨rfl, ⟨nd, rfl⟩⟩; (try first | exact ⟨rfl, _, World.drewN_drewN _ _ _⟩ | exact ⟨rfl, _, Eq.trans (World.drewN_drewN _ _ _) (congrArg (World.drewN _) (Nat.add_assoc _ _ _))⟩))))
   go_meet
   case rel => exact ⟨_, (decide (t162 < t161)), (by first | rfl | (simp; done) | (simp [*]; done)), H', ⟨by first | omega | exact Nat.le_refl _⟩, ⟨by (with_reducible repeat (first | refine blk_drewN ?_ _ | refine blk_drew ?_ | refine blk_alloc ?_ _)); exact BK160.out⟩, ⟨by repeat (first | (with_reducible first | exact HB.out | apply below_alloc | apply pw_below_drewN | apply below_drew1 | refine below_set ?_ GE160.out) | exact HB.out)⟩⟩
 case rest =>
  clear HC7
  (try clear p2); (try clear c3); (try clear c3b0); (try clear c4); (try clear c4b0); (try clear p5); (try clear q5); (try clear hx5); (try clear c9); (try clear c9b0); (try clear c9b1)
  obtain ⟨kq, x19_6, rfl, HA, HJ6, BK160, HB⟩ := hcut
  cases kq with
  | zero => exact absurd HA.out (by simp [siglumref01_cell.j0])
  | succ kj6 =>
   have H := HA.out
   clear HA
   simp only [siglumref01_cell.j0] at H
   by_cases c11 : x19_6 = true
   ·
    subst c11
    have H1 : (if 0 ≤ a1 then (if a1 < (a0.size : Int) then (some (a1, 1, 65533, true, bt a0 a1)) else (none)) else (none)) = some (r1, r2, r3, r4, r5) := by rw [if_pos rfl] at H; exact H
    clear H
    have H := H1
    clear H1
    by_cases c12 : 0 ≤ a1
    rotate_left
    · rw [if_neg c12] at H; exact absurd H (by simp)
    rw [if_pos c12] at H
    have c12b0 : decide (0 ≤ a1) = true := decide_eq_true c12
    clear c12
    by_cases c13 : a1 < (a0.size : Int)
    rotate_left
    · rw [if_neg c13] at H; exact absurd H (by simp)
    rw [if_pos c13] at H
    have c13b0 : decide (a1 < (a0.size : Int)) = true := decide_eq_true c13
    clear c13
    simp only [Option.some.injEq, Prod.mk.injEq] at H
    obtain ⟨rfl, rfl, rfl, rfl, rfl⟩ := H
    have p14 : 0 ≤ (a1 : Int) := of_decide_eq_true (by assumption)
    have q14 : a1 < (a0.size : Int) := of_decide_eq_true (by assumption)
    have hx14 := bt_at a0 a1
    replace p14 := eq_true p14
    replace q14 := eq_true q14
    have hcz15_0 : wc.cell? ⟨gb160, 0, none⟩ = some (.int .i64 0) := (blk_cell BK160.out 0).trans rfl
    have hcz15_1 : wc.cell? ⟨gb160, 1, none⟩ = some (.int .i64 0) := (blk_cell BK160.out 1).trans rfl
    have hcz15_2 : wc.cell? ⟨gb160, 2, none⟩ = some (.int .i32 0) := (blk_cell BK160.out 2).trans rfl
    have hcz15_3 : wc.cell? ⟨gb160, 3, none⟩ = some (.bool false) := (blk_cell BK160.out 3).trans rfl
    have hcz15_4 : wc.cell? ⟨gb160, 4, none⟩ = some (.int .u8 0) := (blk_cell BK160.out 4).trans rfl
    have hfz15_0 := blk_frozen BK160.out 0
    have hfz15_1 := blk_frozen BK160.out 1
    have hfz15_2 := blk_frozen BK160.out 2
    have hfz15_3 := blk_frozen BK160.out 3
    have hfz15_4 := blk_frozen BK160.out 4
    go_wp2
    repeat (go_quiet (fail); try go_wp2)
    refine bodyPost_ret (results_cell_row rfl _ _ gb160 75 #[.int .i64 a1, .int .i64 1, .int .i32 65533, .bool true, .int .u8 (bt a0 a1)] (0, 0) _ rfl (by (with_reducible repeat (first | refine blk_drewN ?_ _ | refine blk_drew ?_ | refine blk_alloc ?_ _)); refine blk_put (cs := #[.int .i64 a1, .int .i64 1, .int .i32 65533, .bool true, .int .u8 0]) ?_ 4 _ rfl; (with_reducible repeat (first | refine blk_drewN ?_ _ | refine blk_drew ?_ | refine blk_alloc ?_ _)); refine blk_put (cs := #[.int .i64 a1, .int .i64 1, .int .i32 65533, .bool false, .int .u8 0]) ?_ 3 _ rfl; (with_reducible repeat (first | refine blk_drewN ?_ _ | refine blk_drew ?_ | refine blk_alloc ?_ _)); refine blk_put (cs := #[.int .i64 a1, .int .i64 1, .int .i32 0, .bool false, .int .u8 0]) ?_ 2 _ rfl; (with_reducible repeat (first | refine blk_drewN ?_ _ | refine blk_drew ?_ | refine blk_alloc ?_ _)); refine blk_put (cs := #[.int .i64 a1, .int .i64 0, .int .i32 0, .bool false, .int .u8 0]) ?_ 1 _ rfl; (with_reducible repeat (first | refine blk_drewN ?_ _ | refine blk_drew ?_ | refine blk_alloc ?_ _)); refine blk_put (cs := #[.int .i64 0, .int .i64 0, .int .i32 0, .bool false, .int .u8 0]) ?_ 0 _ rfl; (with_reducible repeat (first | refine blk_drewN ?_ _ | refine blk_drew ?_ | refine blk_alloc ?_ _)); exact BK160.out) Tryd.underlying75 rfl (by kernel_rfl)) rfl ?_
    exact ⟨by first | rfl | (simp [errW_none, errW_some] <;> rfl) | (simp [*, errW_none, errW_some] <;> rfl), by repeat (first | (with_reducible first | exact HB.out | apply below_alloc | apply pw_below_drewN | apply below_drew1 | refine below_set ?_ GE160.out) | exact HB.out)⟩
   ·
    replace c11 := Bool.eq_false_iff.mpr c11
    subst c11
    have H1 : (if 0 ≤ a1 then (if a1 < (a0.size : Int) then (if t161 = 2 then (if 0 ≤ (wrap64 (a1 + 1)) then (if (wrap64 (a1 + 1)) < (a0.size : Int) then (some (a1, t161, Go.bits .or .i32 (wrap32 ((wrap32 (Go.bits .and .u8 (bt a0 a1) 31)) * 64)) (wrap32 (Go.bits .and .u8 (bt a0 (wrap64 (a1 + 1))) 63)), false, 0)) else (none)) else (none)) else (if t161 = 3 then (if 0 ≤ (wrap64 (a1 + 1)) then (if (wrap64 (a1 + 1)) < (a0.size : Int) then (if 0 ≤ (wrap64 (a1 + 2)) then (if (wrap64 (a1 + 2)) < (a0.size : Int) then (some (a1, t161, Go.bits .or .i32 (Go.bits .or .i32 (wrap32 ((wrap32 (Go.bits .and .u8 (bt a0 a1) 15)) * 4096)) (wrap32 ((wrap32 (Go.bits .and .u8 (bt a0 (wrap64 (a1 + 1))) 63)) * 64))) (wrap32 (Go.bits .and .u8 (bt a0 (wrap64 (a1 + 2))) 63)), false, 0)) else (none)) else (none)) else (none)) else (none)) else (if t161 = 4 then (if 0 ≤ (wrap64 (a1 + 1)) then (if (wrap64 (a1 + 1)) < (a0.size : Int) then (if 0 ≤ (wrap64 (a1 + 2)) then (if (wrap64 (a1 + 2)) < (a0.size : Int) then (if 0 ≤ (wrap64 (a1 + 3)) then (if (wrap64 (a1 + 3)) < (a0.size : Int) then (some (a1, t161, Go.bits .or .i32 (Go.bits .or .i32 (Go.bits .or .i32 (wrap32 ((wrap32 (Go.bits .and .u8 (bt a0 a1) 7)) * 262144)) (wrap32 ((wrap32 (Go.bits .and .u8 (bt a0 (wrap64 (a1 + 1))) 63)) * 4096))) (wrap32 ((wrap32 (Go.bits .and .u8 (bt a0 (wrap64 (a1 + 2))) 63)) * 64))) (wrap32 (Go.bits .and .u8 (bt a0 (wrap64 (a1 + 3))) 63)), false, 0)) else (none)) else (none)) else (none)) else (none)) else (none)) else (none)) else (some (a1, t161, wrap32 (bt a0 a1), false, 0))))) else (none)) else (none)) = some (r1, r2, r3, r4, r5) := by rw [if_neg (show ¬ (false = true) by decide)] at H; exact H
    clear H
    have H := H1
    clear H1
    by_cases c16 : 0 ≤ a1
    rotate_left
    · rw [if_neg c16] at H; exact absurd H (by simp)
    rw [if_pos c16] at H
    have c16b0 : decide (0 ≤ a1) = true := decide_eq_true c16
    clear c16
    by_cases c17 : a1 < (a0.size : Int)
    rotate_left
    · rw [if_neg c17] at H; exact absurd H (by simp)
    rw [if_pos c17] at H
    have c17b0 : decide (a1 < (a0.size : Int)) = true := decide_eq_true c17
    clear c17
    by_cases c19 : t161 = 2
    ·
     rw [if_pos c19] at H
     have c19b0 : (t161 == 2) = true := beq_iff_eq.mpr c19
     have c19b1 : (t161 != 2) = false := bne_eq_false_iff_eq.mpr c19
     clear c19
     obtain ⟨ji21, hji21⟩ : ∃ j_ : Int, (wrap64 (a1 + 1)) = j_ := ⟨_, rfl⟩
     replace H : (if 0 ≤ (ji21) then (if (ji21) < (a0.size : Int) then (some (a1, t161, Go.bits .or .i32 (wrap32 ((wrap32 (Go.bits .and .u8 (bt a0 a1) 31)) * 64)) (wrap32 (Go.bits .and .u8 (bt a0 (ji21)) 63)), false, 0)) else (none)) else (none)) = some (r1, r2, r3, r4, r5) := by first | (rw [hji21] at H; exact H) | (simp only [hji21] at H ⊢; exact H)
     have hji21w : (IntKind.i64.wrap (a1 + 1)) = ji21 := (i64_w _).trans hji21
     by_cases c22 : 0 ≤ (ji21)
     rotate_left
     · rw [if_neg c22] at H; exact absurd H (by simp)
     rw [if_pos c22] at H
     have c22b0 : decide (0 ≤ (ji21)) = true := decide_eq_true c22
     clear c22
     by_cases c23 : (ji21) < (a0.size : Int)
     rotate_left
     · rw [if_neg c23] at H; exact absurd H (by simp)
     rw [if_pos c23] at H
     have c23b0 : decide ((ji21) < (a0.size : Int)) = true := decide_eq_true c23
     clear c23
     simp only [Option.some.injEq, Prod.mk.injEq] at H
     obtain ⟨rfl, rfl, rfl, rfl, rfl⟩ := H
     have p18 : 0 ≤ (a1 : Int) := of_decide_eq_true (by assumption)
     have q18 : a1 < (a0.size : Int) := of_decide_eq_true (by assumption)
     have hx18 := bt_at a0 a1
     replace p18 := eq_true p18
     replace q18 := eq_true q18
     have p20 : 0 ≤ (a1 : Int) := of_decide_eq_true (by assumption)
     have q20 : a1 < (a0.size : Int) := of_decide_eq_true (by assumption)
     have hx20 := bt_at a0 a1
     replace p20 := eq_true p20
     replace q20 := eq_true q20
     have p24 : 0 ≤ ((ji21) : Int) := of_decide_eq_true (by assumption)
     have q24 : (ji21) < (a0.size : Int) := of_decide_eq_true (by assumption)
     have hx24 := bt_at a0 (ji21)
     replace p24 := eq_true p24
     replace q24 := eq_true q24
     have hcz25_0 : wc.cell? ⟨gb160, 0, none⟩ = some (.int .i64 0) := (blk_cell BK160.out 0).trans rfl
     have hcz25_1 : wc.cell? ⟨gb160, 1, none⟩ = some (.int .i64 0) := (blk_cell BK160.out 1).trans rfl
     have hcz25_2 : wc.cell? ⟨gb160, 2, none⟩ = some (.int .i32 0) := (blk_cell BK160.out 2).trans rfl
     have hcz25_3 : wc.cell? ⟨gb160, 3, none⟩ = some (.bool false) := (blk_cell BK160.out 3).trans rfl
     have hcz25_4 : wc.cell? ⟨gb160, 4, none⟩ = some (.int .u8 0) := (blk_cell BK160.out 4).trans rfl
     have hfz25_0 := blk_frozen BK160.out 0
     have hfz25_1 := blk_frozen BK160.out 1
     have hfz25_2 := blk_frozen BK160.out 2
     have hfz25_3 := blk_frozen BK160.out 3
     have hfz25_4 := blk_frozen BK160.out 4
     go_wp2
     repeat (go_quiet (fail); try go_wp2)
     refine bodyPost_ret (results_cell_row rfl _ _ gb160 75 #[.int .i64 a1, .int .i64 t161, .int .i32 (Go.bits .or .i32 (wrap32 ((wrap32 (Go.bits .and .u8 (bt a0 a1) 31)) * 64)) (wrap32 (Go.bits .and .u8 (bt a0 (ji21)) 63))), .bool false, .int .u8 0] (0, 0) _ rfl (by (with_reducible repeat (first | refine blk_drewN ?_ _ | refine blk_drew ?_ | refine blk_alloc ?_ _)); refine blk_put (cs := #[.int .i64 a1, .int .i64 t161, .int .i32 (Go.bits .or .i32 (wrap32 ((wrap32 (Go.bits .and .u8 (bt a0 a1) 31)) * 64)) (wrap32 (Go.bits .and .u8 (bt a0 (ji21)) 63))), .bool false, .int .u8 0]) ?_ 4 _ rfl; (with_reducible repeat (first | refine blk_drewN ?_ _ | refine blk_drew ?_ | refine blk_alloc ?_ _)); refine blk_put (cs := #[.int .i64 a1, .int .i64 t161, .int .i32 (Go.bits .or .i32 (wrap32 ((wrap32 (Go.bits .and .u8 (bt a0 a1) 31)) * 64)) (wrap32 (Go.bits .and .u8 (bt a0 (ji21)) 63))), .bool false, .int .u8 0]) ?_ 3 _ rfl; (with_reducible repeat (first | refine blk_drewN ?_ _ | refine blk_drew ?_ | refine blk_alloc ?_ _)); refine blk_put (cs := #[.int .i64 a1, .int .i64 t161, .int .i32 0, .bool false, .int .u8 0]) ?_ 2 _ rfl; (with_reducible repeat (first | refine blk_drewN ?_ _ | refine blk_drew ?_ | refine blk_alloc ?_ _)); refine blk_put (cs := #[.int .i64 a1, .int .i64 0, .int .i32 0, .bool false, .int .u8 0]) ?_ 1 _ rfl; (with_reducible repeat (first | refine blk_drewN ?_ _ | refine blk_drew ?_ | refine blk_alloc ?_ _)); refine blk_put (cs := #[.int .i64 0, .int .i64 0, .int .i32 0, .bool false, .int .u8 0]) ?_ 0 _ rfl; (with_reducible repeat (first | refine blk_drewN ?_ _ | refine blk_drew ?_ | refine blk_alloc ?_ _)); exact BK160.out) Tryd.underlying75 rfl (by kernel_rfl)) rfl ?_
     exact ⟨by first | rfl | (simp [errW_none, errW_some] <;> rfl) | (simp only [← hji21]; first | rfl | (simp [errW_none, errW_some] <;> rfl)) | (simp [*, errW_none, errW_some] <;> rfl), by repeat (first | (with_reducible first | exact HB.out | apply below_alloc | apply pw_below_drewN | apply below_drew1 | refine below_set ?_ GE160.out) | exact HB.out)⟩
    ·
     rw [if_neg c19] at H
     have c19b0 : (t161 == 2) = false := beq_eq_false_iff_ne.mpr c19
     have c19b1 : (t161 != 2) = true := bne_iff_ne.mpr c19
     by_cases c26 : t161 = 3
     ·
      rw [if_pos c26] at H
      have c26b0 : (t161 == 3) = true := beq_iff_eq.mpr c26
      have c26b1 : (t161 != 3) = false := bne_eq_false_iff_eq.mpr c26
      clear c26
      obtain ⟨ji28, hji28⟩ : ∃ j_ : Int, (wrap64 (a1 + 1)) = j_ := ⟨_, rfl⟩
      replace H : (if 0 ≤ (ji28) then (if (ji28) < (a0.size : Int) then (if 0 ≤ (wrap64 (a1 + 2)) then (if (wrap64 (a1 + 2)) < (a0.size : Int) then (some (a1, t161, Go.bits .or .i32 (Go.bits .or .i32 (wrap32 ((wrap32 (Go.bits .and .u8 (bt a0 a1) 15)) * 4096)) (wrap32 ((wrap32 (Go.bits .and .u8 (bt a0 (ji28)) 63)) * 64))) (wrap32 (Go.bits .and .u8 (bt a0 (wrap64 (a1 + 2))) 63)), false, 0)) else (none)) else (none)) else (none)) else (none)) = some (r1, r2, r3, r4, r5) := by first | (rw [hji28] at H; exact H) | (simp only [hji28] at H ⊢; exact H)
      have hji28w : (IntKind.i64.wrap (a1 + 1)) = ji28 := (i64_w _).trans hji28
      by_cases c29 : 0 ≤ (ji28)
      rotate_left
      · rw [if_neg c29] at H; exact absurd H (by simp)
      rw [if_pos c29] at H
      have c29b0 : decide (0 ≤ (ji28)) = true := decide_eq_true c29
      clear c29
      by_cases c30 : (ji28) < (a0.size : Int)
      rotate_left
      · rw [if_neg c30] at H; exact absurd H (by simp)
      rw [if_pos c30] at H
      have c30b0 : decide ((ji28) < (a0.size : Int)) = true := decide_eq_true c30
      clear c30
      obtain ⟨ji32, hji32⟩ : ∃ j_ : Int, (wrap64 (a1 + 2)) = j_ := ⟨_, rfl⟩
      replace H : (if 0 ≤ (ji32) then (if (ji32) < (a0.size : Int) then (some (a1, t161, Go.bits .or .i32 (Go.bits .or .i32 (wrap32 ((wrap32 (Go.bits .and .u8 (bt a0 a1) 15)) * 4096)) (wrap32 ((wrap32 (Go.bits .and .u8 (bt a0 (ji28)) 63)) * 64))) (wrap32 (Go.bits .and .u8 (bt a0 (ji32)) 63)), false, 0)) else (none)) else (none)) = some (r1, r2, r3, r4, r5) := by first | (rw [hji32] at H; exact H) | (simp only [hji32] at H ⊢; exact H)
      have hji32w : (IntKind.i64.wrap (a1 + 2)) = ji32 := (i64_w _).trans hji32
      by_cases c33 : 0 ≤ (ji32)
      rotate_left
      · rw [if_neg c33] at H; exact absurd H (by simp)
      rw [if_pos c33] at H
      have c33b0 : decide (0 ≤ (ji32)) = true := decide_eq_true c33
      clear c33
      by_cases c34 : (ji32) < (a0.size : Int)
      rotate_left
      · rw [if_neg c34] at H; exact absurd H (by simp)
      rw [if_pos c34] at H
      have c34b0 : decide ((ji32) < (a0.size : Int)) = true := decide_eq_true c34
      clear c34
      simp only [Option.some.injEq, Prod.mk.injEq] at H
      obtain ⟨rfl, rfl, rfl, rfl, rfl⟩ := H
      have p18 : 0 ≤ (a1 : Int) := of_decide_eq_true (by assumption)
      have q18 : a1 < (a0.size : Int) := of_decide_eq_true (by assumption)
      have hx18 := bt_at a0 a1
      replace p18 := eq_true p18
      replace q18 := eq_true q18
      have p27 : 0 ≤ (a1 : Int) := of_decide_eq_true (by assumption)
      have q27 : a1 < (a0.size : Int) := of_decide_eq_true (by assumption)
      have hx27 := bt_at a0 a1
      replace p27 := eq_true p27
      replace q27 := eq_true q27
      have p31 : 0 ≤ ((ji28) : Int) := of_decide_eq_true (by assumption)
      have q31 : (ji28) < (a0.size : Int) := of_decide_eq_true (by assumption)
      have hx31 := bt_at a0 (ji28)
      replace p31 := eq_true p31
      replace q31 := eq_true q31
      have p35 : 0 ≤ ((ji32) : Int) := of_decide_eq_true (by assumption)
      have q35 : (ji32) < (a0.size : Int) := of_decide_eq_true (by assumption)
      have hx35 := bt_at a0 (ji32)
      replace p35 := eq_true p35
      replace q35 := eq_true q35
      have hcz36_0 : wc.cell? ⟨gb160, 0, none⟩ = some (.int .i64 0) := (blk_cell BK160.out 0).trans rfl
      have hcz36_1 : wc.cell? ⟨gb160, 1, none⟩ = some (.int .i64 0) := (blk_cell BK160.out 1).trans rfl
      have hcz36_2 : wc.cell? ⟨gb160, 2, none⟩ = some (.int .i32 0) := (blk_cell BK160.out 2).trans rfl
      have hcz36_3 : wc.cell? ⟨gb160, 3, none⟩ = some (.bool false) := (blk_cell BK160.out 3).trans rfl
      have hcz36_4 : wc.cell? ⟨gb160, 4, none⟩ = some (.int .u8 0) := (blk_cell BK160.out 4).trans rfl
      have hfz36_0 := blk_frozen BK160.out 0
      have hfz36_1 := blk_frozen BK160.out 1
      have hfz36_2 := blk_frozen BK160.out 2
      have hfz36_3 := blk_frozen BK160.out 3
      have hfz36_4 := blk_frozen BK160.out 4
      go_wp2
      repeat (go_quiet (fail); try go_wp2)
      refine bodyPost_ret (results_cell_row rfl _ _ gb160 75 #[.int .i64 a1, .int .i64 t161, .int .i32 (Go.bits .or .i32 (Go.bits .or .i32 (wrap32 ((wrap32 (Go.bits .and .u8 (bt a0 a1) 15)) * 4096)) (wrap32 ((wrap32 (Go.bits .and .u8 (bt a0 (ji28)) 63)) * 64))) (wrap32 (Go.bits .and .u8 (bt a0 (ji32)) 63))), .bool false, .int .u8 0] (0, 0) _ rfl (by (with_reducible repeat (first | refine blk_drewN ?_ _ | refine blk_drew ?_ | refine blk_alloc ?_ _)); refine blk_put (cs := #[.int .i64 a1, .int .i64 t161, .int .i32 (Go.bits .or .i32 (Go.bits .or .i32 (wrap32 ((wrap32 (Go.bits .and .u8 (bt a0 a1) 15)) * 4096)) (wrap32 ((wrap32 (Go.bits .and .u8 (bt a0 (ji28)) 63)) * 64))) (wrap32 (Go.bits .and .u8 (bt a0 (ji32)) 63))), .bool false, .int .u8 0]) ?_ 4 _ rfl; (with_reducible repeat (first | refine blk_drewN ?_ _ | refine blk_drew ?_ | refine blk_alloc ?_ _)); refine blk_put (cs := #[.int .i64 a1, .int .i64 t161, .int .i32 (Go.bits .or .i32 (Go.bits .or .i32 (wrap32 ((wrap32 (Go.bits .and .u8 (bt a0 a1) 15)) * 4096)) (wrap32 ((wrap32 (Go.bits .and .u8 (bt a0 (ji28)) 63)) * 64))) (wrap32 (Go.bits .and .u8 (bt a0 (ji32)) 63))), .bool false, .int .u8 0]) ?_ 3 _ rfl; (with_reducible repeat (first | refine blk_drewN ?_ _ | refine blk_drew ?_ | refine blk_alloc ?_ _)); refine blk_put (cs := #[.int .i64 a1, .int .i64 t161, .int .i32 0, .bool false, .int .u8 0]) ?_ 2 _ rfl; (with_reducible repeat (first | refine blk_drewN ?_ _ | refine blk_drew ?_ | refine blk_alloc ?_ _)); refine blk_put (cs := #[.int .i64 a1, .int .i64 0, .int .i32 0, .bool false, .int .u8 0]) ?_ 1 _ rfl; (with_reducible repeat (first | refine blk_drewN ?_ _ | refine blk_drew ?_ | refine blk_alloc ?_ _)); refine blk_put (cs := #[.int .i64 0, .int .i64 0, .int .i32 0, .bool false, .int .u8 0]) ?_ 0 _ rfl; (with_reducible repeat (first | refine blk_drewN ?_ _ | refine blk_drew ?_ | refine blk_alloc ?_ _)); exact BK160.out) Tryd.underlying75 rfl (by kernel_rfl)) rfl ?_
      exact ⟨by first | rfl | (simp [errW_none, errW_some] <;> rfl) | (simp only [← hji28, ← hji32]; first | rfl | (simp [errW_none, errW_some] <;> rfl)) | (simp [*, errW_none, errW_some] <;> rfl), by repeat (first | (with_reducible first | exact HB.out | apply below_alloc | apply pw_below_drewN | apply below_drew1 | refine below_set ?_ GE160.out) | exact HB.out)⟩
     ·
      rw [if_neg c26] at H
      have c26b0 : (t161 == 3) = false := beq_eq_false_iff_ne.mpr c26
      have c26b1 : (t161 != 3) = true := bne_iff_ne.mpr c26
      by_cases c37 : t161 = 4
      ·
       rw [if_pos c37] at H
       have c37b0 : (t161 == 4) = true := beq_iff_eq.mpr c37
       have c37b1 : (t161 != 4) = false := bne_eq_false_iff_eq.mpr c37
       clear c37
       obtain ⟨ji39, hji39⟩ : ∃ j_ : Int, (wrap64 (a1 + 1)) = j_ := ⟨_, rfl⟩
       replace H : (if 0 ≤ (ji39) then (if (ji39) < (a0.size : Int) then (if 0 ≤ (wrap64 (a1 + 2)) then (if (wrap64 (a1 + 2)) < (a0.size : Int) then (if 0 ≤ (wrap64 (a1 + 3)) then (if (wrap64 (a1 + 3)) < (a0.size : Int) then (some (a1, t161, Go.bits .or .i32 (Go.bits .or .i32 (Go.bits .or .i32 (wrap32 ((wrap32 (Go.bits .and .u8 (bt a0 a1) 7)) * 262144)) (wrap32 ((wrap32 (Go.bits .and .u8 (bt a0 (ji39)) 63)) * 4096))) (wrap32 ((wrap32 (Go.bits .and .u8 (bt a0 (wrap64 (a1 + 2))) 63)) * 64))) (wrap32 (Go.bits .and .u8 (bt a0 (wrap64 (a1 + 3))) 63)), false, 0)) else (none)) else (none)) else (none)) else (none)) else (none)) else (none)) = some (r1, r2, r3, r4, r5) := by first | (rw [hji39] at H; exact H) | (simp only [hji39] at H ⊢; exact H)
       have hji39w : (IntKind.i64.wrap (a1 + 1)) = ji39 := (i64_w _).trans hji39
       by_cases c40 : 0 ≤ (ji39)
       rotate_left
       · rw [if_neg c40] at H; exact absurd H (by simp)
       rw [if_pos c40] at H
       have c40b0 : decide (0 ≤ (ji39)) = true := decide_eq_true c40
       clear c40
       by_cases c41 : (ji39) < (a0.size : Int)
       rotate_left
       · rw [if_neg c41] at H; exact absurd H (by simp)
       rw [if_pos c41] at H
       have c41b0 : decide ((ji39) < (a0.size : Int)) = true := decide_eq_true c41
       clear c41
       obtain ⟨ji43, hji43⟩ : ∃ j_ : Int, (wrap64 (a1 + 2)) = j_ := ⟨_, rfl⟩
       replace H : (if 0 ≤ (ji43) then (if (ji43) < (a0.size : Int) then (if 0 ≤ (wrap64 (a1 + 3)) then (if (wrap64 (a1 + 3)) < (a0.size : Int) then (some (a1, t161, Go.bits .or .i32 (Go.bits .or .i32 (Go.bits .or .i32 (wrap32 ((wrap32 (Go.bits .and .u8 (bt a0 a1) 7)) * 262144)) (wrap32 ((wrap32 (Go.bits .and .u8 (bt a0 (ji39)) 63)) * 4096))) (wrap32 ((wrap32 (Go.bits .and .u8 (bt a0 (ji43)) 63)) * 64))) (wrap32 (Go.bits .and .u8 (bt a0 (wrap64 (a1 + 3))) 63)), false, 0)) else (none)) else (none)) else (none)) else (none)) = some (r1, r2, r3, r4, r5) := by first | (rw [hji43] at H; exact H) | (simp only [hji43] at H ⊢; exact H)
       have hji43w : (IntKind.i64.wrap (a1 + 2)) = ji43 := (i64_w _).trans hji43
       by_cases c44 : 0 ≤ (ji43)
       rotate_left
       · rw [if_neg c44] at H; exact absurd H (by simp)
       rw [if_pos c44] at H
       have c44b0 : decide (0 ≤ (ji43)) = true := decide_eq_true c44
       clear c44
       by_cases c45 : (ji43) < (a0.size : Int)
       rotate_left
       · rw [if_neg c45] at H; exact absurd H (by simp)
       rw [if_pos c45] at H
       have c45b0 : decide ((ji43) < (a0.size : Int)) = true := decide_eq_true c45
       clear c45
       obtain ⟨ji47, hji47⟩ : ∃ j_ : Int, (wrap64 (a1 + 3)) = j_ := ⟨_, rfl⟩
       replace H : (if 0 ≤ (ji47) then (if (ji47) < (a0.size : Int) then (some (a1, t161, Go.bits .or .i32 (Go.bits .or .i32 (Go.bits .or .i32 (wrap32 ((wrap32 (Go.bits .and .u8 (bt a0 a1) 7)) * 262144)) (wrap32 ((wrap32 (Go.bits .and .u8 (bt a0 (ji39)) 63)) * 4096))) (wrap32 ((wrap32 (Go.bits .and .u8 (bt a0 (ji43)) 63)) * 64))) (wrap32 (Go.bits .and .u8 (bt a0 (ji47)) 63)), false, 0)) else (none)) else (none)) = some (r1, r2, r3, r4, r5) := by first | (rw [hji47] at H; exact H) | (simp only [hji47] at H ⊢; exact H)
       have hji47w : (IntKind.i64.wrap (a1 + 3)) = ji47 := (i64_w _).trans hji47
       by_cases c48 : 0 ≤ (ji47)
       rotate_left
       · rw [if_neg c48] at H; exact absurd H (by simp)
       rw [if_pos c48] at H
       have c48b0 : decide (0 ≤ (ji47)) = true := decide_eq_true c48
       clear c48
       by_cases c49 : (ji47) < (a0.size : Int)
       rotate_left
       · rw [if_neg c49] at H; exact absurd H (by simp)
       rw [if_pos c49] at H
       have c49b0 : decide ((ji47) < (a0.size : Int)) = true := decide_eq_true c49
       clear c49
       simp only [Option.some.injEq, Prod.mk.injEq] at H
       obtain ⟨rfl, rfl, rfl, rfl, rfl⟩ := H
       have p18 : 0 ≤ (a1 : Int) := of_decide_eq_true (by assumption)
       have q18 : a1 < (a0.size : Int) := of_decide_eq_true (by assumption)
       have hx18 := bt_at a0 a1
       replace p18 := eq_true p18
       replace q18 := eq_true q18
       have p38 : 0 ≤ (a1 : Int) := of_decide_eq_true (by assumption)
       have q38 : a1 < (a0.size : Int) := of_decide_eq_true (by assumption)
       have hx38 := bt_at a0 a1
       replace p38 := eq_true p38
       replace q38 := eq_true q38
       have p42 : 0 ≤ ((ji39) : Int) := of_decide_eq_true (by assumption)
       have q42 : (ji39) < (a0.size : Int) := of_decide_eq_true (by assumption)
       have hx42 := bt_at a0 (ji39)
       replace p42 := eq_true p42
       replace q42 := eq_true q42
       have p46 : 0 ≤ ((ji43) : Int) := of_decide_eq_true (by assumption)
       have q46 : (ji43) < (a0.size : Int) := of_decide_eq_true (by assumption)
       have hx46 := bt_at a0 (ji43)
       replace p46 := eq_true p46
       replace q46 := eq_true q46
       have p50 : 0 ≤ ((ji47) : Int) := of_decide_eq_true (by assumption)
       have q50 : (ji47) < (a0.size : Int) := of_decide_eq_true (by assumption)
       have hx50 := bt_at a0 (ji47)
       replace p50 := eq_true p50
       replace q50 := eq_true q50
       have hcz51_0 : wc.cell? ⟨gb160, 0, none⟩ = some (.int .i64 0) := (blk_cell BK160.out 0).trans rfl
       have hcz51_1 : wc.cell? ⟨gb160, 1, none⟩ = some (.int .i64 0) := (blk_cell BK160.out 1).trans rfl
       have hcz51_2 : wc.cell? ⟨gb160, 2, none⟩ = some (.int .i32 0) := (blk_cell BK160.out 2).trans rfl
       have hcz51_3 : wc.cell? ⟨gb160, 3, none⟩ = some (.bool false) := (blk_cell BK160.out 3).trans rfl
       have hcz51_4 : wc.cell? ⟨gb160, 4, none⟩ = some (.int .u8 0) := (blk_cell BK160.out 4).trans rfl
       have hfz51_0 := blk_frozen BK160.out 0
       have hfz51_1 := blk_frozen BK160.out 1
       have hfz51_2 := blk_frozen BK160.out 2
       have hfz51_3 := blk_frozen BK160.out 3
       have hfz51_4 := blk_frozen BK160.out 4
       go_wp2
       repeat (go_quiet (fail); try go_wp2)
       refine bodyPost_ret (results_cell_row rfl _ _ gb160 75 #[.int .i64 a1, .int .i64 t161, .int .i32 (Go.bits .or .i32 (Go.bits .or .i32 (Go.bits .or .i32 (wrap32 ((wrap32 (Go.bits .and .u8 (bt a0 a1) 7)) * 262144)) (wrap32 ((wrap32 (Go.bits .and .u8 (bt a0 (ji39)) 63)) * 4096))) (wrap32 ((wrap32 (Go.bits .and .u8 (bt a0 (ji43)) 63)) * 64))) (wrap32 (Go.bits .and .u8 (bt a0 (ji47)) 63))), .bool false, .int .u8 0] (0, 0) _ rfl (by (with_reducible repeat (first | refine blk_drewN ?_ _ | refine blk_drew ?_ | refine blk_alloc ?_ _)); refine blk_put (cs := #[.int .i64 a1, .int .i64 t161, .int .i32 (Go.bits .or .i32 (Go.bits .or .i32 (Go.bits .or .i32 (wrap32 ((wrap32 (Go.bits .and .u8 (bt a0 a1) 7)) * 262144)) (wrap32 ((wrap32 (Go.bits .and .u8 (bt a0 (ji39)) 63)) * 4096))) (wrap32 ((wrap32 (Go.bits .and .u8 (bt a0 (ji43)) 63)) * 64))) (wrap32 (Go.bits .and .u8 (bt a0 (ji47)) 63))), .bool false, .int .u8 0]) ?_ 4 _ rfl; (with_reducible repeat (first | refine blk_drewN ?_ _ | refine blk_drew ?_ | refine blk_alloc ?_ _)); refine blk_put (cs := #[.int .i64 a1, .int .i64 t161, .int .i32 (Go.bits .or .i32 (Go.bits .or .i32 (Go.bits .or .i32 (wrap32 ((wrap32 (Go.bits .and .u8 (bt a0 a1) 7)) * 262144)) (wrap32 ((wrap32 (Go.bits .and .u8 (bt a0 (ji39)) 63)) * 4096))) (wrap32 ((wrap32 (Go.bits .and .u8 (bt a0 (ji43)) 63)) * 64))) (wrap32 (Go.bits .and .u8 (bt a0 (ji47)) 63))), .bool false, .int .u8 0]) ?_ 3 _ rfl; (with_reducible repeat (first | refine blk_drewN ?_ _ | refine blk_drew ?_ | refine blk_alloc ?_ _)); refine blk_put (cs := #[.int .i64 a1, .int .i64 t161, .int .i32 0, .bool false, .int .u8 0]) ?_ 2 _ rfl; (with_reducible repeat (first | refine blk_drewN ?_ _ | refine blk_drew ?_ | refine blk_alloc ?_ _)); refine blk_put (cs := #[.int .i64 a1, .int .i64 0, .int .i32 0, .bool false, .int .u8 0]) ?_ 1 _ rfl; (with_reducible repeat (first | refine blk_drewN ?_ _ | refine blk_drew ?_ | refine blk_alloc ?_ _)); refine blk_put (cs := #[.int .i64 0, .int .i64 0, .int .i32 0, .bool false, .int .u8 0]) ?_ 0 _ rfl; (with_reducible repeat (first | refine blk_drewN ?_ _ | refine blk_drew ?_ | refine blk_alloc ?_ _)); exact BK160.out) Tryd.underlying75 rfl (by kernel_rfl)) rfl ?_
       exact ⟨by first | rfl | (simp [errW_none, errW_some] <;> rfl) | (simp only [← hji39, ← hji43, ← hji47]; first | rfl | (simp [errW_none, errW_some] <;> rfl)) | (simp [*, errW_none, errW_some] <;> rfl), by repeat (first | (with_reducible first | exact HB.out | apply below_alloc | apply pw_below_drewN | apply below_drew1 | refine below_set ?_ GE160.out) | exact HB.out)⟩
      ·
       rw [if_neg c37] at H
       have c37b0 : (t161 == 4) = false := beq_eq_false_iff_ne.mpr c37
       have c37b1 : (t161 != 4) = true := bne_iff_ne.mpr c37
       simp only [Option.some.injEq, Prod.mk.injEq] at H
       obtain ⟨rfl, rfl, rfl, rfl, rfl⟩ := H
       have p18 : 0 ≤ (a1 : Int) := of_decide_eq_true (by assumption)
       have q18 : a1 < (a0.size : Int) := of_decide_eq_true (by assumption)
       have hx18 := bt_at a0 a1
       replace p18 := eq_true p18
       replace q18 := eq_true q18
       have hcz52_0 : wc.cell? ⟨gb160, 0, none⟩ = some (.int .i64 0) := (blk_cell BK160.out 0).trans rfl
       have hcz52_1 : wc.cell? ⟨gb160, 1, none⟩ = some (.int .i64 0) := (blk_cell BK160.out 1).trans rfl
       have hcz52_2 : wc.cell? ⟨gb160, 2, none⟩ = some (.int .i32 0) := (blk_cell BK160.out 2).trans rfl
       have hcz52_3 : wc.cell? ⟨gb160, 3, none⟩ = some (.bool false) := (blk_cell BK160.out 3).trans rfl
       have hcz52_4 : wc.cell? ⟨gb160, 4, none⟩ = some (.int .u8 0) := (blk_cell BK160.out 4).trans rfl
       have hfz52_0 := blk_frozen BK160.out 0
       have hfz52_1 := blk_frozen BK160.out 1
       have hfz52_2 := blk_frozen BK160.out 2
       have hfz52_3 := blk_frozen BK160.out 3
       have hfz52_4 := blk_frozen BK160.out 4
       go_wp2
       repeat (go_quiet (fail); try go_wp2)
       refine bodyPost_ret (results_cell_row rfl _ _ gb160 75 #[.int .i64 a1, .int .i64 t161, .int .i32 (wrap32 (bt a0 a1)), .bool false, .int .u8 0] (0, 0) _ rfl (by (with_reducible repeat (first | refine blk_drewN ?_ _ | refine blk_drew ?_ | refine blk_alloc ?_ _)); refine blk_put (cs := #[.int .i64 a1, .int .i64 t161, .int .i32 (wrap32 (bt a0 a1)), .bool false, .int .u8 0]) ?_ 4 _ rfl; (with_reducible repeat (first | refine blk_drewN ?_ _ | refine blk_drew ?_ | refine blk_alloc ?_ _)); refine blk_put (cs := #[.int .i64 a1, .int .i64 t161, .int .i32 (wrap32 (bt a0 a1)), .bool false, .int .u8 0]) ?_ 3 _ rfl; (with_reducible repeat (first | refine blk_drewN ?_ _ | refine blk_drew ?_ | refine blk_alloc ?_ _)); refine blk_put (cs := #[.int .i64 a1, .int .i64 t161, .int .i32 0, .bool false, .int .u8 0]) ?_ 2 _ rfl; (with_reducible repeat (first | refine blk_drewN ?_ _ | refine blk_drew ?_ | refine blk_alloc ?_ _)); refine blk_put (cs := #[.int .i64 a1, .int .i64 0, .int .i32 0, .bool false, .int .u8 0]) ?_ 1 _ rfl; (with_reducible repeat (first | refine blk_drewN ?_ _ | refine blk_drew ?_ | refine blk_alloc ?_ _)); refine blk_put (cs := #[.int .i64 0, .int .i64 0, .int .i32 0, .bool false, .int .u8 0]) ?_ 0 _ rfl; (with_reducible repeat (first | refine blk_drewN ?_ _ | refine blk_drew ?_ | refine blk_alloc ?_ _)); exact BK160.out) Tryd.underlying75 rfl (by kernel_rfl)) rfl ?_
       exact ⟨by first | rfl | (simp [errW_none, errW_some] <;> rfl) | (simp [*, errW_none, errW_some] <;> rfl), by repeat (first | (with_reducible first | exact HB.out | apply below_alloc | apply pw_below_drewN | apply below_drew1 | refine below_set ?_ GE160.out) | exact HB.out)⟩

/-! ### siglumref01_Cells: function 20 -/
def siglumref01_Cells.l0 : Nat → ByteArray → List (S75) → Int → Option ((List (S75)))
 | 0, _, _, _ => none
 | k + 1, x0, x3, x4 => if x4 < (x0.size : Int) then ((siglumref01_cell.f k x0 x4).bind fun bt163 => (if x3.length < 5864062014805 then (siglumref01_Cells.l0 k x0 (x3 ++ [(⟨bt163.1, bt163.2.1, bt163.2.2.1, bt163.2.2.2.1, bt163.2.2.2.2⟩ : S75)]) (wrap64 (x4 + bt163.2.1))) else (none))) else (some x3)
def siglumref01_Cells.f (k : Nat) (a0 : ByteArray) : Option ((List (S75))) := siglumref01_Cells.l0 k a0 ([] : List (S75)) 0
theorem siglumref01_Cells.mono_l : ∀ k, (∀ y0 y1 y2, LeO (siglumref01_Cells.l0 k y0 y1 y2) (siglumref01_Cells.l0 (k + 1) y0 y1 y2))
 | 0 => fun _ _ _ r h => by simp [siglumref01_Cells.l0] at h
 | k + 1 => by
  have ih0 := siglumref01_Cells.mono_l k
  ·
   intro y0 y1 y2
   unfold siglumref01_Cells.l0
   repeat' first
   | (with_reducible exact ih0 _ _ _)
   | (with_reducible exact siglumref01_cell.mono _ _ _)
   | (with_reducible exact LeO.refl _)
   | (with_reducible exact LeO.none _)
   | (with_reducible refine LeO.ite ?_ ?_)
   | (with_reducible refine LeO.bind ?_ (fun _ => ?_))
   | exact ih0 _ _ _
   | exact siglumref01_cell.mono _ _ _
   | exact LeO.none _
   | refine LeO.ite ?_ ?_
   | refine LeO.bind ?_ (fun _ => ?_)
theorem siglumref01_Cells.mono : ∀ a0 k, LeO (siglumref01_Cells.f k a0) (siglumref01_Cells.f (k + 1) a0) := by
 intro a0 k
 have ih0 := siglumref01_Cells.mono_l k
 unfold siglumref01_Cells.f
 repeat' first
  | (with_reducible exact ih0 _ _ _)
  | (with_reducible exact siglumref01_cell.mono _ _ _)
  | (with_reducible exact LeO.refl _)
  | (with_reducible exact LeO.none _)
  | (with_reducible refine LeO.ite ?_ ?_)
  | (with_reducible refine LeO.bind ?_ (fun _ => ?_))
  | exact ih0 _ _ _
  | exact siglumref01_cell.mono _ _ _
  | exact LeO.none _
  | refine LeO.ite ?_ ?_
  | refine LeO.bind ?_ (fun _ => ?_)
set_option maxHeartbeats 8000000 in
set_option maxRecDepth 100000 in
theorem siglumref01_Cells.calls (k : Nat) (a0 : ByteArray) (r : List (S75)) (w : World) (h : siglumref01_Cells.f k a0 = some r) :
 Calls Tryd.prog 20 #[.string a0] w fun e w' => ∃ v0_ : Value, e = .returned (v0_) ∧ Kd.R k75 75 w' w.heap.size (fun _ => True) v0_ r ∧ Below w.heap.size w w' := by
 have hu75 := Tryd.underlying75
 have HB := Aside0.mk (Below.refl w.heap.size w)
 have H : (siglumref01_Cells.l0 k a0 ([] : List (S75)) 0) = some r := h
 clear h
 have H' := Aside0.mk H
 clear H
 go_enter Tryd.func20, Tryd.ntmps20
 go_wp2
 go_loopg [3, 4] k (fun kq v3 v4 w' => ∃ (x3_1 : List (S75)) (x4_1 : Int), v4 = .int .i64 x4_1 ∧ Aside0 (siglumref01_Cells.l0 kq a0 x3_1 x4_1 = some r) ∧ Aside0 (kq ≤ k) ∧ Aside0 (Kd.R k75 75 w' w.heap.size (fun _ => True) v3 x3_1) ∧ Aside0 (Below w.heap.size w w'))
 case atStart => exact ⟨(([] : List (S75))), (0), (by first | rfl | (simp; done) | (simp [*]; done)), H', ⟨Nat.le_refl _⟩, ⟨by first | exact Kd.R_nil _ _ _ _ _ | exact Kd.N_nil _ _ _ _ _ | exact Kd.V_nil _ _ _ _ _ | exact Kd.Q_nil _ _ _ _ _ | exact Kd.S_nil _ _ _ _ _⟩, ⟨by repeat (first | (with_reducible first | exact HB.out | apply below_alloc | apply pw_below_drewN | apply below_drew1) | exact HB.out)⟩⟩
 case round =>
  clear H'
  obtain ⟨x3_1, x4_1, rfl, HA, HK1, HO_3, HB⟩ := hrel
  cases gk with
  | zero => exact absurd HA.out (by simp [siglumref01_Cells.l0])
  | succ k1 =>
   have H := HA.out
   clear HA
   simp only [siglumref01_Cells.l0] at H
   by_cases c2 : x4_1 < (a0.size : Int)
   ·
    rw [if_pos c2] at H
    have c2b0 : decide (x4_1 < (a0.size : Int)) = true := decide_eq_true c2
    clear c2
    replace H := Option.bind_eq_some_iff.mp H
    obtain ⟨⟨t163, t164, t165, t166, t167⟩, A30, H⟩ := H
    replace H : (if x3_1.length < 5864062014805 then (siglumref01_Cells.l0 k1 a0 (x3_1 ++ [(⟨t163, t164, t165, t166, t167⟩ : S75)]) (wrap64 (x4_1 + t164))) else (none)) = some r := H
    have A3 := Aside0.mk A30
    clear A30
    by_cases c4 : x3_1.length < 5864062014805
    rotate_left
    · rw [if_neg c4] at H; exact absurd H (by simp)
    rw [if_pos c4] at H
    have LMc4 := Aside0.mk c4
    clear c4
    obtain ⟨y169, hy169⟩ : ∃ y_ : List (S75), y_ = (x3_1 ++ [(⟨t163, t164, t165, t166, t167⟩ : S75)]) := ⟨_, rfl⟩
    replace H : (siglumref01_Cells.l0 k1 a0 y169 (wrap64 (x4_1 + t164))) = some r := by first | (rw [hy169]; with_reducible exact H) | (have H2_ := (Option.bind_some _ _).symm.trans H; rw [hy169]; with_reducible exact H2_) | (have H2_ := (Option.bind_some _ _).symm.trans H; with_reducible exact H2_) | with_reducible exact H | (rw [hy169]; exact H) | exact H
    have Ny169 := Aside0.mk hy169
    clear hy169
    have H' := Aside0.mk H
    clear H
    go_wp2_with (first | ((with_reducible refine gate_callee (f := 39) rfl ?_); refine goesL_ (some 12) rfl rfl Tryd.func39 (by kernel_rfl) rfl #[.string a0, .int .i64 x4_1] rfl (by (try simp only [List.map_toArray, List.map_cons, List.map_nil]); first | done | rfl | (simp only [List.length_drop, List.length_take]; rfl)) ?_; (with_reducible refine (siglumref01_cell.calls k1 a0 x4_1 t163 t164 t165 t166 t167 _ A3.out).mono ?_); rintro e w5 ⟨rfl, hb⟩; refine ⟨_, rfl, ?_⟩; have n0_ := Aside0.mk (Kd.R_below (by (with_reducible repeat (first | apply Kd.R_alloc | apply Kd.R_drewN | apply Kd.R_drew)); exact HO_3.out) hb); have n1_ := Aside0.mk (below_step (by repeat (first | (with_reducible first | exact HB.out | apply below_alloc | apply pw_below_drewN | apply below_drew1) | exact HB.out)) hb); clear HO_3; clear HB; have HO_3 := n0_; have HB := n1_; clear n0_ n1_; (try clear hb); (try clear hb2); (try clear hk); (try clear hi)) | ((with_reducible refine gate_dst (N := 5) rfl ?_); refine box_event ?hg (N := 5) ?hd (cs := #[.int .i64 0, .int .i64 0, .int .i32 0, .bool false, .int .u8 0]) (t := 75) ?hr ?_; (case hd => rfl); (case hg => rfl); (case hr => first | (go_simp; done) | (go_simp; rfl)); intro gb168 hg w6 hbox hb; have n0_ := Aside0.mk (Kd.R_below (Kd.R_elderB (by (with_reducible repeat (first | apply Kd.R_alloc | apply Kd.R_drewN | apply Kd.R_drew)); exact HO_3.out) gb168 (Nat.le_of_eq hg.symm)) hb); have n1_ := Aside0.mk (below_step (by repeat (first | (with_reducible first | exact HB.out | apply below_alloc | apply pw_below_drewN | apply below_drew1) | exact HB.out)) hb); have n2_ := Aside0.mk (hbox); have n3_ := Aside0.mk ((by rw [hg]; exact (below_size (by repeat (first | (with_reducible first | exact HB.out | apply below_alloc | apply pw_below_drewN | apply below_drew1) | exact HB.out))) : w.heap.size ≤ gb168)); have n4_ := Aside0.mk ((by rw [hg]; exact (below_size (by repeat (first | (with_reducible first | exact HB.out | apply below_alloc | apply pw_below_drewN | apply below_drew1) | exact HB.out))) : w.heap.size ≤ gb168)); clear HO_3; clear HB; have HO_3 := n0_; have HB := n1_; have BK168 := n2_; have GW168 := n3_; have GE168 := n4_; clear n0_ n1_ n2_ n3_ n4_; clear hb hbox hg; have hcz7_0 : w6.cell? ⟨gb168, 0, none⟩ = some (.int .i64 0) := (blk_cell BK168.out 0).trans rfl; have hcz7_1 : w6.cell? ⟨gb168, 1, none⟩ = some (.int .i64 0) := (blk_cell BK168.out 1).trans rfl; have hcz7_2 : w6.cell? ⟨gb168, 2, none⟩ = some (.int .i32 0) := (blk_cell BK168.out 2).trans rfl; have hcz7_3 : w6.cell? ⟨gb168, 3, none⟩ = some (.bool false) := (blk_cell BK168.out 3).trans rfl; have hcz7_4 : w6.cell? ⟨gb168, 4, none⟩ = some (.int .u8 0) := (blk_cell BK168.out 4).trans rfl; have hfz7_0 := blk_frozen BK168.out 0; have hfz7_1 := blk_frozen BK168.out 1; have hfz7_2 := blk_frozen BK168.out 2; have hfz7_3 := blk_frozen BK168.out 3; have hfz7_4 := blk_frozen BK168.out 4) | ((with_reducible refine gate_builtin (b := .append) (xs := #[.tmp 13, .tmp 15]) rfl ?_); at_builtin; refine Kd.R_append k75 (w0 := w) w.heap.size rfl (.tmp 13) (.tmp 15) 36 75 (.agg #[(.int .i64 0), (.int .i64 0), (.int .i32 0), (.bool false), (.int .u8 0)]) 24 rfl Tryd.underlying36 info75 rfl (by decide) (by omega) u3 x3_1 (⟨t163, t164, t165, t166, t167⟩ : S75) [.int .i64 t163, .int .i64 t164, .int .i32 t165, .bool t166, .int .u8 t167] (fun k_ => k_ ≠ gb168) (fun _ => False) rfl (by first | (go_simp; done) | (go_simp; rfl)) ?aP (fun _ hk => hk.elim) ?aF ?aO ?aB ?aS ?aL ?_; (case aP => exact k75_mkM _ _ _ (⟨t163, t164, t165, t166, t167⟩ : S75)); (case aB => exact (by repeat (first | (with_reducible first | exact HB.out | apply below_alloc | apply pw_below_drewN | apply below_drew1 | refine below_set ?_ GE168.out) | exact HB.out))); (case aF => exact (fun k_ hk => Kd.freshB (g := gb168) (o := .cells #[.int .i64 t163, .int .i64 t164, .int .i32 t165, .bool t166, .int .u8 t167] 75 (0, 0)) (by (with_reducible repeat (first | refine blk_drewN ?_ _ | refine blk_drew ?_ | refine blk_alloc ?_ _)); refine blk_put (cs := #[.int .i64 t163, .int .i64 t164, .int .i32 t165, .bool t166, .int .u8 0]) ?_ 4 _ rfl; (with_reducible repeat (first | refine blk_drewN ?_ _ | refine blk_drew ?_ | refine blk_alloc ?_ _)); refine blk_put (cs := #[.int .i64 t163, .int .i64 t164, .int .i32 t165, .bool false, .int .u8 0]) ?_ 3 _ rfl; (with_reducible repeat (first | refine blk_drewN ?_ _ | refine blk_drew ?_ | refine blk_alloc ?_ _)); refine blk_put (cs := #[.int .i64 t163, .int .i64 t164, .int .i32 0, .bool false, .int .u8 0]) ?_ 2 _ rfl; (with_reducible repeat (first | refine blk_drewN ?_ _ | refine blk_drew ?_ | refine blk_alloc ?_ _)); refine blk_put (cs := #[.int .i64 t163, .int .i64 0, .int .i32 0, .bool false, .int .u8 0]) ?_ 1 _ rfl; (with_reducible repeat (first | refine blk_drewN ?_ _ | refine blk_drew ?_ | refine blk_alloc ?_ _)); refine blk_put (cs := #[.int .i64 0, .int .i64 0, .int .i32 0, .bool false, .int .u8 0]) ?_ 0 _ rfl; (with_reducible repeat (first | refine blk_drewN ?_ _ | refine blk_drew ?_ | refine blk_alloc ?_ _)); exact BK168.out) k_ hk)); (case aO => exact (by (with_reducible repeat (first | apply Kd.R_alloc | apply Kd.R_drewN | apply Kd.R_drew)); exact Kd.R_mono (Kd.R_far (p := ⟨gb168, 4, none⟩) (Kd.R_far (p := ⟨gb168, 3, none⟩) (Kd.R_far (p := ⟨gb168, 2, none⟩) (Kd.R_far (p := ⟨gb168, 1, none⟩) (Kd.R_far (p := ⟨gb168, 0, none⟩) (Kd.R_mono HO_3.out (fun k_ hk => (⟨hk, hk.2⟩ : _ ∧ k_ ≠ gb168))) (fun _ hk => hk.2) (.int .i64 t163)) (fun _ hk => hk.2) (.int .i64 t164)) (fun _ hk => hk.2) (.int .i32 t165)) (fun _ hk => hk.2) (.bool t166)) (fun _ hk => hk.2) (.int .u8 t167)) (fun _ hk => hk.1.2))); (case aS => exact (below_size (by repeat (first | (with_reducible first | exact HB.out | apply below_alloc | apply pw_below_drewN | apply below_drew1 | refine below_set ?_ GE168.out) | exact HB.out)))); (case aL => have := LMc4.out; omega); intro v170 w8 ho hb hg hat; rw [← Ny169.out] at ho; have n0_ := Aside0.mk (blk_grown (g := gb168) (o := .cells #[.int .i64 t163, .int .i64 t164, .int .i32 t165, .bool t166, .int .u8 t167] 75 (0, 0)) (by (with_reducible repeat (first | refine blk_drewN ?_ _ | refine blk_drew ?_ | refine blk_alloc ?_ _)); refine blk_put (cs := #[.int .i64 t163, .int .i64 t164, .int .i32 t165, .bool t166, .int .u8 0]) ?_ 4 _ rfl; (with_reducible repeat (first | refine blk_drewN ?_ _ | refine blk_drew ?_ | refine blk_alloc ?_ _)); refine blk_put (cs := #[.int .i64 t163, .int .i64 t164, .int .i32 t165, .bool false, .int .u8 0]) ?_ 3 _ rfl; (with_reducible repeat (first | refine blk_drewN ?_ _ | refine blk_drew ?_ | refine blk_alloc ?_ _)); refine blk_put (cs := #[.int .i64 t163, .int .i64 t164, .int .i32 0, .bool false, .int .u8 0]) ?_ 2 _ rfl; (with_reducible repeat (first | refine blk_drewN ?_ _ | refine blk_drew ?_ | refine blk_alloc ?_ _)); refine blk_put (cs := #[.int .i64 t163, .int .i64 0, .int .i32 0, .bool false, .int .u8 0]) ?_ 1 _ rfl; (with_reducible repeat (first | refine blk_drewN ?_ _ | refine blk_drew ?_ | refine blk_alloc ?_ _)); refine blk_put (cs := #[.int .i64 0, .int .i64 0, .int .i32 0, .bool false, .int .u8 0]) ?_ 0 _ rfl; (with_reducible repeat (first | refine blk_drewN ?_ _ | refine blk_drew ?_ | refine blk_alloc ?_ _)); exact BK168.out) hg (Kd.R_away HO_3.out (fun _ hk => hk.2))); have n1_ := Aside0.mk (hb); have n2_ := Aside0.mk (ho); clear BK168; clear HB; clear HO_3; have BK168 := n0_; have HB := n1_; have HO171 := n2_; clear n0_ n1_ n2_; clear ho hb hg hat; have hcz9_0 : w8.cell? ⟨gb168, 0, none⟩ = some (.int .i64 t163) := (blk_cell BK168.out 0).trans rfl; have hcz9_1 : w8.cell? ⟨gb168, 1, none⟩ = some (.int .i64 t164) := (blk_cell BK168.out 1).trans rfl; have hcz9_2 : w8.cell? ⟨gb168, 2, none⟩ = some (.int .i32 t165) := (blk_cell BK168.out 2).trans rfl; have hcz9_3 : w8.cell? ⟨gb168, 3, none⟩ = some (.bool t166) := (blk_cell BK168.out 3).trans rfl; have hcz9_4 : w8.cell? ⟨gb168, 4, none⟩ = some (.int .u8 t167) := (blk_cell BK168.out 4).trans rfl; have hfz9_0 := blk_frozen BK168.out 0; have hfz9_1 := blk_frozen BK168.out 1; have hfz9_2 := blk_frozen BK168.out 2; have hfz9_3 := blk_frozen BK168.out 3; have hfz9_4 := blk_frozen BK168.out 4))
    go_roundg k1
    case measure => have := HK1.out; omega
    case rel => exact ⟨(y169), (wrap64 (x4_1 + t164)), (by first | rfl | (simp; done) | (simp [*]; done)), H', ⟨by have := HK1.out; omega⟩, ⟨by (with_reducible repeat (first | apply Kd.R_alloc | apply Kd.R_drewN | apply Kd.R_drew)); exact Kd.R_mono HO171.out (fun _ hk => trivial)⟩, ⟨by repeat (first | (with_reducible first | exact HB.out | apply below_alloc | apply pw_below_drewN | apply below_drew1 | refine below_set ?_ GE168.out) | exact HB.out)⟩⟩
   ·
    rw [if_neg c2] at H
    have c2b0 : decide (x4_1 < (a0.size : Int)) = false := decide_eq_false c2
    clear c2
    obtain rfl := Option.some.inj H
    go_wp2
    go_ret
    exact ⟨_, by first | rfl | (simp [errW_none, errW_some] <;> rfl) | (simp [*, errW_none, errW_some] <;> rfl), by (with_reducible repeat (first | apply Kd.R_alloc | apply Kd.R_drewN | apply Kd.R_drew)); exact HO_3.out, by repeat (first | (with_reducible first | exact HB.out | apply below_alloc | apply pw_below_drewN | apply below_drew1) | exact HB.out)⟩

/-! ### siglumref08_cells: function 35 -/
def siglumref08_cells.f (k : Nat) (a0 : ByteArray) (a1 : ByteArray) : Option ((List (S75)) × (List (S75)) × Bool) := (siglumref01_Cells.f k a0).bind fun t172 => ((siglumref01_Cells.f k a1).bind fun t175 => (if (t172.length : Int) ≤ 256 then (some (t172, t175, decide ((t175.length : Int) ≤ 256))) else (some (t172, t175, false))))
theorem siglumref08_cells.mono : ∀ a0 a1 k, LeO (siglumref08_cells.f k a0 a1) (siglumref08_cells.f (k + 1) a0 a1) := by
  intro a0 a1 k
  unfold siglumref08_cells.f
  repeat' first
      | (with_reducible exact siglumref01_Cells.mono _ _)
      | (with_reducible exact LeO.refl _)
      | (with_reducible exact LeO.none _)
      | (with_reducible refine LeO.ite ?_ ?_)
      | (with_reducible refine LeO.bind ?_ (fun _ => ?_))
      | exact siglumref01_Cells.mono _ _
      | exact LeO.none _
      | refine LeO.ite ?_ ?_
      | refine LeO.bind ?_ (fun _ => ?_)
set_option maxHeartbeats 8000000 in
set_option maxRecDepth 100000 in
theorem siglumref08_cells.calls (k : Nat) (a0 : ByteArray) (a1 : ByteArray) (r1 : List (S75)) (r2 : List (S75)) (r3 : Bool) (w : World) (h : siglumref08_cells.f k a0 a1 = some (r1, r2, r3)) :
    Calls Tryd.prog 35 #[.string a0, .string a1] w fun e w' => ∃ v0_ v1_ : Value, e = .returned (.tuple #[v0_, v1_, .bool r3]) ∧ Kd.R k75 75 w' w.heap.size (fun k_ => some k_ ≠ (v1_ : Value).ownBlock) v0_ r1 ∧ Kd.R k75 75 w' w.heap.size (fun k_ => some k_ ≠ (v0_ : Value).ownBlock) v1_ r2 ∧ Below w.heap.size w w' := by
  have HB := Aside0.mk (Below.refl w.heap.size w)
  have H : ((siglumref01_Cells.f k a0).bind fun t172 => ((siglumref01_Cells.f k a1).bind fun t175 => (if (t172.length : Int) ≤ 256 then (some (t172, t175, decide ((t175.length : Int) ≤ 256))) else (some (t172, t175, false))))) = some (r1, r2, r3) := h
  clear h
  replace H := Option.bind_eq_some_iff.mp H
  obtain ⟨t172, A30, H⟩ := H
  replace H : ((siglumref01_Cells.f k a1).bind fun t175 => (if (t172.length : Int) ≤ 256 then (some (t172, t175, decide ((t175.length : Int) ≤ 256))) else (some (t172, t175, false)))) = some (r1, r2, r3) := H
  have A3 := Aside0.mk A30
  clear A30
  replace H := Option.bind_eq_some_iff.mp H
  obtain ⟨t175, A40, H⟩ := H
  replace H : (if (t172.length : Int) ≤ 256 then (some (t172, t175, decide ((t175.length : Int) ≤ 256))) else (some (t172, t175, false))) = some (r1, r2, r3) := H
  have A4 := Aside0.mk A40
  clear A40
  by_cases c5 : (t172.length : Int) ≤ 256
  · rw [if_pos c5] at H
    have c5b0 : decide ((t172.length : Int) ≤ 256) = true := decide_eq_true c5
    have c5b1 : decide (t172.length ≤ 256) = true := decide_eq_true (by omega)
    clear c5
    simp only [Option.some.injEq, Prod.mk.injEq] at H
    obtain ⟨rfl, rfl, rfl⟩ := H
    go_enter Tryd.func35, Tryd.ntmps35
    go_wp2_with (first | ((with_reducible refine gate_callee (f := 20) rfl ?_); refine goesL_ (some 10) rfl rfl Tryd.func20 (by kernel_rfl) rfl #[.string a0] rfl (by (try simp only [List.map_toArray, List.map_cons, List.map_nil]); first | done | rfl | (simp only [List.length_drop, List.length_take]; rfl)) ?_; (with_reducible refine (siglumref01_Cells.calls k a0 t172 _ A3.out).mono ?_); rintro e w6 ⟨v173, rfl, ho0, hb⟩; refine ⟨_, rfl, ?_⟩; have n0_ := Aside0.mk (Kd.R_lower ho0 (below_size (by repeat (first | (with_reducible first | exact HB.out | apply below_alloc | apply pw_below_drewN | apply below_drew1) | exact HB.out)))); have n1_ := Aside0.mk (below_step (by repeat (first | (with_reducible first | exact HB.out | apply below_alloc | apply pw_below_drewN | apply below_drew1) | exact HB.out)) hb); clear HB; have HO174 := n0_; have HB := n1_; clear n0_ n1_; (try clear hb); (try clear hb2); (try clear hk); (try clear hi); (try clear ho0)) | ((with_reducible refine gate_callee (f := 20) rfl ?_); refine goesL_ (some 12) rfl rfl Tryd.func20 (by kernel_rfl) rfl #[.string a1] rfl (by (try simp only [List.map_toArray, List.map_cons, List.map_nil]); first | done | rfl | (simp only [List.length_drop, List.length_take]; rfl)) ?_; (with_reducible refine (siglumref01_Cells.calls k a1 t175 _ A4.out).mono ?_); rintro e w7 ⟨v176, rfl, ho0, hb⟩; refine ⟨_, rfl, ?_⟩; have n0_ := Aside0.mk (Kd.R_elder' (by (with_reducible repeat (first | apply Kd.R_alloc | apply Kd.R_drewN | apply Kd.R_drew)); exact HO174.out) (Kd.R_base ho0) hb); have n1_ := Aside0.mk (Kd.R_lower (Kd.R_new' ho0 (Kd.R_lt (by (with_reducible repeat (first | apply Kd.R_alloc | apply Kd.R_drewN | apply Kd.R_drew)); exact HO174.out))) (below_size (by repeat (first | (with_reducible first | exact HB.out | apply below_alloc | apply pw_below_drewN | apply below_drew1) | exact HB.out)))); have n2_ := Aside0.mk (below_step (by repeat (first | (with_reducible first | exact HB.out | apply below_alloc | apply pw_below_drewN | apply below_drew1) | exact HB.out)) hb); clear HO174; clear HB; have HO174 := n0_; have HO177 := n1_; have HB := n2_; clear n0_ n1_ n2_; (try clear hb); (try clear hb2); (try clear hk); (try clear hi); (try clear ho0); obtain ⟨Ao8, co8, eo8⟩ := Kd.R_slice HO174.out; subst eo8; obtain ⟨Ao9, co9, eo9⟩ := Kd.R_slice HO177.out; subst eo9))
    go_ret3
    exact ⟨_, _, by first | rfl | (simp [errW_none, errW_some] <;> rfl) | (simp [*, errW_none, errW_some] <;> rfl), by (with_reducible repeat (first | apply Kd.R_alloc | apply Kd.R_drewN | apply Kd.R_drew)); exact Kd.R_mono HO174.out (fun _ hk => hk.2), by (with_reducible repeat (first | apply Kd.R_alloc | apply Kd.R_drewN | apply Kd.R_drew)); exact Kd.R_mono HO177.out (fun _ hk => hk.2), by repeat (first | (with_reducible first | exact HB.out | apply below_alloc | apply pw_below_drewN | apply below_drew1) | exact HB.out)⟩
  · rw [if_neg c5] at H
    have c5b0 : decide ((t172.length : Int) ≤ 256) = false := decide_eq_false c5
    have c5b1 : decide (t172.length ≤ 256) = false := decide_eq_false (by omega)
    clear c5
    simp only [Option.some.injEq, Prod.mk.injEq] at H
    obtain ⟨rfl, rfl, rfl⟩ := H
    go_enter Tryd.func35, Tryd.ntmps35
    go_wp2_with (first | ((with_reducible refine gate_callee (f := 20) rfl ?_); refine goesL_ (some 10) rfl rfl Tryd.func20 (by kernel_rfl) rfl #[.string a0] rfl (by (try simp only [List.map_toArray, List.map_cons, List.map_nil]); first | done | rfl | (simp only [List.length_drop, List.length_take]; rfl)) ?_; (with_reducible refine (siglumref01_Cells.calls k a0 t172 _ A3.out).mono ?_); rintro e w10 ⟨v173, rfl, ho0, hb⟩; refine ⟨_, rfl, ?_⟩; have n0_ := Aside0.mk (Kd.R_lower ho0 (below_size (by repeat (first | (with_reducible first | exact HB.out | apply below_alloc | apply pw_below_drewN | apply below_drew1) | exact HB.out)))); have n1_ := Aside0.mk (below_step (by repeat (first | (with_reducible first | exact HB.out | apply below_alloc | apply pw_below_drewN | apply below_drew1) | exact HB.out)) hb); clear HB; have HO174 := n0_; have HB := n1_; clear n0_ n1_; (try clear hb); (try clear hb2); (try clear hk); (try clear hi); (try clear ho0)) | ((with_reducible refine gate_callee (f := 20) rfl ?_); refine goesL_ (some 12) rfl rfl Tryd.func20 (by kernel_rfl) rfl #[.string a1] rfl (by (try simp only [List.map_toArray, List.map_cons, List.map_nil]); first | done | rfl | (simp only [List.length_drop, List.length_take]; rfl)) ?_; (with_reducible refine (siglumref01_Cells.calls k a1 t175 _ A4.out).mono ?_); rintro e w11 ⟨v176, rfl, ho0, hb⟩; refine ⟨_, rfl, ?_⟩; have n0_ := Aside0.mk (Kd.R_elder' (by (with_reducible repeat (first | apply Kd.R_alloc | apply Kd.R_drewN | apply Kd.R_drew)); exact HO174.out) (Kd.R_base ho0) hb); have n1_ := Aside0.mk (Kd.R_lower (Kd.R_new' ho0 (Kd.R_lt (by (with_reducible repeat (first | apply Kd.R_alloc | apply Kd.R_drewN | apply Kd.R_drew)); exact HO174.out))) (below_size (by repeat (first | (with_reducible first | exact HB.out | apply below_alloc | apply pw_below_drewN | apply below_drew1) | exact HB.out)))); have n2_ := Aside0.mk (below_step (by repeat (first | (with_reducible first | exact HB.out | apply below_alloc | apply pw_below_drewN | apply below_drew1) | exact HB.out)) hb); clear HO174; clear HB; have HO174 := n0_; have HO177 := n1_; have HB := n2_; clear n0_ n1_ n2_; (try clear hb); (try clear hb2); (try clear hk); (try clear hi); (try clear ho0); obtain ⟨Ao12, co12, eo12⟩ := Kd.R_slice HO174.out; subst eo12))
    go_ret3
    exact ⟨_, _, by first | rfl | (simp [errW_none, errW_some] <;> rfl) | (simp [*, errW_none, errW_some] <;> rfl), by (with_reducible repeat (first | apply Kd.R_alloc | apply Kd.R_drewN | apply Kd.R_drew)); exact Kd.R_mono HO174.out (fun _ hk => hk.2), by (with_reducible repeat (first | apply Kd.R_alloc | apply Kd.R_drewN | apply Kd.R_drew)); exact Kd.R_mono HO177.out (fun _ hk => hk.2), by repeat (first | (with_reducible first | exact HB.out | apply below_alloc | apply pw_below_drewN | apply below_drew1) | exact HB.out)⟩

/-! ### siglumref08_Same: function 37 -/
def siglumref08_Same.f (a0_0 : Int) (a0_1 : Int) (a0_2 : Int) (a0_3 : Bool) (a0_4 : Int) (a1_0 : Int) (a1_1 : Int) (a1_2 : Int) (a1_3 : Bool) (a1_4 : Int) : Option (Bool) := if (a0_3 == a1_3) = true then (if a0_3 = true then (if a0_4 = a1_4 then (some true) else (some false)) else (some (a0_2 == a1_2))) else (some false)
set_option maxHeartbeats 8000000 in
set_option maxRecDepth 100000 in
theorem siglumref08_Same.calls (a0_0 : Int) (a0_1 : Int) (a0_2 : Int) (a0_3 : Bool) (a0_4 : Int) (a1_0 : Int) (a1_1 : Int) (a1_2 : Int) (a1_3 : Bool) (a1_4 : Int) (r : Bool) (w : World) (h : siglumref08_Same.f a0_0 a0_1 a0_2 a0_3 a0_4 a1_0 a1_1 a1_2 a1_3 a1_4 = some r) :
 Calls Tryd.prog 37 #[.agg #[.int .i64 a0_0, .int .i64 a0_1, .int .i32 a0_2, .bool a0_3, .int .u8 a0_4], .agg #[.int .i64 a1_0, .int .i64 a1_1, .int .i32 a1_2, .bool a1_3, .int .u8 a1_4]] w fun e w' => e = .returned (.bool r) ∧ Below w.heap.size w w' := by
 have hu75 := Tryd.underlying75
 have HB := Aside0.mk (Below.refl w.heap.size w)
 have H : (if (a0_3 == a1_3) = true then (if a0_3 = true then (if a0_4 = a1_4 then (some true) else (some false)) else (some (a0_2 == a1_2))) else (some false)) = some r := h
 clear h
 by_cases c3 : (a0_3 == a1_3) = true
 ·
  rw [if_pos c3] at H
  have c3b0 : (a0_3 == a1_3) = true := c3
  (try (have c3b1 : decide (a0_3 = a1_3) = true := by simpa using c3))
  (try (have c3b2 : (a0_3 == a1_3) = true := by simpa using c3))
  clear c3
  by_cases c4 : a0_3 = true
  ·
   subst c4
   have H1 : (if a0_4 = a1_4 then (some true) else (some false)) = some r := by rw [if_pos rfl] at H; exact H
   clear H
   have H := H1
   clear H1
   by_cases c5 : a0_4 = a1_4
   ·
    rw [if_pos c5] at H
    have c5b0 : (a0_4 == a1_4) = true := beq_iff_eq.mpr c5
    have c5b1 : (a0_4 != a1_4) = false := bne_eq_false_iff_eq.mpr c5
    clear c5
    obtain rfl := Option.some.inj H
    go_enter Tryd.func37, Tryd.ntmps37
    go_wp2_with (first | ((with_reducible refine gate_dst (N := 2) rfl ?_); refine box_event ?hg (N := 2) ?hd (cs := #[.int .i64 a0_0, .int .i64 a0_1, .int .i32 a0_2, .bool true, .int .u8 a0_4]) (t := 75) ?hr ?_; (case hd => rfl); (case hg => rfl); (case hr => first | (go_simp; done) | (go_simp; rfl)); intro gb178 hg w6 hbox hb; have n0_ := Aside0.mk (below_step (by repeat (first | (with_reducible first | exact HB.out | apply below_alloc | apply pw_below_drewN | apply below_drew1) | exact HB.out)) hb); have n1_ := Aside0.mk (hbox); have n2_ := Aside0.mk ((by rw [hg]; exact (below_size (by repeat (first | (with_reducible first | exact HB.out | apply below_alloc | apply pw_below_drewN | apply below_drew1) | exact HB.out))) : w.heap.size ≤ gb178)); have n3_ := Aside0.mk ((by rw [hg]; exact (below_size (by repeat (first | (with_reducible first | exact HB.out | apply below_alloc | apply pw_below_drewN | apply below_drew1) | exact HB.out))) : w.heap.size ≤ gb178)); clear HB; have HB := n0_; have BK178 := n1_; have GW178 := n2_; have GE178 := n3_; clear n0_ n1_ n2_ n3_; clear hb hbox hg) | ((with_reducible refine gate_dst (N := 3) rfl ?_); refine box_event ?hg (N := 3) ?hd (cs := #[.int .i64 a1_0, .int .i64 a1_1, .int .i32 a1_2, .bool a1_3, .int .u8 a1_4]) (t := 75) ?hr ?_; (case hd => rfl); (case hg => rfl); (case hr => first | (go_simp; done) | (go_simp; rfl)); intro gb179 hg w7 hbox hb; have n0_ := Aside0.mk (blk_below (g := gb178) (o := .cells #[.int .i64 a0_0, .int .i64 a0_1, .int .i32 a0_2, .bool true, .int .u8 a0_4] 75 (0, 0)) (by (with_reducible repeat (first | refine blk_drewN ?_ _ | refine blk_drew ?_ | refine blk_alloc ?_ _)); exact BK178.out) hb); have n1_ := Aside0.mk (below_step (by repeat (first | (with_reducible first | exact HB.out | apply below_alloc | apply pw_below_drewN | apply below_drew1 | refine below_set ?_ GE178.out) | exact HB.out)) hb); have n2_ := Aside0.mk (hbox); have n3_ := Aside0.mk ((by rw [hg]; exact (below_size (by repeat (first | (with_reducible first | exact HB.out | apply below_alloc | apply pw_below_drewN | apply below_drew1 | refine below_set ?_ GE178.out) | exact HB.out))) : w.heap.size ≤ gb179)); have n4_ := Aside0.mk ((by rw [hg]; exact (below_size (by repeat (first | (with_reducible first | exact HB.out | apply below_alloc | apply pw_below_drewN | apply below_drew1 | refine below_set ?_ GE178.out) | exact HB.out))) : w.heap.size ≤ gb179)); have n5_ := Aside0.mk ((by rw [hg]; exact Nat.ne_of_lt (blk_lt (g := gb178) (o := .cells #[.int .i64 a0_0, .int .i64 a0_1, .int .i32 a0_2, .bool true, .int .u8 a0_4] 75 (0, 0)) (by (with_reducible repeat (first | refine blk_drewN ?_ _ | refine blk_drew ?_ | refine blk_alloc ?_ _)); exact BK178.out)) : gb178 ≠ gb179)); have n6_ := Aside0.mk ((by rw [hg]; exact Nat.ne_of_gt (blk_lt (g := gb178) (o := .cells #[.int .i64 a0_0, .int .i64 a0_1, .int .i32 a0_2, .bool true, .int .u8 a0_4] 75 (0, 0)) (by (with_reducible repeat (first | refine blk_drewN ?_ _ | refine blk_drew ?_ | refine blk_alloc ?_ _)); exact BK178.out)) : gb179 ≠ gb178)); clear BK178; clear HB; have BK178 := n0_; have HB := n1_; have BK179 := n2_; have GW179 := n3_; have GE179 := n4_; have NB178_179 := n5_; have NB179_178 := n6_; clear n0_ n1_ n2_ n3_ n4_ n5_ n6_; clear hb hbox hg; have hnb8 := NB178_179.out; have hnc8 := NB179_178.out; have hcz9_0 : w7.cell? ⟨gb178, 0, none⟩ = some (.int .i64 a0_0) := (blk_cell BK178.out 0).trans rfl; have hcz9_1 : w7.cell? ⟨gb178, 1, none⟩ = some (.int .i64 a0_1) := (blk_cell BK178.out 1).trans rfl; have hcz9_2 : w7.cell? ⟨gb178, 2, none⟩ = some (.int .i32 a0_2) := (blk_cell BK178.out 2).trans rfl; have hcz9_3 : w7.cell? ⟨gb178, 3, none⟩ = some (.bool true) := (blk_cell BK178.out 3).trans rfl; have hcz9_4 : w7.cell? ⟨gb178, 4, none⟩ = some (.int .u8 a0_4) := (blk_cell BK178.out 4).trans rfl; have hfz9_0 := blk_frozen BK178.out 0; have hfz9_1 := blk_frozen BK178.out 1; have hfz9_2 := blk_frozen BK178.out 2; have hfz9_3 := blk_frozen BK178.out 3; have hfz9_4 := blk_frozen BK178.out 4; have hcz10_0 : w7.cell? ⟨gb179, 0, none⟩ = some (.int .i64 a1_0) := (blk_cell BK179.out 0).trans rfl; have hcz10_1 : w7.cell? ⟨gb179, 1, none⟩ = some (.int .i64 a1_1) := (blk_cell BK179.out 1).trans rfl; have hcz10_2 : w7.cell? ⟨gb179, 2, none⟩ = some (.int .i32 a1_2) := (blk_cell BK179.out 2).trans rfl; have hcz10_3 : w7.cell? ⟨gb179, 3, none⟩ = some (.bool a1_3) := (blk_cell BK179.out 3).trans rfl; have hcz10_4 : w7.cell? ⟨gb179, 4, none⟩ = some (.int .u8 a1_4) := (blk_cell BK179.out 4).trans rfl; have hfz10_0 := blk_frozen BK179.out 0; have hfz10_1 := blk_frozen BK179.out 1; have hfz10_2 := blk_frozen BK179.out 2; have hfz10_3 := blk_frozen BK179.out 3; have hfz10_4 := blk_frozen BK179.out 4))
    go_ret
    exact ⟨by first | rfl | (simp [errW_none, errW_some] <;> rfl) | (simp [*, errW_none, errW_some] <;> rfl), by repeat (first | (with_reducible first | exact HB.out | apply below_alloc | apply pw_below_drewN | apply below_drew1 | refine below_set ?_ GE178.out | refine below_set ?_ GE179.out) | exact HB.out)⟩
   ·
    rw [if_neg c5] at H
    have c5b0 : (a0_4 == a1_4) = false := beq_eq_false_iff_ne.mpr c5
    have c5b1 : (a0_4 != a1_4) = true := bne_iff_ne.mpr c5
    obtain rfl := Option.some.inj H
    go_enter Tryd.func37, Tryd.ntmps37
    go_wp2_with (first | ((with_reducible refine gate_dst (N := 2) rfl ?_); refine box_event ?hg (N := 2) ?hd (cs := #[.int .i64 a0_0, .int .i64 a0_1, .int .i32 a0_2, .bool true, .int .u8 a0_4]) (t := 75) ?hr ?_; (case hd => rfl); (case hg => rfl); (case hr => first | (go_simp; done) | (go_simp; rfl)); intro gb178 hg w11 hbox hb; have n0_ := Aside0.mk (below_step (by repeat (first | (with_reducible first | exact HB.out | apply below_alloc | apply pw_below_drewN | apply below_drew1) | exact HB.out)) hb); have n1_ := Aside0.mk (hbox); have n2_ := Aside0.mk ((by rw [hg]; exact (below_size (by repeat (first | (with_reducible first | exact HB.out | apply below_alloc | apply pw_below_drewN | apply below_drew1) | exact HB.out))) : w.heap.size ≤ gb178)); have n3_ := Aside0.mk ((by rw [hg]; exact (below_size (by repeat (first | (with_reducible first | exact HB.out | apply below_alloc | apply pw_below_drewN | apply below_drew1) | exact HB.out))) : w.heap.size ≤ gb178)); clear HB; have HB := n0_; have BK178 := n1_; have GW178 := n2_; have GE178 := n3_; clear n0_ n1_ n2_ n3_; clear hb hbox hg) | ((with_reducible refine gate_dst (N := 3) rfl ?_); refine box_event ?hg (N := 3) ?hd (cs := #[.int .i64 a1_0, .int .i64 a1_1, .int .i32 a1_2, .bool a1_3, .int .u8 a1_4]) (t := 75) ?hr ?_; (case hd => rfl); (case hg => rfl); (case hr => first | (go_simp; done) | (go_simp; rfl)); intro gb179 hg w12 hbox hb; have n0_ := Aside0.mk (blk_below (g := gb178) (o := .cells #[.int .i64 a0_0, .int .i64 a0_1, .int .i32 a0_2, .bool true, .int .u8 a0_4] 75 (0, 0)) (by (with_reducible repeat (first | refine blk_drewN ?_ _ | refine blk_drew ?_ | refine blk_alloc ?_ _)); exact BK178.out) hb); have n1_ := Aside0.mk (below_step (by repeat (first | (with_reducible first | exact HB.out | apply below_alloc | apply pw_below_drewN | apply below_drew1 | refine below_set ?_ GE178.out) | exact HB.out)) hb); have n2_ := Aside0.mk (hbox); have n3_ := Aside0.mk ((by rw [hg]; exact (below_size (by repeat (first | (with_reducible first | exact HB.out | apply below_alloc | apply pw_below_drewN | apply below_drew1 | refine below_set ?_ GE178.out) | exact HB.out))) : w.heap.size ≤ gb179)); have n4_ := Aside0.mk ((by rw [hg]; exact (below_size (by repeat (first | (with_reducible first | exact HB.out | apply below_alloc | apply pw_below_drewN | apply below_drew1 | refine below_set ?_ GE178.out) | exact HB.out))) : w.heap.size ≤ gb179)); have n5_ := Aside0.mk ((by rw [hg]; exact Nat.ne_of_lt (blk_lt (g := gb178) (o := .cells #[.int .i64 a0_0, .int .i64 a0_1, .int .i32 a0_2, .bool true, .int .u8 a0_4] 75 (0, 0)) (by (with_reducible repeat (first | refine blk_drewN ?_ _ | refine blk_drew ?_ | refine blk_alloc ?_ _)); exact BK178.out)) : gb178 ≠ gb179)); have n6_ := Aside0.mk ((by rw [hg]; exact Nat.ne_of_gt (blk_lt (g := gb178) (o := .cells #[.int .i64 a0_0, .int .i64 a0_1, .int .i32 a0_2, .bool true, .int .u8 a0_4] 75 (0, 0)) (by (with_reducible repeat (first | refine blk_drewN ?_ _ | refine blk_drew ?_ | refine blk_alloc ?_ _)); exact BK178.out)) : gb179 ≠ gb178)); clear BK178; clear HB; have BK178 := n0_; have HB := n1_; have BK179 := n2_; have GW179 := n3_; have GE179 := n4_; have NB178_179 := n5_; have NB179_178 := n6_; clear n0_ n1_ n2_ n3_ n4_ n5_ n6_; clear hb hbox hg; have hnb13 := NB178_179.out; have hnc13 := NB179_178.out; have hcz14_0 : w12.cell? ⟨gb178, 0, none⟩ = some (.int .i64 a0_0) := (blk_cell BK178.out 0).trans rfl; have hcz14_1 : w12.cell? ⟨gb178, 1, none⟩ = some (.int .i64 a0_1) := (blk_cell BK178.out 1).trans rfl; have hcz14_2 : w12.cell? ⟨gb178, 2, none⟩ = some (.int .i32 a0_2) := (blk_cell BK178.out 2).trans rfl; have hcz14_3 : w12.cell? ⟨gb178, 3, none⟩ = some (.bool true) := (blk_cell BK178.out 3).trans rfl; have hcz14_4 : w12.cell? ⟨gb178, 4, none⟩ = some (.int .u8 a0_4) := (blk_cell BK178.out 4).trans rfl; have hfz14_0 := blk_frozen BK178.out 0; have hfz14_1 := blk_frozen BK178.out 1; have hfz14_2 := blk_frozen BK178.out 2; have hfz14_3 := blk_frozen BK178.out 3; have hfz14_4 := blk_frozen BK178.out 4; have hcz15_0 : w12.cell? ⟨gb179, 0, none⟩ = some (.int .i64 a1_0) := (blk_cell BK179.out 0).trans rfl; have hcz15_1 : w12.cell? ⟨gb179, 1, none⟩ = some (.int .i64 a1_1) := (blk_cell BK179.out 1).trans rfl; have hcz15_2 : w12.cell? ⟨gb179, 2, none⟩ = some (.int .i32 a1_2) := (blk_cell BK179.out 2).trans rfl; have hcz15_3 : w12.cell? ⟨gb179, 3, none⟩ = some (.bool a1_3) := (blk_cell BK179.out 3).trans rfl; have hcz15_4 : w12.cell? ⟨gb179, 4, none⟩ = some (.int .u8 a1_4) := (blk_cell BK179.out 4).trans rfl; have hfz15_0 := blk_frozen BK179.out 0; have hfz15_1 := blk_frozen BK179.out 1; have hfz15_2 := blk_frozen BK179.out 2; have hfz15_3 := blk_frozen BK179.out 3; have hfz15_4 := blk_frozen BK179.out 4))
    go_ret
    exact ⟨by first | rfl | (simp [errW_none, errW_some] <;> rfl) | (simp [*, errW_none, errW_some] <;> rfl), by repeat (first | (with_reducible first | exact HB.out | apply below_alloc | apply pw_below_drewN | apply below_drew1 | refine below_set ?_ GE178.out | refine below_set ?_ GE179.out) | exact HB.out)⟩
  ·
   replace c4 := Bool.eq_false_iff.mpr c4
   subst c4
   have H1 : (some (a0_2 == a1_2)) = some r := by rw [if_neg (show ¬ (false = true) by decide)] at H; exact H
   clear H
   have H := H1
   clear H1
   obtain rfl := Option.some.inj H
   go_enter Tryd.func37, Tryd.ntmps37
   go_wp2_with (first | ((with_reducible refine gate_dst (N := 2) rfl ?_); refine box_event ?hg (N := 2) ?hd (cs := #[.int .i64 a0_0, .int .i64 a0_1, .int .i32 a0_2, .bool false, .int .u8 a0_4]) (t := 75) ?hr ?_; (case hd => rfl); (case hg => rfl); (case hr => first | (go_simp; done) | (go_simp; rfl)); intro gb178 hg w16 hbox hb; have n0_ := Aside0.mk (below_step (by repeat (first | (with_reducible first | exact HB.out | apply below_alloc | apply pw_below_drewN | apply below_drew1) | exact HB.out)) hb); have n1_ := Aside0.mk (hbox); have n2_ := Aside0.mk ((by rw [hg]; exact (below_size (by repeat (first | (with_reducible first | exact HB.out | apply below_alloc | apply pw_below_drewN | apply below_drew1) | exact HB.out))) : w.heap.size ≤ gb178)); have n3_ := Aside0.mk ((by rw [hg]; exact (below_size (by repeat (first | (with_reducible first | exact HB.out | apply below_alloc | apply pw_below_drewN | apply below_drew1) | exact HB.out))) : w.heap.size ≤ gb178)); clear HB; have HB := n0_; have BK178 := n1_; have GW178 := n2_; have GE178 := n3_; clear n0_ n1_ n2_ n3_; clear hb hbox hg) | ((with_reducible refine gate_dst (N := 3) rfl ?_); refine box_event ?hg (N := 3) ?hd (cs := #[.int .i64 a1_0, .int .i64 a1_1, .int .i32 a1_2, .bool a1_3, .int .u8 a1_4]) (t := 75) ?hr ?_; (case hd => rfl); (case hg => rfl); (case hr => first | (go_simp; done) | (go_simp; rfl)); intro gb179 hg w17 hbox hb; have n0_ := Aside0.mk (blk_below (g := gb178) (o := .cells #[.int .i64 a0_0, .int .i64 a0_1, .int .i32 a0_2, .bool false, .int .u8 a0_4] 75 (0, 0)) (by (with_reducible repeat (first | refine blk_drewN ?_ _ | refine blk_drew ?_ | refine blk_alloc ?_ _)); exact BK178.out) hb); have n1_ := Aside0.mk (below_step (by repeat (first | (with_reducible first | exact HB.out | apply below_alloc | apply pw_below_drewN | apply below_drew1 | refine below_set ?_ GE178.out) | exact HB.out)) hb); have n2_ := Aside0.mk (hbox); have n3_ := Aside0.mk ((by rw [hg]; exact (below_size (by repeat (first | (with_reducible first | exact HB.out | apply below_alloc | apply pw_below_drewN | apply below_drew1 | refine below_set ?_ GE178.out) | exact HB.out))) : w.heap.size ≤ gb179)); have n4_ := Aside0.mk ((by rw [hg]; exact (below_size (by repeat (first | (with_reducible first | exact HB.out | apply below_alloc | apply pw_below_drewN | apply below_drew1 | refine below_set ?_ GE178.out) | exact HB.out))) : w.heap.size ≤ gb179)); have n5_ := Aside0.mk ((by rw [hg]; exact Nat.ne_of_lt (blk_lt (g := gb178) (o := .cells #[.int .i64 a0_0, .int .i64 a0_1, .int .i32 a0_2, .bool false, .int .u8 a0_4] 75 (0, 0)) (by (with_reducible repeat (first | refine blk_drewN ?_ _ | refine blk_drew ?_ | refine blk_alloc ?_ _)); exact BK178.out)) : gb178 ≠ gb179)); have n6_ := Aside0.mk ((by rw [hg]; exact Nat.ne_of_gt (blk_lt (g := gb178) (o := .cells #[.int .i64 a0_0, .int .i64 a0_1, .int .i32 a0_2, .bool false, .int .u8 a0_4] 75 (0, 0)) (by (with_reducible repeat (first | refine blk_drewN ?_ _ | refine blk_drew ?_ | refine blk_alloc ?_ _)); exact BK178.out)) : gb179 ≠ gb178)); clear BK178; clear HB; have BK178 := n0_; have HB := n1_; have BK179 := n2_; have GW179 := n3_; have GE179 := n4_; have NB178_179 := n5_; have NB179_178 := n6_; clear n0_ n1_ n2_ n3_ n4_ n5_ n6_; clear hb hbox hg; have hnb18 := NB178_179.out; have hnc18 := NB179_178.out; have hcz19_0 : w17.cell? ⟨gb178, 0, none⟩ = some (.int .i64 a0_0) := (blk_cell BK178.out 0).trans rfl; have hcz19_1 : w17.cell? ⟨gb178, 1, none⟩ = some (.int .i64 a0_1) := (blk_cell BK178.out 1).trans rfl; have hcz19_2 : w17.cell? ⟨gb178, 2, none⟩ = some (.int .i32 a0_2) := (blk_cell BK178.out 2).trans rfl; have hcz19_3 : w17.cell? ⟨gb178, 3, none⟩ = some (.bool false) := (blk_cell BK178.out 3).trans rfl; have hcz19_4 : w17.cell? ⟨gb178, 4, none⟩ = some (.int .u8 a0_4) := (blk_cell BK178.out 4).trans rfl; have hfz19_0 := blk_frozen BK178.out 0; have hfz19_1 := blk_frozen BK178.out 1; have hfz19_2 := blk_frozen BK178.out 2; have hfz19_3 := blk_frozen BK178.out 3; have hfz19_4 := blk_frozen BK178.out 4; have hcz20_0 : w17.cell? ⟨gb179, 0, none⟩ = some (.int .i64 a1_0) := (blk_cell BK179.out 0).trans rfl; have hcz20_1 : w17.cell? ⟨gb179, 1, none⟩ = some (.int .i64 a1_1) := (blk_cell BK179.out 1).trans rfl; have hcz20_2 : w17.cell? ⟨gb179, 2, none⟩ = some (.int .i32 a1_2) := (blk_cell BK179.out 2).trans rfl; have hcz20_3 : w17.cell? ⟨gb179, 3, none⟩ = some (.bool a1_3) := (blk_cell BK179.out 3).trans rfl; have hcz20_4 : w17.cell? ⟨gb179, 4, none⟩ = some (.int .u8 a1_4) := (blk_cell BK179.out 4).trans rfl; have hfz20_0 := blk_frozen BK179.out 0; have hfz20_1 := blk_frozen BK179.out 1; have hfz20_2 := blk_frozen BK179.out 2; have hfz20_3 := blk_frozen BK179.out 3; have hfz20_4 := blk_frozen BK179.out 4))
   go_ret
   exact ⟨by first | rfl | (simp [errW_none, errW_some] <;> rfl) | (simp [*, errW_none, errW_some] <;> rfl), by repeat (first | (with_reducible first | exact HB.out | apply below_alloc | apply pw_below_drewN | apply below_drew1 | refine below_set ?_ GE178.out | refine below_set ?_ GE179.out) | exact HB.out)⟩
 ·
  rw [if_neg c3] at H
  have c3b0 : (a0_3 == a1_3) = false := by simpa using c3
  (try (have c3b1 : decide (a0_3 = a1_3) = false := by simpa using c3))
  (try (have c3b2 : (a0_3 == a1_3) = false := by simpa using c3))
  (try (have c3b3 : ¬ (a0_3 = a1_3) := by simpa using c3))
  clear c3
  obtain rfl := Option.some.inj H
  go_enter Tryd.func37, Tryd.ntmps37
  go_wp2_with (first | ((with_reducible refine gate_dst (N := 2) rfl ?_); refine box_event ?hg (N := 2) ?hd (cs := #[.int .i64 a0_0, .int .i64 a0_1, .int .i32 a0_2, .bool a0_3, .int .u8 a0_4]) (t := 75) ?hr ?_; (case hd => rfl); (case hg => rfl); (case hr => first | (go_simp; done) | (go_simp; rfl)); intro gb178 hg w21 hbox hb; have n0_ := Aside0.mk (below_step (by repeat (first | (with_reducible first | exact HB.out | apply below_alloc | apply pw_below_drewN | apply below_drew1) | exact HB.out)) hb); have n1_ := Aside0.mk (hbox); have n2_ := Aside0.mk ((by rw [hg]; exact (below_size (by repeat (first | (with_reducible first | exact HB.out | apply below_alloc | apply pw_below_drewN | apply below_drew1) | exact HB.out))) : w.heap.size ≤ gb178)); have n3_ := Aside0.mk ((by rw [hg]; exact (below_size (by repeat (first | (with_reducible first | exact HB.out | apply below_alloc | apply pw_below_drewN | apply below_drew1) | exact HB.out))) : w.heap.size ≤ gb178)); clear HB; have HB := n0_; have BK178 := n1_; have GW178 := n2_; have GE178 := n3_; clear n0_ n1_ n2_ n3_; clear hb hbox hg) | ((with_reducible refine gate_dst (N := 3) rfl ?_); refine box_event ?hg (N := 3) ?hd (cs := #[.int .i64 a1_0, .int .i64 a1_1, .int .i32 a1_2, .bool a1_3, .int .u8 a1_4]) (t := 75) ?hr ?_; (case hd => rfl); (case hg => rfl); (case hr => first | (go_simp; done) | (go_simp; rfl)); intro gb179 hg w22 hbox hb; have n0_ := Aside0.mk (blk_below (g := gb178) (o := .cells #[.int .i64 a0_0, .int .i64 a0_1, .int .i32 a0_2, .bool a0_3, .int .u8 a0_4] 75 (0, 0)) (by (with_reducible repeat (first | refine blk_drewN ?_ _ | refine blk_drew ?_ | refine blk_alloc ?_ _)); exact BK178.out) hb); have n1_ := Aside0.mk (below_step (by repeat (first | (with_reducible first | exact HB.out | apply below_alloc | apply pw_below_drewN | apply below_drew1 | refine below_set ?_ GE178.out) | exact HB.out)) hb); have n2_ := Aside0.mk (hbox); have n3_ := Aside0.mk ((by rw [hg]; exact (below_size (by repeat (first | (with_reducible first | exact HB.out | apply below_alloc | apply pw_below_drewN | apply below_drew1 | refine below_set ?_ GE178.out) | exact HB.out))) : w.heap.size ≤ gb179)); have n4_ := Aside0.mk ((by rw [hg]; exact (below_size (by repeat (first | (with_reducible first | exact HB.out | apply below_alloc | apply pw_below_drewN | apply below_drew1 | refine below_set ?_ GE178.out) | exact HB.out))) : w.heap.size ≤ gb179)); have n5_ := Aside0.mk ((by rw [hg]; exact Nat.ne_of_lt (blk_lt (g := gb178) (o := .cells #[.int .i64 a0_0, .int .i64 a0_1, .int .i32 a0_2, .bool a0_3, .int .u8 a0_4] 75 (0, 0)) (by (with_reducible repeat (first | refine blk_drewN ?_ _ | refine blk_drew ?_ | refine blk_alloc ?_ _)); exact BK178.out)) : gb178 ≠ gb179)); have n6_ := Aside0.mk ((by rw [hg]; exact Nat.ne_of_gt (blk_lt (g := gb178) (o := .cells #[.int .i64 a0_0, .int .i64 a0_1, .int .i32 a0_2, .bool a0_3, .int .u8 a0_4] 75 (0, 0)) (by (with_reducible repeat (first | refine blk_drewN ?_ _ | refine blk_drew ?_ | refine blk_alloc ?_ _)); exact BK178.out)) : gb179 ≠ gb178)); clear BK178; clear HB; have BK178 := n0_; have HB := n1_; have BK179 := n2_; have GW179 := n3_; have GE179 := n4_; have NB178_179 := n5_; have NB179_178 := n6_; clear n0_ n1_ n2_ n3_ n4_ n5_ n6_; clear hb hbox hg; have hnb23 := NB178_179.out; have hnc23 := NB179_178.out; have hcz24_0 : w22.cell? ⟨gb178, 0, none⟩ = some (.int .i64 a0_0) := (blk_cell BK178.out 0).trans rfl; have hcz24_1 : w22.cell? ⟨gb178, 1, none⟩ = some (.int .i64 a0_1) := (blk_cell BK178.out 1).trans rfl; have hcz24_2 : w22.cell? ⟨gb178, 2, none⟩ = some (.int .i32 a0_2) := (blk_cell BK178.out 2).trans rfl; have hcz24_3 : w22.cell? ⟨gb178, 3, none⟩ = some (.bool a0_3) := (blk_cell BK178.out 3).trans rfl; have hcz24_4 : w22.cell? ⟨gb178, 4, none⟩ = some (.int .u8 a0_4) := (blk_cell BK178.out 4).trans rfl; have hfz24_0 := blk_frozen BK178.out 0; have hfz24_1 := blk_frozen BK178.out 1; have hfz24_2 := blk_frozen BK178.out 2; have hfz24_3 := blk_frozen BK178.out 3; have hfz24_4 := blk_frozen BK178.out 4; have hcz25_0 : w22.cell? ⟨gb179, 0, none⟩ = some (.int .i64 a1_0) := (blk_cell BK179.out 0).trans rfl; have hcz25_1 : w22.cell? ⟨gb179, 1, none⟩ = some (.int .i64 a1_1) := (blk_cell BK179.out 1).trans rfl; have hcz25_2 : w22.cell? ⟨gb179, 2, none⟩ = some (.int .i32 a1_2) := (blk_cell BK179.out 2).trans rfl; have hcz25_3 : w22.cell? ⟨gb179, 3, none⟩ = some (.bool a1_3) := (blk_cell BK179.out 3).trans rfl; have hcz25_4 : w22.cell? ⟨gb179, 4, none⟩ = some (.int .u8 a1_4) := (blk_cell BK179.out 4).trans rfl; have hfz25_0 := blk_frozen BK179.out 0; have hfz25_1 := blk_frozen BK179.out 1; have hfz25_2 := blk_frozen BK179.out 2; have hfz25_3 := blk_frozen BK179.out 3; have hfz25_4 := blk_frozen BK179.out 4))
  go_ret
  exact ⟨by first | rfl | (simp [errW_none, errW_some] <;> rfl) | (simp [*, errW_none, errW_some] <;> rfl), by repeat (first | (with_reducible first | exact HB.out | apply below_alloc | apply pw_below_drewN | apply below_drew1 | refine below_set ?_ GE178.out | refine below_set ?_ GE179.out) | exact HB.out)⟩

end Go.Proofs.YtalogampkkjcdaaDoor.P
