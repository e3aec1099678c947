-- Printed by hprint.py (this session's program over the kit's print) out of the translation; the parts 'by hand' are the session's own.
import Derived.Test.YtfcobfjjcocggaaDoorCx0
import Derived.Test.YtfcobfjjcocggaaDoorCxf49
import Derived.Test.YtfcobfjjcocggaaDoorCxf50
namespace Go.Proofs.YtfcobfjjcocggaaDoor.C
open Go.RowKit Go.Proofs.YtfcobfjjcocggaaDoorW.PrintWords Go.Proofs.YtfcobfjjcocggaaDoorW.PrintLast Go.Proofs.YtfcobfjjcocggaaDoorW.PrintMore
attribute [local go_sem] max2_int min2_int max_two min_two max_three min_three max_four min_four   -- for this text's walks alone
set_option linter.unusedVariables false
set_option linter.unusedSimpArgs false

/-! ### siglumref01_cell: function 40 -/
def siglumref01_cell.j0 : Nat → ByteArray → Int → Int → Bool → Option (Int × Int × Int × Bool × Int)
  | 0, _, _, _, _ => none
  | k + 1, x0, x1, x5, x19 => if x19 = true then (if 0 ≤ x1 then (if x1 < (x0.size : Int) then (some (x1, 1, 65533, true, bt x0 x1)) else (none)) else (none)) else (if 0 ≤ x1 then (if x1 < (x0.size : Int) then (if x5 = 2 then (if 0 ≤ (wrap64 (x1 + 1)) then (if (wrap64 (x1 + 1)) < (x0.size : Int) then (some (x1, x5, Go.bits .or .i32 (wrap32 ((wrap32 (Go.bits .and .u8 (bt x0 x1) 31)) * 64)) (wrap32 (Go.bits .and .u8 (bt x0 (wrap64 (x1 + 1))) 63)), false, 0)) else (none)) else (none)) else (if x5 = 3 then (if 0 ≤ (wrap64 (x1 + 1)) then (if (wrap64 (x1 + 1)) < (x0.size : Int) then (if 0 ≤ (wrap64 (x1 + 2)) then (if (wrap64 (x1 + 2)) < (x0.size : Int) then (some (x1, x5, Go.bits .or .i32 (Go.bits .or .i32 (wrap32 ((wrap32 (Go.bits .and .u8 (bt x0 x1) 15)) * 4096)) (wrap32 ((wrap32 (Go.bits .and .u8 (bt x0 (wrap64 (x1 + 1))) 63)) * 64))) (wrap32 (Go.bits .and .u8 (bt x0 (wrap64 (x1 + 2))) 63)), false, 0)) else (none)) else (none)) else (none)) else (none)) else (if x5 = 4 then (if 0 ≤ (wrap64 (x1 + 1)) then (if (wrap64 (x1 + 1)) < (x0.size : Int) then (if 0 ≤ (wrap64 (x1 + 2)) then (if (wrap64 (x1 + 2)) < (x0.size : Int) then (if 0 ≤ (wrap64 (x1 + 3)) then (if (wrap64 (x1 + 3)) < (x0.size : Int) then (some (x1, x5, Go.bits .or .i32 (Go.bits .or .i32 (Go.bits .or .i32 (wrap32 ((wrap32 (Go.bits .and .u8 (bt x0 x1) 7)) * 262144)) (wrap32 ((wrap32 (Go.bits .and .u8 (bt x0 (wrap64 (x1 + 1))) 63)) * 4096))) (wrap32 ((wrap32 (Go.bits .and .u8 (bt x0 (wrap64 (x1 + 2))) 63)) * 64))) (wrap32 (Go.bits .and .u8 (bt x0 (wrap64 (x1 + 3))) 63)), false, 0)) else (none)) else (none)) else (none)) else (none)) else (none)) else (none)) else (some (x1, x5, wrap32 (bt x0 x1), false, 0))))) else (none)) else (none))
def siglumref01_cell.f (k : Nat) (a0 : ByteArray) (a1 : Int) : Option (Int × Int × Int × Bool × Int) := if 0 ≤ a1 then (if a1 < (a0.size : Int) then ((siglumref01_wants.f (bt a0 a1)).bind fun t40102 => (if t40102 = 0 then (siglumref01_cell.j0 k a0 a1 t40102 true) else ((siglumref01_fits.f k a0 a1).bind fun t40103 => (siglumref01_cell.j0 k a0 a1 t40102 (decide (t40103 < t40102)))))) else (none)) else (none)
theorem siglumref01_cell.mono_l : ∀ k, (∀ y0 y1 y2 y3, LeO (siglumref01_cell.j0 k y0 y1 y2 y3) (siglumref01_cell.j0 (k + 1) y0 y1 y2 y3))
  | 0 => fun _ _ _ _ r h => by simp [siglumref01_cell.j0] at h
  | k + 1 => by
    have ih0 := siglumref01_cell.mono_l k
    · intro y0 y1 y2 y3
      unfold siglumref01_cell.j0
      repeat' first
      | (with_reducible exact ih0 _ _ _ _)
      | (with_reducible exact siglumref01_fits.mono _ _ _)
      | (with_reducible exact LeO.refl _)
      | (with_reducible exact LeO.none _)
      | (with_reducible refine LeO.ite ?_ ?_)
      | (with_reducible refine LeO.bind ?_ (fun _ => ?_))
      | exact ih0 _ _ _ _
      | exact siglumref01_fits.mono _ _ _
      | exact LeO.none _
      | refine LeO.ite ?_ ?_
      | refine LeO.bind ?_ (fun _ => ?_)
theorem siglumref01_cell.mono : ∀ a0 a1 k, LeO (siglumref01_cell.f k a0 a1) (siglumref01_cell.f (k + 1) a0 a1) := by
  intro a0 a1 k
  have ih0 := siglumref01_cell.mono_l k
  unfold siglumref01_cell.f
  repeat' first
      | (with_reducible exact ih0 _ _ _ _)
      | (with_reducible exact siglumref01_fits.mono _ _ _)
      | (with_reducible exact LeO.refl _)
      | (with_reducible exact LeO.none _)
      | (with_reducible refine LeO.ite ?_ ?_)
      | (with_reducible refine LeO.bind ?_ (fun _ => ?_))
      | exact ih0 _ _ _ _
      | exact siglumref01_fits.mono _ _ _
      | exact LeO.none _
      | refine LeO.ite ?_ ?_
      | refine LeO.bind ?_ (fun _ => ?_)
set_option maxHeartbeats 8000000 in
set_option maxRecDepth 100000 in
theorem siglumref01_cell.calls (k : Nat) (a0 : ByteArray) (a1 : Int) (r1 : Int) (r2 : Int) (r3 : Int) (r4 : Bool) (r5 : Int) (w : World) (h : siglumref01_cell.f k a0 a1 = some (r1, r2, r3, r4, r5)) :
    Calls Tryd.prog 40 #[.string a0, .int .i64 a1] w fun e w' => e = .returned (.agg #[.int .i64 r1, .int .i64 r2, .int .i32 r3, .bool r4, .int .u8 r5]) ∧ Below w.heap.size w w' := by
  have hu30 := Tryd.underlying30
  have HB := Aside0.mk (Below.refl w.heap.size w)
  have H : (if 0 ≤ a1 then (if a1 < (a0.size : Int) then ((siglumref01_wants.f (bt a0 a1)).bind fun t40102 => (if t40102 = 0 then (siglumref01_cell.j0 k a0 a1 t40102 true) else ((siglumref01_fits.f k a0 a1).bind fun t40103 => (siglumref01_cell.j0 k a0 a1 t40102 (decide (t40103 < t40102)))))) else (none)) else (none)) = some (r1, r2, r3, r4, r5) := h
  clear h
  by_cases c3 : 0 ≤ a1
  · rw [if_pos c3] at H
    have c3b0 : decide (0 ≤ a1) = true := decide_eq_true c3
    clear c3
    by_cases c4 : a1 < (a0.size : Int)
    · rw [if_pos c4] at H
      have c4b0 : decide (a1 < (a0.size : Int)) = true := decide_eq_true c4
      clear c4
      replace H := Option.bind_eq_some_iff.mp H
      obtain ⟨t40102, A60, H⟩ := H
      replace H : (if t40102 = 0 then (siglumref01_cell.j0 k a0 a1 t40102 true) else ((siglumref01_fits.f k a0 a1).bind fun t40103 => (siglumref01_cell.j0 k a0 a1 t40102 (decide (t40103 < t40102))))) = some (r1, r2, r3, r4, r5) := H
      have A6 := Aside0.mk A60
      clear A60
      have HC7 := Aside0.mk H
      clear H
      go_enter Tryd.func40, Tryd.ntmps40
      go_upto_region 2 with (first | ((with_reducible refine gate_dst (N := 4) rfl ?_); refine box_event ?hg (N := 4) ?hd (cs := #[.int .i64 0, .int .i64 0, .int .i32 0, .bool false, .int .u8 0]) (t := 30) ?hr ?_; (case hd => rfl); (case hg => rfl); (case hr => first | (go_simp; done) | (go_simp; rfl)); intro gb40101 hg w8 hbox hb; have n0_ := Aside0.mk (below_step (by repeat (first | (with_reducible first | exact HB.out | apply below_alloc | apply pw_below_drewN | apply below_drew1) | exact HB.out)) hb); have n1_ := Aside0.mk (hbox); have n2_ := Aside0.mk ((by rw [hg]; exact (below_size (by repeat (first | (with_reducible first | exact HB.out | apply below_alloc | apply pw_below_drewN | apply below_drew1) | exact HB.out))) : w.heap.size ≤ gb40101)); have n3_ := Aside0.mk ((by rw [hg]; exact (below_size (by repeat (first | (with_reducible first | exact HB.out | apply below_alloc | apply pw_below_drewN | apply below_drew1) | exact HB.out))) : w.heap.size ≤ gb40101)); clear HB; have HB := n0_; have BK40101 := n1_; have GW40101 := n2_; have GE40101 := n3_; clear n0_ n1_ n2_ n3_; clear hb hbox hg; have p5 : 0 ≤ (a1 : Int) := of_decide_eq_true (by first | (with_reducible assumption) | assumption); have q5 : a1 < (a0.size : Int) := of_decide_eq_true (by first | (with_reducible assumption) | assumption); have hx5 := bt_at a0 a1; replace p5 := eq_true p5; replace q5 := eq_true q5) | (go_at_call 49; (with_reducible refine (siglumref01_wants.calls (bt a0 a1) t40102 _ A6.out).mono ?_); rintro e w' ⟨rfl, ⟨nd, rfl⟩⟩; (try first | exact ⟨rfl, _, World.drewN_drewN _ _ _⟩ | exact ⟨rfl, _, Eq.trans (World.drewN_drewN _ _ _) (congrArg (World.drewN _) (Nat.add_assoc _ _ _))⟩)))
      repeat (go_quiet (first | ((with_reducible refine gate_dst (N := 4) rfl ?_); refine box_event ?hg (N := 4) ?hd (cs := #[.int .i64 0, .int .i64 0, .int .i32 0, .bool false, .int .u8 0]) (t := 30) ?hr ?_; (case hd => rfl); (case hg => rfl); (case hr => first | (go_simp; done) | (go_simp; rfl)); intro gb40101 hg w8 hbox hb; have n0_ := Aside0.mk (below_step (by repeat (first | (with_reducible first | exact HB.out | apply below_alloc | apply pw_below_drewN | apply below_drew1) | exact HB.out)) hb); have n1_ := Aside0.mk (hbox); have n2_ := Aside0.mk ((by rw [hg]; exact (below_size (by repeat (first | (with_reducible first | exact HB.out | apply below_alloc | apply pw_below_drewN | apply below_drew1) | exact HB.out))) : w.heap.size ≤ gb40101)); have n3_ := Aside0.mk ((by rw [hg]; exact (below_size (by repeat (first | (with_reducible first | exact HB.out | apply below_alloc | apply pw_below_drewN | apply below_drew1) | exact HB.out))) : w.heap.size ≤ gb40101)); clear HB; have HB := n0_; have BK40101 := n1_; have GW40101 := n2_; have GE40101 := n3_; clear n0_ n1_ n2_ n3_; clear hb hbox hg; have p5 : 0 ≤ (a1 : Int) := of_decide_eq_true (by first | (with_reducible assumption) | assumption); have q5 : a1 < (a0.size : Int) := of_decide_eq_true (by first | (with_reducible assumption) | assumption); have hx5 := bt_at a0 a1; replace p5 := eq_true p5; replace q5 := eq_true q5) | (go_at_call 49; (with_reducible refine (siglumref01_wants.calls (bt a0 a1) t40102 _ A6.out).mono ?_); rintro e w' ⟨rfl, ⟨nd, rfl⟩⟩; (try first | exact ⟨rfl, _, World.drewN_drewN _ _ _⟩ | exact ⟨rfl, _, Eq.trans (World.drewN_drewN _ _ _) (congrArg (World.drewN _) (Nat.add_assoc _ _ _))⟩))); go_upto_region 2 with (first | ((with_reducible refine gate_dst (N := 4) rfl ?_); refine box_event ?hg (N := 4) ?hd (cs := #[.int .i64 0, .int .i64 0, .int .i32 0, .bool false, .int .u8 0]) (t := 30) ?hr ?_; (case hd => rfl); (case hg => rfl); (case hr => first | (go_simp; done) | (go_simp; rfl)); intro gb40101 hg w8 hbox hb; have n0_ := Aside0.mk (below_step (by repeat (first | (with_reducible first | exact HB.out | apply below_alloc | apply pw_below_drewN | apply below_drew1) | exact HB.out)) hb); have n1_ := Aside0.mk (hbox); have n2_ := Aside0.mk ((by rw [hg]; exact (below_size (by repeat (first | (with_reducible first | exact HB.out | apply below_alloc | apply pw_below_drewN | apply below_drew1) | exact HB.out))) : w.heap.size ≤ gb40101)); have n3_ := Aside0.mk ((by rw [hg]; exact (below_size (by repeat (first | (with_reducible first | exact HB.out | apply below_alloc | apply pw_below_drewN | apply below_drew1) | exact HB.out))) : w.heap.size ≤ gb40101)); clear HB; have HB := n0_; have BK40101 := n1_; have GW40101 := n2_; have GE40101 := n3_; clear n0_ n1_ n2_ n3_; clear hb hbox hg; have p5 : 0 ≤ (a1 : Int) := of_decide_eq_true (by first | (with_reducible assumption) | assumption); have q5 : a1 < (a0.size : Int) := of_decide_eq_true (by first | (with_reducible assumption) | assumption); have hx5 := bt_at a0 a1; replace p5 := eq_true p5; replace q5 := eq_true q5) | (go_at_call 49; (with_reducible refine (siglumref01_wants.calls (bt a0 a1) t40102 _ A6.out).mono ?_); rintro e w' ⟨rfl, ⟨nd, rfl⟩⟩; (try first | exact ⟨rfl, _, World.drewN_drewN _ _ _⟩ | exact ⟨rfl, _, Eq.trans (World.drewN_drewN _ _ _) (congrArg (World.drewN _) (Nat.add_assoc _ _ _))⟩))))
      (try simp only [Act.put, List.setIfInBounds_toArray, List.set_cons_zero, List.set_cons_succ])
      go_cut [19] (fun v19 wc => ∃ (kq : Nat) (x19_6 : Bool), v19 = .bool x19_6 ∧ Aside0 (siglumref01_cell.j0 kq a0 a1 t40102 x19_6 = some (r1, r2, r3, r4, r5)) ∧ Aside0 (kq ≤ k) ∧ Aside0 (wc.heap[gb40101]? = some (.cells #[.int .i64 0, .int .i64 0, .int .i32 0, .bool false, .int .u8 0] 30 (0, 0))) ∧ Aside0 (Below w.heap.size w wc))
      case first =>
        have H := HC7.out
        clear HC7
        by_cases c9 : t40102 = 0
        · rw [if_pos c9] at H
          have c9b0 : (t40102 == 0) = true := beq_iff_eq.mpr c9
          have c9b1 : (t40102 != 0) = false := bne_eq_false_iff_eq.mpr c9
          clear c9
          (first | rw [c9b0] | (simp only [i64_w, i32_w]; rw [c9b0]) | (have ce_ := c9b0; rw [List.beq_nil_eq] at ce_; rw [ce_]) | skip)
          have H' := Aside0.mk H
          clear H
          go_wp2
          repeat (go_quiet (fail); try go_wp2)
          go_meet
          case rel => exact ⟨_, (true), (by first | rfl | (simp; done) | (simp [*]; done)), H', ⟨by first | omega | exact Nat.le_refl _⟩, ⟨by (with_reducible repeat (first | refine blk_drewN ?_ _ | refine blk_drew ?_ | refine blk_alloc ?_ _)); exact BK40101.out⟩, ⟨by repeat (first | (with_reducible first | exact HB.out | apply below_alloc | apply pw_below_drewN | apply below_drew1 | refine below_set ?_ GE40101.out) | exact HB.out)⟩⟩
        · rw [if_neg c9] at H
          have c9b0 : (t40102 == 0) = false := beq_eq_false_iff_ne.mpr c9
          have c9b1 : (t40102 != 0) = true := bne_iff_ne.mpr c9
          (first | rw [c9b0] | (simp only [i64_w, i32_w]; rw [c9b0]) | (have ce_ := c9b0; rw [List.beq_nil_eq] at ce_; rw [ce_]) | skip)
          replace H := Option.bind_eq_some_iff.mp H
          obtain ⟨t40103, A100, H⟩ := H
          replace H : (siglumref01_cell.j0 k a0 a1 t40102 (decide (t40103 < t40102))) = some (r1, r2, r3, r4, r5) := H
          have A10 := Aside0.mk A100
          clear A100
          have H' := Aside0.mk H
          clear H
          go_wp2_with (first | (go_at_call 50; (with_reducible refine (siglumref01_fits.calls k a0 a1 t40103 _ A10.out).mono ?_); rintro e w' ⟨rfl, ⟨nd, rfl⟩⟩; (try first | exact ⟨rfl, _, World.drewN_drewN _ _ _⟩ | exact ⟨rfl, _, Eq.trans (World.drewN_drewN _ _ _) (congrArg (World.drewN _) (Nat.add_assoc _ _ _))⟩)))
          repeat (go_quiet (first | (go_at_call 50; (with_reducible refine (siglumref01_fits.calls k a0 a1 t40103 _ A10.out).mono ?_); rintro e w' ⟨rfl, ⟨nd, rfl⟩⟩; (try first | exact ⟨rfl, _, World.drewN_drewN _ _ _⟩ | exact ⟨rfl, _, Eq.trans (World.drewN_drewN _ _ _) (congrArg (World.drewN _) (Nat.add_assoc _ _ _))⟩))); try go_wp2_with (first | (go_at_call 50; (with_reducible refine (siglumref01_fits.calls k a0 a1 t40103 _ A10.out).mono ?_); rintro e w' ⟨rfl, ⟨nd, rfl⟩⟩; (try first | exact ⟨rfl, _, World.drewN_drewN _ _ _⟩ | exact ⟨rfl, _, Eq.trans (World.drewN_drewN _ _ _) (congrArg (World.drewN _) (Nat.add_assoc _ _ _))⟩))))
          go_meet
          case rel => exact ⟨_, (decide (t40103 < t40102)), (by first | rfl | (simp; done) | (simp [*]; done)), H', ⟨by first | omega | exact Nat.le_refl _⟩, ⟨by (with_reducible repeat (first | refine blk_drewN ?_ _ | refine blk_drew ?_ | refine blk_alloc ?_ _)); exact BK40101.out⟩, ⟨by repeat (first | (with_reducible first | exact HB.out | apply below_alloc | apply pw_below_drewN | apply below_drew1 | refine below_set ?_ GE40101.out) | exact HB.out)⟩⟩
      case rest =>
        clear HC7
        try clear p2
        try clear c3
        try clear c3b0
        try clear c4
        try clear c4b0
        try clear p5
        try clear q5
        try clear hx5
        try clear c9
        try clear c9b0
        try clear c9b1
        try clear p5
        try clear q5
        obtain ⟨kq, x19_6, rfl, HA, HJ6, BK40101, HB⟩ := hcut
        cases kq with
        | zero => exact absurd HA.out (by simp [siglumref01_cell.j0])
        | succ kj6 =>
          have H := HA.out
          clear HA
          simp only [siglumref01_cell.j0] at H
          by_cases c11 : x19_6 = true
          · subst c11
            have H1 : (if 0 ≤ a1 then (if a1 < (a0.size : Int) then (some (a1, 1, 65533, true, bt a0 a1)) else (none)) else (none)) = some (r1, r2, r3, r4, r5) := by rw [if_pos rfl] at H; exact H
            clear H
            have H := H1
            clear H1
            by_cases c12 : 0 ≤ a1
            · rw [if_pos c12] at H
              have c12b0 : decide (0 ≤ a1) = true := decide_eq_true c12
              clear c12
              by_cases c13 : a1 < (a0.size : Int)
              · rw [if_pos c13] at H
                have c13b0 : decide (a1 < (a0.size : Int)) = true := decide_eq_true c13
                clear c13
                simp only [Option.some.injEq, Prod.mk.injEq] at H
                obtain ⟨rfl, rfl, rfl, rfl, rfl⟩ := H
                have p14 : 0 ≤ (a1 : Int) := of_decide_eq_true (by first | (with_reducible assumption) | assumption)
                have q14 : a1 < (a0.size : Int) := of_decide_eq_true (by first | (with_reducible assumption) | assumption)
                have hx14 := bt_at a0 a1
                replace p14 := eq_true p14
                replace q14 := eq_true q14
                have hcz15_0 : wc.cell? ⟨gb40101, 0, none⟩ = some (.int .i64 0) := (blk_cell BK40101.out 0).trans rfl
                have hcz15_1 : wc.cell? ⟨gb40101, 1, none⟩ = some (.int .i64 0) := (blk_cell BK40101.out 1).trans rfl
                have hcz15_2 : wc.cell? ⟨gb40101, 2, none⟩ = some (.int .i32 0) := (blk_cell BK40101.out 2).trans rfl
                have hcz15_3 : wc.cell? ⟨gb40101, 3, none⟩ = some (.bool false) := (blk_cell BK40101.out 3).trans rfl
                have hcz15_4 : wc.cell? ⟨gb40101, 4, none⟩ = some (.int .u8 0) := (blk_cell BK40101.out 4).trans rfl
                have hfz15_0 := blk_frozen BK40101.out 0
                have hfz15_1 := blk_frozen BK40101.out 1
                have hfz15_2 := blk_frozen BK40101.out 2
                have hfz15_3 := blk_frozen BK40101.out 3
                have hfz15_4 := blk_frozen BK40101.out 4
                go_wp2
                repeat (go_quiet (fail); try go_wp2)
                refine bodyPost_ret (results_cell_row rfl _ _ gb40101 30 #[.int .i64 a1, .int .i64 1, .int .i32 65533, .bool true, .int .u8 (bt a0 a1)] (0, 0) _ rfl (by (with_reducible repeat (first | refine blk_drewN ?_ _ | refine blk_drew ?_ | refine blk_alloc ?_ _)); refine blk_put (cs := #[.int .i64 a1, .int .i64 1, .int .i32 65533, .bool true, .int .u8 0]) ?_ 4 _ rfl; (with_reducible repeat (first | refine blk_drewN ?_ _ | refine blk_drew ?_ | refine blk_alloc ?_ _)); refine blk_put (cs := #[.int .i64 a1, .int .i64 1, .int .i32 65533, .bool false, .int .u8 0]) ?_ 3 _ rfl; (with_reducible repeat (first | refine blk_drewN ?_ _ | refine blk_drew ?_ | refine blk_alloc ?_ _)); refine blk_put (cs := #[.int .i64 a1, .int .i64 1, .int .i32 0, .bool false, .int .u8 0]) ?_ 2 _ rfl; (with_reducible repeat (first | refine blk_drewN ?_ _ | refine blk_drew ?_ | refine blk_alloc ?_ _)); refine blk_put (cs := #[.int .i64 a1, .int .i64 0, .int .i32 0, .bool false, .int .u8 0]) ?_ 1 _ rfl; (with_reducible repeat (first | refine blk_drewN ?_ _ | refine blk_drew ?_ | refine blk_alloc ?_ _)); refine blk_put (cs := #[.int .i64 0, .int .i64 0, .int .i32 0, .bool false, .int .u8 0]) ?_ 0 _ rfl; (with_reducible repeat (first | refine blk_drewN ?_ _ | refine blk_drew ?_ | refine blk_alloc ?_ _)); exact BK40101.out) Tryd.underlying30 rfl (by kernel_rfl)) rfl ?_
                exact ⟨by first | rfl | (simp [errW_none, errW_some] <;> rfl) | (simp [*, errW_none, errW_some] <;> rfl), by repeat (first | (with_reducible first | exact HB.out | apply below_alloc | apply pw_below_drewN | apply below_drew1 | refine below_set ?_ GE40101.out) | exact HB.out)⟩
              · rw [if_neg c13] at H
                exact absurd H (by simp)
            · rw [if_neg c12] at H
              exact absurd H (by simp)
          · replace c11 := Bool.eq_false_iff.mpr c11
            subst c11
            have H1 : (if 0 ≤ a1 then (if a1 < (a0.size : Int) then (if t40102 = 2 then (if 0 ≤ (wrap64 (a1 + 1)) then (if (wrap64 (a1 + 1)) < (a0.size : Int) then (some (a1, t40102, Go.bits .or .i32 (wrap32 ((wrap32 (Go.bits .and .u8 (bt a0 a1) 31)) * 64)) (wrap32 (Go.bits .and .u8 (bt a0 (wrap64 (a1 + 1))) 63)), false, 0)) else (none)) else (none)) else (if t40102 = 3 then (if 0 ≤ (wrap64 (a1 + 1)) then (if (wrap64 (a1 + 1)) < (a0.size : Int) then (if 0 ≤ (wrap64 (a1 + 2)) then (if (wrap64 (a1 + 2)) < (a0.size : Int) then (some (a1, t40102, Go.bits .or .i32 (Go.bits .or .i32 (wrap32 ((wrap32 (Go.bits .and .u8 (bt a0 a1) 15)) * 4096)) (wrap32 ((wrap32 (Go.bits .and .u8 (bt a0 (wrap64 (a1 + 1))) 63)) * 64))) (wrap32 (Go.bits .and .u8 (bt a0 (wrap64 (a1 + 2))) 63)), false, 0)) else (none)) else (none)) else (none)) else (none)) else (if t40102 = 4 then (if 0 ≤ (wrap64 (a1 + 1)) then (if (wrap64 (a1 + 1)) < (a0.size : Int) then (if 0 ≤ (wrap64 (a1 + 2)) then (if (wrap64 (a1 + 2)) < (a0.size : Int) then (if 0 ≤ (wrap64 (a1 + 3)) then (if (wrap64 (a1 + 3)) < (a0.size : Int) then (some (a1, t40102, Go.bits .or .i32 (Go.bits .or .i32 (Go.bits .or .i32 (wrap32 ((wrap32 (Go.bits .and .u8 (bt a0 a1) 7)) * 262144)) (wrap32 ((wrap32 (Go.bits .and .u8 (bt a0 (wrap64 (a1 + 1))) 63)) * 4096))) (wrap32 ((wrap32 (Go.bits .and .u8 (bt a0 (wrap64 (a1 + 2))) 63)) * 64))) (wrap32 (Go.bits .and .u8 (bt a0 (wrap64 (a1 + 3))) 63)), false, 0)) else (none)) else (none)) else (none)) else (none)) else (none)) else (none)) else (some (a1, t40102, wrap32 (bt a0 a1), false, 0))))) else (none)) else (none)) = some (r1, r2, r3, r4, r5) := by rw [if_neg (show ¬ (false = true) by decide)] at H; exact H
            clear H
            have H := H1
            clear H1
            by_cases c16 : 0 ≤ a1
            · rw [if_pos c16] at H
              have c16b0 : decide (0 ≤ a1) = true := decide_eq_true c16
              clear c16
              by_cases c17 : a1 < (a0.size : Int)
              · rw [if_pos c17] at H
                have c17b0 : decide (a1 < (a0.size : Int)) = true := decide_eq_true c17
                clear c17
                by_cases c19 : t40102 = 2
                · rw [if_pos c19] at H
                  have c19b0 : (t40102 == 2) = true := beq_iff_eq.mpr c19
                  have c19b1 : (t40102 != 2) = false := bne_eq_false_iff_eq.mpr c19
                  clear c19
                  obtain ⟨ji21, hji21⟩ : ∃ j_ : Int, (wrap64 (a1 + 1)) = j_ := ⟨_, rfl⟩
                  replace H : (if 0 ≤ (ji21) then (if (ji21) < (a0.size : Int) then (some (a1, t40102, Go.bits .or .i32 (wrap32 ((wrap32 (Go.bits .and .u8 (bt a0 a1) 31)) * 64)) (wrap32 (Go.bits .and .u8 (bt a0 (ji21)) 63)), false, 0)) else (none)) else (none)) = some (r1, r2, r3, r4, r5) := by first | (rw [hji21] at H; exact H) | (simp only [hji21] at H ⊢; exact H)
                  have hji21w : (IntKind.i64.wrap (a1 + 1)) = ji21 := (i64_w _).trans hji21
                  by_cases c22 : 0 ≤ (ji21)
                  · rw [if_pos c22] at H
                    have c22b0 : decide (0 ≤ (ji21)) = true := decide_eq_true c22
                    clear c22
                    by_cases c23 : (ji21) < (a0.size : Int)
                    · rw [if_pos c23] at H
                      have c23b0 : decide ((ji21) < (a0.size : Int)) = true := decide_eq_true c23
                      clear c23
                      simp only [Option.some.injEq, Prod.mk.injEq] at H
                      obtain ⟨rfl, rfl, rfl, rfl, rfl⟩ := H
                      have p18 : 0 ≤ (a1 : Int) := of_decide_eq_true (by first | (with_reducible assumption) | assumption)
                      have q18 : a1 < (a0.size : Int) := of_decide_eq_true (by first | (with_reducible assumption) | assumption)
                      have hx18 := bt_at a0 a1
                      replace p18 := eq_true p18
                      replace q18 := eq_true q18
                      have p20 : 0 ≤ (a1 : Int) := of_decide_eq_true (by first | (with_reducible assumption) | assumption)
                      have q20 : a1 < (a0.size : Int) := of_decide_eq_true (by first | (with_reducible assumption) | assumption)
                      have hx20 := bt_at a0 a1
                      replace p20 := eq_true p20
                      replace q20 := eq_true q20
                      have p24 : 0 ≤ ((ji21) : Int) := of_decide_eq_true (by first | (with_reducible assumption) | assumption)
                      have q24 : (ji21) < (a0.size : Int) := of_decide_eq_true (by first | (with_reducible assumption) | assumption)
                      have hx24 := bt_at a0 (ji21)
                      replace p24 := eq_true p24
                      replace q24 := eq_true q24
                      have hcz25_0 : wc.cell? ⟨gb40101, 0, none⟩ = some (.int .i64 0) := (blk_cell BK40101.out 0).trans rfl
                      have hcz25_1 : wc.cell? ⟨gb40101, 1, none⟩ = some (.int .i64 0) := (blk_cell BK40101.out 1).trans rfl
                      have hcz25_2 : wc.cell? ⟨gb40101, 2, none⟩ = some (.int .i32 0) := (blk_cell BK40101.out 2).trans rfl
                      have hcz25_3 : wc.cell? ⟨gb40101, 3, none⟩ = some (.bool false) := (blk_cell BK40101.out 3).trans rfl
                      have hcz25_4 : wc.cell? ⟨gb40101, 4, none⟩ = some (.int .u8 0) := (blk_cell BK40101.out 4).trans rfl
                      have hfz25_0 := blk_frozen BK40101.out 0
                      have hfz25_1 := blk_frozen BK40101.out 1
                      have hfz25_2 := blk_frozen BK40101.out 2
                      have hfz25_3 := blk_frozen BK40101.out 3
                      have hfz25_4 := blk_frozen BK40101.out 4
                      go_wp2
                      repeat (go_quiet (fail); try go_wp2)
                      refine bodyPost_ret (results_cell_row rfl _ _ gb40101 30 #[.int .i64 a1, .int .i64 t40102, .int .i32 (Go.bits .or .i32 (wrap32 ((wrap32 (Go.bits .and .u8 (bt a0 a1) 31)) * 64)) (wrap32 (Go.bits .and .u8 (bt a0 (ji21)) 63))), .bool false, .int .u8 0] (0, 0) _ rfl (by (with_reducible repeat (first | refine blk_drewN ?_ _ | refine blk_drew ?_ | refine blk_alloc ?_ _)); refine blk_put (cs := #[.int .i64 a1, .int .i64 t40102, .int .i32 (Go.bits .or .i32 (wrap32 ((wrap32 (Go.bits .and .u8 (bt a0 a1) 31)) * 64)) (wrap32 (Go.bits .and .u8 (bt a0 (ji21)) 63))), .bool false, .int .u8 0]) ?_ 4 _ rfl; (with_reducible repeat (first | refine blk_drewN ?_ _ | refine blk_drew ?_ | refine blk_alloc ?_ _)); refine blk_put (cs := #[.int .i64 a1, .int .i64 t40102, .int .i32 (Go.bits .or .i32 (wrap32 ((wrap32 (Go.bits .and .u8 (bt a0 a1) 31)) * 64)) (wrap32 (Go.bits .and .u8 (bt a0 (ji21)) 63))), .bool false, .int .u8 0]) ?_ 3 _ rfl; (with_reducible repeat (first | refine blk_drewN ?_ _ | refine blk_drew ?_ | refine blk_alloc ?_ _)); refine blk_put (cs := #[.int .i64 a1, .int .i64 t40102, .int .i32 0, .bool false, .int .u8 0]) ?_ 2 _ rfl; (with_reducible repeat (first | refine blk_drewN ?_ _ | refine blk_drew ?_ | refine blk_alloc ?_ _)); refine blk_put (cs := #[.int .i64 a1, .int .i64 0, .int .i32 0, .bool false, .int .u8 0]) ?_ 1 _ rfl; (with_reducible repeat (first | refine blk_drewN ?_ _ | refine blk_drew ?_ | refine blk_alloc ?_ _)); refine blk_put (cs := #[.int .i64 0, .int .i64 0, .int .i32 0, .bool false, .int .u8 0]) ?_ 0 _ rfl; (with_reducible repeat (first | refine blk_drewN ?_ _ | refine blk_drew ?_ | refine blk_alloc ?_ _)); exact BK40101.out) Tryd.underlying30 rfl (by kernel_rfl)) rfl ?_
                      exact ⟨by first | rfl | (simp [errW_none, errW_some] <;> rfl) | (simp only [← hji21]; first | rfl | (simp [errW_none, errW_some] <;> rfl)) | (simp [*, errW_none, errW_some] <;> rfl), by repeat (first | (with_reducible first | exact HB.out | apply below_alloc | apply pw_below_drewN | apply below_drew1 | refine below_set ?_ GE40101.out) | exact HB.out)⟩
                    · rw [if_neg c23] at H
                      exact absurd H (by simp)
                  · rw [if_neg c22] at H
                    exact absurd H (by simp)
                · rw [if_neg c19] at H
                  have c19b0 : (t40102 == 2) = false := beq_eq_false_iff_ne.mpr c19
                  have c19b1 : (t40102 != 2) = true := bne_iff_ne.mpr c19
                  by_cases c26 : t40102 = 3
                  · rw [if_pos c26] at H
                    have c26b0 : (t40102 == 3) = true := beq_iff_eq.mpr c26
                    have c26b1 : (t40102 != 3) = false := bne_eq_false_iff_eq.mpr c26
                    clear c26
                    obtain ⟨ji28, hji28⟩ : ∃ j_ : Int, (wrap64 (a1 + 1)) = j_ := ⟨_, rfl⟩
                    replace H : (if 0 ≤ (ji28) then (if (ji28) < (a0.size : Int) then (if 0 ≤ (wrap64 (a1 + 2)) then (if (wrap64 (a1 + 2)) < (a0.size : Int) then (some (a1, t40102, Go.bits .or .i32 (Go.bits .or .i32 (wrap32 ((wrap32 (Go.bits .and .u8 (bt a0 a1) 15)) * 4096)) (wrap32 ((wrap32 (Go.bits .and .u8 (bt a0 (ji28)) 63)) * 64))) (wrap32 (Go.bits .and .u8 (bt a0 (wrap64 (a1 + 2))) 63)), false, 0)) else (none)) else (none)) else (none)) else (none)) = some (r1, r2, r3, r4, r5) := by first | (rw [hji28] at H; exact H) | (simp only [hji28] at H ⊢; exact H)
                    have hji28w : (IntKind.i64.wrap (a1 + 1)) = ji28 := (i64_w _).trans hji28
                    by_cases c29 : 0 ≤ (ji28)
                    · rw [if_pos c29] at H
                      have c29b0 : decide (0 ≤ (ji28)) = true := decide_eq_true c29
                      clear c29
                      by_cases c30 : (ji28) < (a0.size : Int)
                      · rw [if_pos c30] at H
                        have c30b0 : decide ((ji28) < (a0.size : Int)) = true := decide_eq_true c30
                        clear c30
                        obtain ⟨ji32, hji32⟩ : ∃ j_ : Int, (wrap64 (a1 + 2)) = j_ := ⟨_, rfl⟩
                        replace H : (if 0 ≤ (ji32) then (if (ji32) < (a0.size : Int) then (some (a1, t40102, Go.bits .or .i32 (Go.bits .or .i32 (wrap32 ((wrap32 (Go.bits .and .u8 (bt a0 a1) 15)) * 4096)) (wrap32 ((wrap32 (Go.bits .and .u8 (bt a0 (ji28)) 63)) * 64))) (wrap32 (Go.bits .and .u8 (bt a0 (ji32)) 63)), false, 0)) else (none)) else (none)) = some (r1, r2, r3, r4, r5) := by first | (rw [hji32] at H; exact H) | (simp only [hji32] at H ⊢; exact H)
                        have hji32w : (IntKind.i64.wrap (a1 + 2)) = ji32 := (i64_w _).trans hji32
                        by_cases c33 : 0 ≤ (ji32)
                        · rw [if_pos c33] at H
                          have c33b0 : decide (0 ≤ (ji32)) = true := decide_eq_true c33
                          clear c33
                          by_cases c34 : (ji32) < (a0.size : Int)
                          · rw [if_pos c34] at H
                            have c34b0 : decide ((ji32) < (a0.size : Int)) = true := decide_eq_true c34
                            clear c34
                            simp only [Option.some.injEq, Prod.mk.injEq] at H
                            obtain ⟨rfl, rfl, rfl, rfl, rfl⟩ := H
                            have p18 : 0 ≤ (a1 : Int) := of_decide_eq_true (by first | (with_reducible assumption) | assumption)
                            have q18 : a1 < (a0.size : Int) := of_decide_eq_true (by first | (with_reducible assumption) | assumption)
                            have hx18 := bt_at a0 a1
                            replace p18 := eq_true p18
                            replace q18 := eq_true q18
                            have p27 : 0 ≤ (a1 : Int) := of_decide_eq_true (by first | (with_reducible assumption) | assumption)
                            have q27 : a1 < (a0.size : Int) := of_decide_eq_true (by first | (with_reducible assumption) | assumption)
                            have hx27 := bt_at a0 a1
                            replace p27 := eq_true p27
                            replace q27 := eq_true q27
                            have p31 : 0 ≤ ((ji28) : Int) := of_decide_eq_true (by first | (with_reducible assumption) | assumption)
                            have q31 : (ji28) < (a0.size : Int) := of_decide_eq_true (by first | (with_reducible assumption) | assumption)
                            have hx31 := bt_at a0 (ji28)
                            replace p31 := eq_true p31
                            replace q31 := eq_true q31
                            have p35 : 0 ≤ ((ji32) : Int) := of_decide_eq_true (by first | (with_reducible assumption) | assumption)
                            have q35 : (ji32) < (a0.size : Int) := of_decide_eq_true (by first | (with_reducible assumption) | assumption)
                            have hx35 := bt_at a0 (ji32)
                            replace p35 := eq_true p35
                            replace q35 := eq_true q35
                            have hcz36_0 : wc.cell? ⟨gb40101, 0, none⟩ = some (.int .i64 0) := (blk_cell BK40101.out 0).trans rfl
                            have hcz36_1 : wc.cell? ⟨gb40101, 1, none⟩ = some (.int .i64 0) := (blk_cell BK40101.out 1).trans rfl
                            have hcz36_2 : wc.cell? ⟨gb40101, 2, none⟩ = some (.int .i32 0) := (blk_cell BK40101.out 2).trans rfl
                            have hcz36_3 : wc.cell? ⟨gb40101, 3, none⟩ = some (.bool false) := (blk_cell BK40101.out 3).trans rfl
                            have hcz36_4 : wc.cell? ⟨gb40101, 4, none⟩ = some (.int .u8 0) := (blk_cell BK40101.out 4).trans rfl
                            have hfz36_0 := blk_frozen BK40101.out 0
                            have hfz36_1 := blk_frozen BK40101.out 1
                            have hfz36_2 := blk_frozen BK40101.out 2
                            have hfz36_3 := blk_frozen BK40101.out 3
                            have hfz36_4 := blk_frozen BK40101.out 4
                            go_wp2
                            repeat (go_quiet (fail); try go_wp2)
                            refine bodyPost_ret (results_cell_row rfl _ _ gb40101 30 #[.int .i64 a1, .int .i64 t40102, .int .i32 (Go.bits .or .i32 (Go.bits .or .i32 (wrap32 ((wrap32 (Go.bits .and .u8 (bt a0 a1) 15)) * 4096)) (wrap32 ((wrap32 (Go.bits .and .u8 (bt a0 (ji28)) 63)) * 64))) (wrap32 (Go.bits .and .u8 (bt a0 (ji32)) 63))), .bool false, .int .u8 0] (0, 0) _ rfl (by (with_reducible repeat (first | refine blk_drewN ?_ _ | refine blk_drew ?_ | refine blk_alloc ?_ _)); refine blk_put (cs := #[.int .i64 a1, .int .i64 t40102, .int .i32 (Go.bits .or .i32 (Go.bits .or .i32 (wrap32 ((wrap32 (Go.bits .and .u8 (bt a0 a1) 15)) * 4096)) (wrap32 ((wrap32 (Go.bits .and .u8 (bt a0 (ji28)) 63)) * 64))) (wrap32 (Go.bits .and .u8 (bt a0 (ji32)) 63))), .bool false, .int .u8 0]) ?_ 4 _ rfl; (with_reducible repeat (first | refine blk_drewN ?_ _ | refine blk_drew ?_ | refine blk_alloc ?_ _)); refine blk_put (cs := #[.int .i64 a1, .int .i64 t40102, .int .i32 (Go.bits .or .i32 (Go.bits .or .i32 (wrap32 ((wrap32 (Go.bits .and .u8 (bt a0 a1) 15)) * 4096)) (wrap32 ((wrap32 (Go.bits .and .u8 (bt a0 (ji28)) 63)) * 64))) (wrap32 (Go.bits .and .u8 (bt a0 (ji32)) 63))), .bool false, .int .u8 0]) ?_ 3 _ rfl; (with_reducible repeat (first | refine blk_drewN ?_ _ | refine blk_drew ?_ | refine blk_alloc ?_ _)); refine blk_put (cs := #[.int .i64 a1, .int .i64 t40102, .int .i32 0, .bool false, .int .u8 0]) ?_ 2 _ rfl; (with_reducible repeat (first | refine blk_drewN ?_ _ | refine blk_drew ?_ | refine blk_alloc ?_ _)); refine blk_put (cs := #[.int .i64 a1, .int .i64 0, .int .i32 0, .bool false, .int .u8 0]) ?_ 1 _ rfl; (with_reducible repeat (first | refine blk_drewN ?_ _ | refine blk_drew ?_ | refine blk_alloc ?_ _)); refine blk_put (cs := #[.int .i64 0, .int .i64 0, .int .i32 0, .bool false, .int .u8 0]) ?_ 0 _ rfl; (with_reducible repeat (first | refine blk_drewN ?_ _ | refine blk_drew ?_ | refine blk_alloc ?_ _)); exact BK40101.out) Tryd.underlying30 rfl (by kernel_rfl)) rfl ?_
                            exact ⟨by first | rfl | (simp [errW_none, errW_some] <;> rfl) | (simp only [← hji28, ← hji32]; first | rfl | (simp [errW_none, errW_some] <;> rfl)) | (simp [*, errW_none, errW_some] <;> rfl), by repeat (first | (with_reducible first | exact HB.out | apply below_alloc | apply pw_below_drewN | apply below_drew1 | refine below_set ?_ GE40101.out) | exact HB.out)⟩
                          · rw [if_neg c34] at H
                            exact absurd H (by simp)
                        · rw [if_neg c33] at H
                          exact absurd H (by simp)
                      · rw [if_neg c30] at H
                        exact absurd H (by simp)
                    · rw [if_neg c29] at H
                      exact absurd H (by simp)
                  · rw [if_neg c26] at H
                    have c26b0 : (t40102 == 3) = false := beq_eq_false_iff_ne.mpr c26
                    have c26b1 : (t40102 != 3) = true := bne_iff_ne.mpr c26
                    by_cases c37 : t40102 = 4
                    · rw [if_pos c37] at H
                      have c37b0 : (t40102 == 4) = true := beq_iff_eq.mpr c37
                      have c37b1 : (t40102 != 4) = false := bne_eq_false_iff_eq.mpr c37
                      clear c37
                      obtain ⟨ji39, hji39⟩ : ∃ j_ : Int, (wrap64 (a1 + 1)) = j_ := ⟨_, rfl⟩
                      replace H : (if 0 ≤ (ji39) then (if (ji39) < (a0.size : Int) then (if 0 ≤ (wrap64 (a1 + 2)) then (if (wrap64 (a1 + 2)) < (a0.size : Int) then (if 0 ≤ (wrap64 (a1 + 3)) then (if (wrap64 (a1 + 3)) < (a0.size : Int) then (some (a1, t40102, Go.bits .or .i32 (Go.bits .or .i32 (Go.bits .or .i32 (wrap32 ((wrap32 (Go.bits .and .u8 (bt a0 a1) 7)) * 262144)) (wrap32 ((wrap32 (Go.bits .and .u8 (bt a0 (ji39)) 63)) * 4096))) (wrap32 ((wrap32 (Go.bits .and .u8 (bt a0 (wrap64 (a1 + 2))) 63)) * 64))) (wrap32 (Go.bits .and .u8 (bt a0 (wrap64 (a1 + 3))) 63)), false, 0)) else (none)) else (none)) else (none)) else (none)) else (none)) else (none)) = some (r1, r2, r3, r4, r5) := by first | (rw [hji39] at H; exact H) | (simp only [hji39] at H ⊢; exact H)
                      have hji39w : (IntKind.i64.wrap (a1 + 1)) = ji39 := (i64_w _).trans hji39
                      by_cases c40 : 0 ≤ (ji39)
                      · rw [if_pos c40] at H
                        have c40b0 : decide (0 ≤ (ji39)) = true := decide_eq_true c40
                        clear c40
                        by_cases c41 : (ji39) < (a0.size : Int)
                        · rw [if_pos c41] at H
                          have c41b0 : decide ((ji39) < (a0.size : Int)) = true := decide_eq_true c41
                          clear c41
                          obtain ⟨ji43, hji43⟩ : ∃ j_ : Int, (wrap64 (a1 + 2)) = j_ := ⟨_, rfl⟩
                          replace H : (if 0 ≤ (ji43) then (if (ji43) < (a0.size : Int) then (if 0 ≤ (wrap64 (a1 + 3)) then (if (wrap64 (a1 + 3)) < (a0.size : Int) then (some (a1, t40102, Go.bits .or .i32 (Go.bits .or .i32 (Go.bits .or .i32 (wrap32 ((wrap32 (Go.bits .and .u8 (bt a0 a1) 7)) * 262144)) (wrap32 ((wrap32 (Go.bits .and .u8 (bt a0 (ji39)) 63)) * 4096))) (wrap32 ((wrap32 (Go.bits .and .u8 (bt a0 (ji43)) 63)) * 64))) (wrap32 (Go.bits .and .u8 (bt a0 (wrap64 (a1 + 3))) 63)), false, 0)) else (none)) else (none)) else (none)) else (none)) = some (r1, r2, r3, r4, r5) := by first | (rw [hji43] at H; exact H) | (simp only [hji43] at H ⊢; exact H)
                          have hji43w : (IntKind.i64.wrap (a1 + 2)) = ji43 := (i64_w _).trans hji43
                          by_cases c44 : 0 ≤ (ji43)
                          · rw [if_pos c44] at H
                            have c44b0 : decide (0 ≤ (ji43)) = true := decide_eq_true c44
                            clear c44
                            by_cases c45 : (ji43) < (a0.size : Int)
                            · rw [if_pos c45] at H
                              have c45b0 : decide ((ji43) < (a0.size : Int)) = true := decide_eq_true c45
                              clear c45
                              obtain ⟨ji47, hji47⟩ : ∃ j_ : Int, (wrap64 (a1 + 3)) = j_ := ⟨_, rfl⟩
                              replace H : (if 0 ≤ (ji47) then (if (ji47) < (a0.size : Int) then (some (a1, t40102, Go.bits .or .i32 (Go.bits .or .i32 (Go.bits .or .i32 (wrap32 ((wrap32 (Go.bits .and .u8 (bt a0 a1) 7)) * 262144)) (wrap32 ((wrap32 (Go.bits .and .u8 (bt a0 (ji39)) 63)) * 4096))) (wrap32 ((wrap32 (Go.bits .and .u8 (bt a0 (ji43)) 63)) * 64))) (wrap32 (Go.bits .and .u8 (bt a0 (ji47)) 63)), false, 0)) else (none)) else (none)) = some (r1, r2, r3, r4, r5) := by first | (rw [hji47] at H; exact H) | (simp only [hji47] at H ⊢; exact H)
                              have hji47w : (IntKind.i64.wrap (a1 + 3)) = ji47 := (i64_w _).trans hji47
                              by_cases c48 : 0 ≤ (ji47)
                              · rw [if_pos c48] at H
                                have c48b0 : decide (0 ≤ (ji47)) = true := decide_eq_true c48
                                clear c48
                                by_cases c49 : (ji47) < (a0.size : Int)
                                · rw [if_pos c49] at H
                                  have c49b0 : decide ((ji47) < (a0.size : Int)) = true := decide_eq_true c49
                                  clear c49
                                  simp only [Option.some.injEq, Prod.mk.injEq] at H
                                  obtain ⟨rfl, rfl, rfl, rfl, rfl⟩ := H
                                  have p18 : 0 ≤ (a1 : Int) := of_decide_eq_true (by first | (with_reducible assumption) | assumption)
                                  have q18 : a1 < (a0.size : Int) := of_decide_eq_true (by first | (with_reducible assumption) | assumption)
                                  have hx18 := bt_at a0 a1
                                  replace p18 := eq_true p18
                                  replace q18 := eq_true q18
                                  have p38 : 0 ≤ (a1 : Int) := of_decide_eq_true (by first | (with_reducible assumption) | assumption)
                                  have q38 : a1 < (a0.size : Int) := of_decide_eq_true (by first | (with_reducible assumption) | assumption)
                                  have hx38 := bt_at a0 a1
                                  replace p38 := eq_true p38
                                  replace q38 := eq_true q38
                                  have p42 : 0 ≤ ((ji39) : Int) := of_decide_eq_true (by first | (with_reducible assumption) | assumption)
                                  have q42 : (ji39) < (a0.size : Int) := of_decide_eq_true (by first | (with_reducible assumption) | assumption)
                                  have hx42 := bt_at a0 (ji39)
                                  replace p42 := eq_true p42
                                  replace q42 := eq_true q42
                                  have p46 : 0 ≤ ((ji43) : Int) := of_decide_eq_true (by first | (with_reducible assumption) | assumption)
                                  have q46 : (ji43) < (a0.size : Int) := of_decide_eq_true (by first | (with_reducible assumption) | assumption)
                                  have hx46 := bt_at a0 (ji43)
                                  replace p46 := eq_true p46
                                  replace q46 := eq_true q46
                                  have p50 : 0 ≤ ((ji47) : Int) := of_decide_eq_true (by first | (with_reducible assumption) | assumption)
                                  have q50 : (ji47) < (a0.size : Int) := of_decide_eq_true (by first | (with_reducible assumption) | assumption)
                                  have hx50 := bt_at a0 (ji47)
                                  replace p50 := eq_true p50
                                  replace q50 := eq_true q50
                                  have hcz51_0 : wc.cell? ⟨gb40101, 0, none⟩ = some (.int .i64 0) := (blk_cell BK40101.out 0).trans rfl
                                  have hcz51_1 : wc.cell? ⟨gb40101, 1, none⟩ = some (.int .i64 0) := (blk_cell BK40101.out 1).trans rfl
                                  have hcz51_2 : wc.cell? ⟨gb40101, 2, none⟩ = some (.int .i32 0) := (blk_cell BK40101.out 2).trans rfl
                                  have hcz51_3 : wc.cell? ⟨gb40101, 3, none⟩ = some (.bool false) := (blk_cell BK40101.out 3).trans rfl
                                  have hcz51_4 : wc.cell? ⟨gb40101, 4, none⟩ = some (.int .u8 0) := (blk_cell BK40101.out 4).trans rfl
                                  have hfz51_0 := blk_frozen BK40101.out 0
                                  have hfz51_1 := blk_frozen BK40101.out 1
                                  have hfz51_2 := blk_frozen BK40101.out 2
                                  have hfz51_3 := blk_frozen BK40101.out 3
                                  have hfz51_4 := blk_frozen BK40101.out 4
                                  go_wp2
                                  repeat (go_quiet (fail); try go_wp2)
                                  refine bodyPost_ret (results_cell_row rfl _ _ gb40101 30 #[.int .i64 a1, .int .i64 t40102, .int .i32 (Go.bits .or .i32 (Go.bits .or .i32 (Go.bits .or .i32 (wrap32 ((wrap32 (Go.bits .and .u8 (bt a0 a1) 7)) * 262144)) (wrap32 ((wrap32 (Go.bits .and .u8 (bt a0 (ji39)) 63)) * 4096))) (wrap32 ((wrap32 (Go.bits .and .u8 (bt a0 (ji43)) 63)) * 64))) (wrap32 (Go.bits .and .u8 (bt a0 (ji47)) 63))), .bool false, .int .u8 0] (0, 0) _ rfl (by (with_reducible repeat (first | refine blk_drewN ?_ _ | refine blk_drew ?_ | refine blk_alloc ?_ _)); refine blk_put (cs := #[.int .i64 a1, .int .i64 t40102, .int .i32 (Go.bits .or .i32 (Go.bits .or .i32 (Go.bits .or .i32 (wrap32 ((wrap32 (Go.bits .and .u8 (bt a0 a1) 7)) * 262144)) (wrap32 ((wrap32 (Go.bits .and .u8 (bt a0 (ji39)) 63)) * 4096))) (wrap32 ((wrap32 (Go.bits .and .u8 (bt a0 (ji43)) 63)) * 64))) (wrap32 (Go.bits .and .u8 (bt a0 (ji47)) 63))), .bool false, .int .u8 0]) ?_ 4 _ rfl; (with_reducible repeat (first | refine blk_drewN ?_ _ | refine blk_drew ?_ | refine blk_alloc ?_ _)); refine blk_put (cs := #[.int .i64 a1, .int .i64 t40102, .int .i32 (Go.bits .or .i32 (Go.bits .or .i32 (Go.bits .or .i32 (wrap32 ((wrap32 (Go.bits .and .u8 (bt a0 a1) 7)) * 262144)) (wrap32 ((wrap32 (Go.bits .and .u8 (bt a0 (ji39)) 63)) * 4096))) (wrap32 ((wrap32 (Go.bits .and .u8 (bt a0 (ji43)) 63)) * 64))) (wrap32 (Go.bits .and .u8 (bt a0 (ji47)) 63))), .bool false, .int .u8 0]) ?_ 3 _ rfl; (with_reducible repeat (first | refine blk_drewN ?_ _ | refine blk_drew ?_ | refine blk_alloc ?_ _)); refine blk_put (cs := #[.int .i64 a1, .int .i64 t40102, .int .i32 0, .bool false, .int .u8 0]) ?_ 2 _ rfl; (with_reducible repeat (first | refine blk_drewN ?_ _ | refine blk_drew ?_ | refine blk_alloc ?_ _)); refine blk_put (cs := #[.int .i64 a1, .int .i64 0, .int .i32 0, .bool false, .int .u8 0]) ?_ 1 _ rfl; (with_reducible repeat (first | refine blk_drewN ?_ _ | refine blk_drew ?_ | refine blk_alloc ?_ _)); refine blk_put (cs := #[.int .i64 0, .int .i64 0, .int .i32 0, .bool false, .int .u8 0]) ?_ 0 _ rfl; (with_reducible repeat (first | refine blk_drewN ?_ _ | refine blk_drew ?_ | refine blk_alloc ?_ _)); exact BK40101.out) Tryd.underlying30 rfl (by kernel_rfl)) rfl ?_
                                  exact ⟨by first | rfl | (simp [errW_none, errW_some] <;> rfl) | (simp only [← hji39, ← hji43, ← hji47]; first | rfl | (simp [errW_none, errW_some] <;> rfl)) | (simp [*, errW_none, errW_some] <;> rfl), by repeat (first | (with_reducible first | exact HB.out | apply below_alloc | apply pw_below_drewN | apply below_drew1 | refine below_set ?_ GE40101.out) | exact HB.out)⟩
                                · rw [if_neg c49] at H
                                  exact absurd H (by simp)
                              · rw [if_neg c48] at H
                                exact absurd H (by simp)
                            · rw [if_neg c45] at H
                              exact absurd H (by simp)
                          · rw [if_neg c44] at H
                            exact absurd H (by simp)
                        · rw [if_neg c41] at H
                          exact absurd H (by simp)
                      · rw [if_neg c40] at H
                        exact absurd H (by simp)
                    · rw [if_neg c37] at H
                      have c37b0 : (t40102 == 4) = false := beq_eq_false_iff_ne.mpr c37
                      have c37b1 : (t40102 != 4) = true := bne_iff_ne.mpr c37
                      simp only [Option.some.injEq, Prod.mk.injEq] at H
                      obtain ⟨rfl, rfl, rfl, rfl, rfl⟩ := H
                      have p18 : 0 ≤ (a1 : Int) := of_decide_eq_true (by first | (with_reducible assumption) | assumption)
                      have q18 : a1 < (a0.size : Int) := of_decide_eq_true (by first | (with_reducible assumption) | assumption)
                      have hx18 := bt_at a0 a1
                      replace p18 := eq_true p18
                      replace q18 := eq_true q18
                      have hcz52_0 : wc.cell? ⟨gb40101, 0, none⟩ = some (.int .i64 0) := (blk_cell BK40101.out 0).trans rfl
                      have hcz52_1 : wc.cell? ⟨gb40101, 1, none⟩ = some (.int .i64 0) := (blk_cell BK40101.out 1).trans rfl
                      have hcz52_2 : wc.cell? ⟨gb40101, 2, none⟩ = some (.int .i32 0) := (blk_cell BK40101.out 2).trans rfl
                      have hcz52_3 : wc.cell? ⟨gb40101, 3, none⟩ = some (.bool false) := (blk_cell BK40101.out 3).trans rfl
                      have hcz52_4 : wc.cell? ⟨gb40101, 4, none⟩ = some (.int .u8 0) := (blk_cell BK40101.out 4).trans rfl
                      have hfz52_0 := blk_frozen BK40101.out 0
                      have hfz52_1 := blk_frozen BK40101.out 1
                      have hfz52_2 := blk_frozen BK40101.out 2
                      have hfz52_3 := blk_frozen BK40101.out 3
                      have hfz52_4 := blk_frozen BK40101.out 4
                      go_wp2
                      repeat (go_quiet (fail); try go_wp2)
                      refine bodyPost_ret (results_cell_row rfl _ _ gb40101 30 #[.int .i64 a1, .int .i64 t40102, .int .i32 (wrap32 (bt a0 a1)), .bool false, .int .u8 0] (0, 0) _ rfl (by (with_reducible repeat (first | refine blk_drewN ?_ _ | refine blk_drew ?_ | refine blk_alloc ?_ _)); refine blk_put (cs := #[.int .i64 a1, .int .i64 t40102, .int .i32 (wrap32 (bt a0 a1)), .bool false, .int .u8 0]) ?_ 4 _ rfl; (with_reducible repeat (first | refine blk_drewN ?_ _ | refine blk_drew ?_ | refine blk_alloc ?_ _)); refine blk_put (cs := #[.int .i64 a1, .int .i64 t40102, .int .i32 (wrap32 (bt a0 a1)), .bool false, .int .u8 0]) ?_ 3 _ rfl; (with_reducible repeat (first | refine blk_drewN ?_ _ | refine blk_drew ?_ | refine blk_alloc ?_ _)); refine blk_put (cs := #[.int .i64 a1, .int .i64 t40102, .int .i32 0, .bool false, .int .u8 0]) ?_ 2 _ rfl; (with_reducible repeat (first | refine blk_drewN ?_ _ | refine blk_drew ?_ | refine blk_alloc ?_ _)); refine blk_put (cs := #[.int .i64 a1, .int .i64 0, .int .i32 0, .bool false, .int .u8 0]) ?_ 1 _ rfl; (with_reducible repeat (first | refine blk_drewN ?_ _ | refine blk_drew ?_ | refine blk_alloc ?_ _)); refine blk_put (cs := #[.int .i64 0, .int .i64 0, .int .i32 0, .bool false, .int .u8 0]) ?_ 0 _ rfl; (with_reducible repeat (first | refine blk_drewN ?_ _ | refine blk_drew ?_ | refine blk_alloc ?_ _)); exact BK40101.out) Tryd.underlying30 rfl (by kernel_rfl)) rfl ?_
                      exact ⟨by first | rfl | (simp [errW_none, errW_some] <;> rfl) | (simp [*, errW_none, errW_some] <;> rfl), by repeat (first | (with_reducible first | exact HB.out | apply below_alloc | apply pw_below_drewN | apply below_drew1 | refine below_set ?_ GE40101.out) | exact HB.out)⟩
              · rw [if_neg c17] at H
                exact absurd H (by simp)
            · rw [if_neg c16] at H
              exact absurd H (by simp)
    · rw [if_neg c4] at H
      exact absurd H (by simp)
  · rw [if_neg c3] at H
    exact absurd H (by simp)

end Go.Proofs.YtfcobfjjcocggaaDoor.C
