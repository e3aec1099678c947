import Derived.Test.YtcpbalnbgmjhjaaDoorV13
import Derived.Test.YtcpbalnbgmjhjaaDoorV15
import Derived.Test.YtcpbalnbgmjhjaaDoorV110
namespace Go.Proofs.YtcpbalnbgmjhjaaDoor.G
open Go.RowKit Go.Proofs.YtcpbalnbgmjhjaaDoor.Mi Go.Proofs.YtcpbalnbgmjhjaaDoorW.PrintWords Go.Proofs.YtcpbalnbgmjhjaaDoorW.PrintLast Go.Proofs.YtcpbalnbgmjhjaaDoorW.PrintMore
attribute [local go_sem] min2_int min_two min_three   -- for this text's walks alone
set_option linter.unusedVariables false
set_option linter.unusedSimpArgs false
/-! ### siglumref01_cell: function 71 -/
def siglumref01_cell.j0 : Nat → ByteArray → Int → Int → Bool → Option (Int × Int × Int × Bool × Int)
 | 0, _, _, _, _ => none
 | k + 1, x0, x1, x5, x19 => if x19 = true then (if 0 ≤ x1 then (if x1 < (x0.size : Int) then (some (x1, 1, 65533, true, bt x0 x1)) else (none)) else (none)) else (if 0 ≤ x1 then (if x1 < (x0.size : Int) then (if x5 = 2 then (if 0 ≤ (wrap64 (x1 + 1)) then (if (wrap64 (x1 + 1)) < (x0.size : Int) then (some (x1, x5, Go.bits .or .i32 (wrap32 ((wrap32 (Go.bits .and .u8 (bt x0 x1) 31)) * 64)) (wrap32 (Go.bits .and .u8 (bt x0 (wrap64 (x1 + 1))) 63)), false, 0)) else (none)) else (none)) else (if x5 = 3 then (if 0 ≤ (wrap64 (x1 + 1)) then (if (wrap64 (x1 + 1)) < (x0.size : Int) then (if 0 ≤ (wrap64 (x1 + 2)) then (if (wrap64 (x1 + 2)) < (x0.size : Int) then (some (x1, x5, Go.bits .or .i32 (Go.bits .or .i32 (wrap32 ((wrap32 (Go.bits .and .u8 (bt x0 x1) 15)) * 4096)) (wrap32 ((wrap32 (Go.bits .and .u8 (bt x0 (wrap64 (x1 + 1))) 63)) * 64))) (wrap32 (Go.bits .and .u8 (bt x0 (wrap64 (x1 + 2))) 63)), false, 0)) else (none)) else (none)) else (none)) else (none)) else (if x5 = 4 then (if 0 ≤ (wrap64 (x1 + 1)) then (if (wrap64 (x1 + 1)) < (x0.size : Int) then (if 0 ≤ (wrap64 (x1 + 2)) then (if (wrap64 (x1 + 2)) < (x0.size : Int) then (if 0 ≤ (wrap64 (x1 + 3)) then (if (wrap64 (x1 + 3)) < (x0.size : Int) then (some (x1, x5, Go.bits .or .i32 (Go.bits .or .i32 (Go.bits .or .i32 (wrap32 ((wrap32 (Go.bits .and .u8 (bt x0 x1) 7)) * 262144)) (wrap32 ((wrap32 (Go.bits .and .u8 (bt x0 (wrap64 (x1 + 1))) 63)) * 4096))) (wrap32 ((wrap32 (Go.bits .and .u8 (bt x0 (wrap64 (x1 + 2))) 63)) * 64))) (wrap32 (Go.bits .and .u8 (bt x0 (wrap64 (x1 + 3))) 63)), false, 0)) else (none)) else (none)) else (none)) else (none)) else (none)) else (none)) else (some (x1, x5, wrap32 (bt x0 x1), false, 0))))) else (none)) else (none))
def siglumref01_cell.f (k : Nat) (a0 : ByteArray) (a1 : Int) : Option (Int × Int × Int × Bool × Int) := if 0 ≤ a1 then (if a1 < (a0.size : Int) then ((siglumref01_wants.f (bt a0 a1)).bind fun t71102 => (if t71102 = 0 then (siglumref01_cell.j0 k a0 a1 t71102 true) else ((siglumref01_fits.f k a0 a1).bind fun t71103 => (siglumref01_cell.j0 k a0 a1 t71102 (decide (t71103 < t71102)))))) else (none)) else (none)
set_option maxHeartbeats 8000000 in
set_option maxRecDepth 100000 in
theorem siglumref01_cell.calls (k : Nat) (a0 : ByteArray) (a1 : Int) (r1 : Int) (r2 : Int) (r3 : Int) (r4 : Bool) (r5 : Int) (w : World) (h : siglumref01_cell.f k a0 a1 = some (r1, r2, r3, r4, r5)) :
 Calls Tryd.prog 71 #[.string a0, .int .i64 a1] w fun e w' => e = .returned (.agg #[.int .i64 r1, .int .i64 r2, .int .i32 r3, .bool r4, .int .u8 r5]) ∧ Below w.heap.size w w' := by
 have hu91 := Tryd.underlying91; have HB := Aside0.mk (Below.refl w.heap.size w); have H : (if 0 ≤ a1 then (if a1 < (a0.size : Int) then ((siglumref01_wants.f (bt a0 a1)).bind fun t71102 => (if t71102 = 0 then (siglumref01_cell.j0 k a0 a1 t71102 true) else ((siglumref01_fits.f k a0 a1).bind fun t71103 => (siglumref01_cell.j0 k a0 a1 t71102 (decide (t71103 < t71102)))))) else (none)) else (none)) = some (r1, r2, r3, r4, r5) := h; clear h
 by_cases c3 : 0 ≤ a1
 rotate_left
 · rw [if_neg c3] at H; exact absurd H (by simp)
 rw [if_pos c3] at H; have c3b0 : decide (0 ≤ a1) = true := decide_eq_true c3; clear c3
 by_cases c4 : a1 < (a0.size : Int)
 rotate_left
 · rw [if_neg c4] at H; exact absurd H (by simp)
 rw [if_pos c4] at H; have c4b0 : decide (a1 < (a0.size : Int)) = true := decide_eq_true c4; clear c4; replace H := Option.bind_eq_some_iff.mp H; obtain ⟨t71102, A60, H⟩ := H; (try dsimp only at H); have A6 := Aside0.mk A60; clear A60; have HC7 := Aside0.mk H; clear H
 go_enter Tryd.func71, Tryd.ntmps71
 go_upto_region 2 with (first | ((with_reducible refine gate_dst (N := 4) rfl ?_); refine box_event ?hg (N := 4) ?hd (cs := #[.int .i64 0, .int .i64 0, .int .i32 0, .bool false, .int .u8 0]) (t := 91) ?hr ?_; (case hd => rfl); (case hg => rfl); (case hr => first | (go_simp; done) | (go_simp; rfl)); intro gb71101 hg w8 hbox hb; have n0_ := Aside0.mk (below_step bel hb); have n1_ := Aside0.mk (hbox); have n2_ := Aside0.mk ((by rw [hg]; exact (below_size bel) : w.heap.size ≤ gb71101)); have n3_ := Aside0.mk ((by rw [hg]; exact (below_size bel) : w.heap.size ≤ gb71101)); clear HB; have HB := n0_; have BK71101 := n1_; have GW71101 := n2_; have GE71101 := n3_; clear n0_ n1_ n2_ n3_; clear hb hbox hg; have p5 : 0 ≤ (a1 : Int) := oda; have q5 : a1 < (a0.size : Int) := oda; have hx5 := bt_at a0 a1; replace p5 := eq_true p5; replace q5 := eq_true q5) | (go_at_call 84; (with_reducible refine (siglumref01_wants.calls (bt a0 a1) t71102 _ A6.out).mono ?_); rintro e w' ⟨rfl, ⟨nd, rfl⟩⟩; (try first | exact ⟨rfl, _, World.drewN_drewN _ _ _⟩ | exact ⟨rfl, _, Eq.trans (World.drewN_drewN _ _ _) (congrArg (World.drewN _) (Nat.add_assoc _ _ _))⟩)))
 repeat (go_quiet (first | ((with_reducible refine gate_dst (N := 4) rfl ?_); refine box_event ?hg (N := 4) ?hd (cs := #[.int .i64 0, .int .i64 0, .int .i32 0, .bool false, .int .u8 0]) (t := 91) ?hr ?_; (case hd => rfl); (case hg => rfl); (case hr => first | (go_simp; done) | (go_simp; rfl)); intro gb71101 hg w8 hbox hb; have n0_ := Aside0.mk (below_step bel hb); have n1_ := Aside0.mk (hbox); have n2_ := Aside0.mk ((by rw [hg]; exact (below_size bel) : w.heap.size ≤ gb71101)); have n3_ := Aside0.mk ((by rw [hg]; exact (below_size bel) : w.heap.size ≤ gb71101)); clear HB; have HB := n0_; have BK71101 := n1_; have GW71101 := n2_; have GE71101 := n3_; clear n0_ n1_ n2_ n3_; clear hb hbox hg; have p5 : 0 ≤ (a1 : Int) := oda; have q5 : a1 < (a0.size : Int) := oda; have hx5 := bt_at a0 a1; replace p5 := eq_true p5; replace q5 := eq_true q5) | (go_at_call 84; (with_reducible refine (siglumref01_wants.calls (bt a0 a1) t71102 _ A6.out).mono ?_); rintro e w' ⟨rfl, ⟨nd, rfl⟩⟩; (try first | exact ⟨rfl, _, World.drewN_drewN _ _ _⟩ | exact ⟨rfl, _, Eq.trans (World.drewN_drewN _ _ _) (congrArg (World.drewN _) (Nat.add_assoc _ _ _))⟩))); go_upto_region 2 with (first | ((with_reducible refine gate_dst (N := 4) rfl ?_); refine box_event ?hg (N := 4) ?hd (cs := #[.int .i64 0, .int .i64 0, .int .i32 0, .bool false, .int .u8 0]) (t := 91) ?hr ?_; (case hd => rfl); (case hg => rfl); (case hr => first | (go_simp; done) | (go_simp; rfl)); intro gb71101 hg w8 hbox hb; have n0_ := Aside0.mk (below_step bel hb); have n1_ := Aside0.mk (hbox); have n2_ := Aside0.mk ((by rw [hg]; exact (below_size bel) : w.heap.size ≤ gb71101)); have n3_ := Aside0.mk ((by rw [hg]; exact (below_size bel) : w.heap.size ≤ gb71101)); clear HB; have HB := n0_; have BK71101 := n1_; have GW71101 := n2_; have GE71101 := n3_; clear n0_ n1_ n2_ n3_; clear hb hbox hg; have p5 : 0 ≤ (a1 : Int) := oda; have q5 : a1 < (a0.size : Int) := oda; have hx5 := bt_at a0 a1; replace p5 := eq_true p5; replace q5 := eq_true q5) | (go_at_call 84; (with_reducible refine (siglumref01_wants.calls (bt a0 a1) t71102 _ A6.out).mono ?_); rintro e w' ⟨rfl, ⟨nd, rfl⟩⟩; (try first | exact ⟨rfl, _, World.drewN_drewN _ _ _⟩ | exact ⟨rfl, _, Eq.trans (World.drewN_drewN _ _ _) (congrArg (World.drewN _) (Nat.add_assoc _ _ _))⟩))))
 (try simp only [Act.put,List.setIfInBounds_toArray,List.set_cons_zero,List.set_cons_succ])
 go_cut [19] (fun v19 wc => ∃ (kq : Nat) (x19_6 : Bool), v19 = .bool x19_6 ∧ Aside0 (siglumref01_cell.j0 kq a0 a1 t71102 x19_6 = some (r1, r2, r3, r4, r5)) ∧ Aside0 (kq ≤ k) ∧ Aside0 (wc.heap[gb71101]? = some (.cells #[.int .i64 0, .int .i64 0, .int .i32 0, .bool false, .int .u8 0] 91 (0, 0))) ∧ Aside0 (Below w.heap.size w wc))
 case first =>
  have H := HC7.out; clear HC7
  by_cases c9 : t71102 = 0
  ·
   rw [if_pos c9] at H; have c9b0 : (t71102 == 0) = true := beq_iff_eq.mpr c9; have c9b1 : (t71102 != 0) = false := bne_eq_false_iff_eq.mpr c9; clear c9; (first | rw [c9b0] | (simp only [i64_w, i32_w]; rw [c9b0]) | (have ce_ := c9b0; rw [List.beq_nil_eq] at ce_; rw [ce_]) | skip); have H' := Aside0.mk H; clear H; go_wp2
   repeat (go_quiet (fail); try go_wp2)
   go_meet
   case rel => exact ⟨_, (true), (by first | rfl | (simp; done) | (simp [*]; done)), H', ⟨by first | omega | exact Nat.le_refl _⟩, ⟨bl BK71101⟩, ⟨bel⟩⟩
  ·
   rw [if_neg c9] at H; have c9b0 : (t71102 == 0) = false := beq_eq_false_iff_ne.mpr c9; have c9b1 : (t71102 != 0) = true := bne_iff_ne.mpr c9; (first | rw [c9b0] | (simp only [i64_w, i32_w]; rw [c9b0]) | (have ce_ := c9b0; rw [List.beq_nil_eq] at ce_; rw [ce_]) | skip); replace H := Option.bind_eq_some_iff.mp H; obtain ⟨t71103, A100, H⟩ := H; (try dsimp only at H); have A10 := Aside0.mk A100; clear A100; have H' := Aside0.mk H; clear H
   go_wp2_with (first | (go_at_call 85; (with_reducible refine (siglumref01_fits.calls k a0 a1 t71103 _ A10.out).mono ?_); rintro e w' ⟨rfl, ⟨nd, rfl⟩⟩; (try first | exact ⟨rfl, _, World.drewN_drewN _ _ _⟩ | exact ⟨rfl, _, Eq.trans (World.drewN_drewN _ _ _) (congrArg (World.drewN _) (Nat.add_assoc _ _ _))⟩)))
   repeat (go_quiet (first | (go_at_call 85; (with_reducible refine (siglumref01_fits.calls k a0 a1 t71103 _ A10.out).mono ?_); rintro e w' ⟨rfl, ⟨nd, rfl⟩⟩; (try first | exact ⟨rfl, _, World.drewN_drewN _ _ _⟩ | exact ⟨rfl, _, Eq.trans (World.drewN_drewN _ _ _) (congrArg (World.drewN _) (Nat.add_assoc _ _ _))⟩))); try go_wp2_with (first | (go_at_call 85; (with_reducible refine (siglumref01_fits.calls k a0 a1 t71103 _ A10.out).mono ?_); rintro e w' ⟨rfl, ⟨nd, rfl⟩⟩; (try first | exact ⟨rfl, _, World.drewN_drewN _ _ _⟩ | exact ⟨rfl, _, Eq.trans (World.drewN_drewN _ _ _) (congrArg (World.drewN _) (Nat.add_assoc _ _ _))⟩))))
   go_meet
   case rel => exact ⟨_, (decide (t71103 < t71102)), (by first | rfl | (simp; done) | (simp [*]; done)), H', ⟨by first | omega | exact Nat.le_refl _⟩, ⟨bl BK71101⟩, ⟨bel⟩⟩
 case rest =>
  clear HC7; (try clear p2); (try clear c3); (try clear c3b0); (try clear c4); (try clear c4b0); (try clear p5); (try clear q5); (try clear hx5); (try clear c7); (try clear c9); (try clear c9b0); (try clear c9b1); obtain ⟨kq, x19_6, rfl, HA, HJ6, BK71101, HB⟩ := hcut
  cases kq with
  | zero => exact absurd HA.out (by simp [siglumref01_cell.j0])
  | succ kj6 =>
   have H := HA.out; clear HA; simp only [siglumref01_cell.j0] at H
   by_cases c11 : x19_6 = true
   ·
    subst c11; have H1 := H; rw [if_pos rfl] at H1; clear H; have H := H1; clear H1
    by_cases c12 : 0 ≤ a1
    rotate_left
    · rw [if_neg c12] at H; exact absurd H (by simp)
    rw [if_pos c12] at H; have c12b0 : decide (0 ≤ a1) = true := decide_eq_true c12; clear c12
    by_cases c13 : a1 < (a0.size : Int)
    rotate_left
    · rw [if_neg c13] at H; exact absurd H (by simp)
    rw [if_pos c13] at H; have c13b0 : decide (a1 < (a0.size : Int)) = true := decide_eq_true c13; clear c13; simp only [Option.some.injEq, Prod.mk.injEq] at H; obtain ⟨rfl, rfl, rfl, rfl, rfl⟩ := H; have p14 : 0 ≤ (a1 : Int) := oda; have q14 : a1 < (a0.size : Int) := oda; have hx14 := bt_at a0 a1; replace p14 := eq_true p14; replace q14 := eq_true q14; have hcz15_0 : wc.cell? ⟨gb71101, 0, none⟩ = some (.int .i64 0) := (blk_cell BK71101.out 0).trans rfl; have hcz15_1 : wc.cell? ⟨gb71101, 1, none⟩ = some (.int .i64 0) := (blk_cell BK71101.out 1).trans rfl; have hcz15_2 : wc.cell? ⟨gb71101, 2, none⟩ = some (.int .i32 0) := (blk_cell BK71101.out 2).trans rfl; have hcz15_3 : wc.cell? ⟨gb71101, 3, none⟩ = some (.bool false) := (blk_cell BK71101.out 3).trans rfl; have hcz15_4 : wc.cell? ⟨gb71101, 4, none⟩ = some (.int .u8 0) := (blk_cell BK71101.out 4).trans rfl; have hfz15_0 := blk_frozen BK71101.out 0; have hfz15_1 := blk_frozen BK71101.out 1; have hfz15_2 := blk_frozen BK71101.out 2; have hfz15_3 := blk_frozen BK71101.out 3; have hfz15_4 := blk_frozen BK71101.out 4; go_wp2
    repeat (go_quiet (fail); try go_wp2)
    refine bodyPost_ret (results_cell_row rfl _ _ gb71101 91 #[.int .i64 a1, .int .i64 1, .int .i32 65533, .bool true, .int .u8 (bt a0 a1)] (0, 0) _ rfl (by (with_reducible repeat (first | refine blk_drewN ?_ _ | refine blk_drew ?_ | refine blk_alloc ?_ _)); refine blk_put (cs := #[.int .i64 a1, .int .i64 1, .int .i32 65533, .bool true, .int .u8 0]) ?_ 4 _ rfl; (with_reducible repeat (first | refine blk_drewN ?_ _ | refine blk_drew ?_ | refine blk_alloc ?_ _)); refine blk_put (cs := #[.int .i64 a1, .int .i64 1, .int .i32 65533, .bool false, .int .u8 0]) ?_ 3 _ rfl; (with_reducible repeat (first | refine blk_drewN ?_ _ | refine blk_drew ?_ | refine blk_alloc ?_ _)); refine blk_put (cs := #[.int .i64 a1, .int .i64 1, .int .i32 0, .bool false, .int .u8 0]) ?_ 2 _ rfl; (with_reducible repeat (first | refine blk_drewN ?_ _ | refine blk_drew ?_ | refine blk_alloc ?_ _)); refine blk_put (cs := #[.int .i64 a1, .int .i64 0, .int .i32 0, .bool false, .int .u8 0]) ?_ 1 _ rfl; (with_reducible repeat (first | refine blk_drewN ?_ _ | refine blk_drew ?_ | refine blk_alloc ?_ _)); refine blk_put (cs := #[.int .i64 0, .int .i64 0, .int .i32 0, .bool false, .int .u8 0]) ?_ 0 _ rfl; (with_reducible repeat (first | refine blk_drewN ?_ _ | refine blk_drew ?_ | refine blk_alloc ?_ _)); exact BK71101.out) Tryd.underlying91 rfl (by kernel_rfl)) rfl ?_; exact ⟨by first | rfl | (simp [errW_none, errW_some] <;> rfl) | (simp [*, errW_none, errW_some] <;> rfl), by exact bel⟩
   ·
    replace c11 := Bool.eq_false_iff.mpr c11; subst c11; have H1 := H; rw [if_neg (show ¬ (false = true) by decide)] at H1; clear H; have H := H1; clear H1
    by_cases c16 : 0 ≤ a1
    rotate_left
    · rw [if_neg c16] at H; exact absurd H (by simp)
    rw [if_pos c16] at H; have c16b0 : decide (0 ≤ a1) = true := decide_eq_true c16; clear c16
    by_cases c17 : a1 < (a0.size : Int)
    rotate_left
    · rw [if_neg c17] at H; exact absurd H (by simp)
    rw [if_pos c17] at H; have c17b0 : decide (a1 < (a0.size : Int)) = true := decide_eq_true c17; clear c17
    by_cases c19 : t71102 = 2
    ·
     rw [if_pos c19] at H; have c19b0 : (t71102 == 2) = true := beq_iff_eq.mpr c19; have c19b1 : (t71102 != 2) = false := bne_eq_false_iff_eq.mpr c19; clear c19
     obtain ⟨ji21, hji21⟩ : ∃ j_ : Int, (wrap64 (a1 + 1)) = j_ := ⟨_, rfl⟩
     replace H : (if 0 ≤ (ji21) then (if (ji21) < (a0.size : Int) then (some (a1, t71102, Go.bits .or .i32 (wrap32 ((wrap32 (Go.bits .and .u8 (bt a0 a1) 31)) * 64)) (wrap32 (Go.bits .and .u8 (bt a0 (ji21)) 63)), false, 0)) else (none)) else (none)) = some (r1, r2, r3, r4, r5) := by first | (rw [hji21] at H; exact H) | (simp only [hji21] at H ⊢; exact H)
     have hji21w : (IntKind.i64.wrap (a1 + 1)) = ji21 := (i64_w _).trans hji21
     by_cases c22 : 0 ≤ (ji21)
     rotate_left
     · rw [if_neg c22] at H; exact absurd H (by simp)
     rw [if_pos c22] at H; have c22b0 : decide (0 ≤ (ji21)) = true := decide_eq_true c22; clear c22
     by_cases c23 : (ji21) < (a0.size : Int)
     rotate_left
     · rw [if_neg c23] at H; exact absurd H (by simp)
     rw [if_pos c23] at H; have c23b0 : decide ((ji21) < (a0.size : Int)) = true := decide_eq_true c23; clear c23; simp only [Option.some.injEq, Prod.mk.injEq] at H; obtain ⟨rfl, rfl, rfl, rfl, rfl⟩ := H; have p18 : 0 ≤ (a1 : Int) := oda; have q18 : a1 < (a0.size : Int) := oda; have hx18 := bt_at a0 a1; replace p18 := eq_true p18; replace q18 := eq_true q18; have p20 : 0 ≤ (a1 : Int) := oda; have q20 : a1 < (a0.size : Int) := oda; have hx20 := bt_at a0 a1; replace p20 := eq_true p20; replace q20 := eq_true q20; have p24 : 0 ≤ ((ji21) : Int) := oda; have q24 : (ji21) < (a0.size : Int) := oda; have hx24 := bt_at a0 (ji21); replace p24 := eq_true p24; replace q24 := eq_true q24; have hcz25_0 : wc.cell? ⟨gb71101, 0, none⟩ = some (.int .i64 0) := (blk_cell BK71101.out 0).trans rfl; have hcz25_1 : wc.cell? ⟨gb71101, 1, none⟩ = some (.int .i64 0) := (blk_cell BK71101.out 1).trans rfl; have hcz25_2 : wc.cell? ⟨gb71101, 2, none⟩ = some (.int .i32 0) := (blk_cell BK71101.out 2).trans rfl; have hcz25_3 : wc.cell? ⟨gb71101, 3, none⟩ = some (.bool false) := (blk_cell BK71101.out 3).trans rfl; have hcz25_4 : wc.cell? ⟨gb71101, 4, none⟩ = some (.int .u8 0) := (blk_cell BK71101.out 4).trans rfl; have hfz25_0 := blk_frozen BK71101.out 0; have hfz25_1 := blk_frozen BK71101.out 1; have hfz25_2 := blk_frozen BK71101.out 2; have hfz25_3 := blk_frozen BK71101.out 3; have hfz25_4 := blk_frozen BK71101.out 4; go_wp2
     repeat (go_quiet (fail); try go_wp2)
     refine bodyPost_ret (results_cell_row rfl _ _ gb71101 91 #[.int .i64 a1, .int .i64 t71102, .int .i32 (Go.bits .or .i32 (wrap32 ((wrap32 (Go.bits .and .u8 (bt a0 a1) 31)) * 64)) (wrap32 (Go.bits .and .u8 (bt a0 (ji21)) 63))), .bool false, .int .u8 0] (0, 0) _ rfl (by (with_reducible repeat (first | refine blk_drewN ?_ _ | refine blk_drew ?_ | refine blk_alloc ?_ _)); refine blk_put (cs := #[.int .i64 a1, .int .i64 t71102, .int .i32 (Go.bits .or .i32 (wrap32 ((wrap32 (Go.bits .and .u8 (bt a0 a1) 31)) * 64)) (wrap32 (Go.bits .and .u8 (bt a0 (ji21)) 63))), .bool false, .int .u8 0]) ?_ 4 _ rfl; (with_reducible repeat (first | refine blk_drewN ?_ _ | refine blk_drew ?_ | refine blk_alloc ?_ _)); refine blk_put (cs := #[.int .i64 a1, .int .i64 t71102, .int .i32 (Go.bits .or .i32 (wrap32 ((wrap32 (Go.bits .and .u8 (bt a0 a1) 31)) * 64)) (wrap32 (Go.bits .and .u8 (bt a0 (ji21)) 63))), .bool false, .int .u8 0]) ?_ 3 _ rfl; (with_reducible repeat (first | refine blk_drewN ?_ _ | refine blk_drew ?_ | refine blk_alloc ?_ _)); refine blk_put (cs := #[.int .i64 a1, .int .i64 t71102, .int .i32 0, .bool false, .int .u8 0]) ?_ 2 _ rfl; (with_reducible repeat (first | refine blk_drewN ?_ _ | refine blk_drew ?_ | refine blk_alloc ?_ _)); refine blk_put (cs := #[.int .i64 a1, .int .i64 0, .int .i32 0, .bool false, .int .u8 0]) ?_ 1 _ rfl; (with_reducible repeat (first | refine blk_drewN ?_ _ | refine blk_drew ?_ | refine blk_alloc ?_ _)); refine blk_put (cs := #[.int .i64 0, .int .i64 0, .int .i32 0, .bool false, .int .u8 0]) ?_ 0 _ rfl; (with_reducible repeat (first | refine blk_drewN ?_ _ | refine blk_drew ?_ | refine blk_alloc ?_ _)); exact BK71101.out) Tryd.underlying91 rfl (by kernel_rfl)) rfl ?_
     exact ⟨by first | rfl | (simp [errW_none, errW_some] <;> rfl) | (simp only [← hji21]; first | rfl | (simp [errW_none, errW_some] <;> rfl)) | (simp [*, errW_none, errW_some] <;> rfl), by exact bel⟩
    ·
     rw [if_neg c19] at H; have c19b0 : (t71102 == 2) = false := beq_eq_false_iff_ne.mpr c19; have c19b1 : (t71102 != 2) = true := bne_iff_ne.mpr c19
     by_cases c26 : t71102 = 3
     ·
      rw [if_pos c26] at H; have c26b0 : (t71102 == 3) = true := beq_iff_eq.mpr c26; have c26b1 : (t71102 != 3) = false := bne_eq_false_iff_eq.mpr c26; clear c26
      obtain ⟨ji28, hji28⟩ : ∃ j_ : Int, (wrap64 (a1 + 1)) = j_ := ⟨_, rfl⟩
      replace H : (if 0 ≤ (ji28) then (if (ji28) < (a0.size : Int) then (if 0 ≤ (wrap64 (a1 + 2)) then (if (wrap64 (a1 + 2)) < (a0.size : Int) then (some (a1, t71102, Go.bits .or .i32 (Go.bits .or .i32 (wrap32 ((wrap32 (Go.bits .and .u8 (bt a0 a1) 15)) * 4096)) (wrap32 ((wrap32 (Go.bits .and .u8 (bt a0 (ji28)) 63)) * 64))) (wrap32 (Go.bits .and .u8 (bt a0 (wrap64 (a1 + 2))) 63)), false, 0)) else (none)) else (none)) else (none)) else (none)) = some (r1, r2, r3, r4, r5) := by first | (rw [hji28] at H; exact H) | (simp only [hji28] at H ⊢; exact H)
      have hji28w : (IntKind.i64.wrap (a1 + 1)) = ji28 := (i64_w _).trans hji28
      by_cases c29 : 0 ≤ (ji28)
      rotate_left
      · rw [if_neg c29] at H; exact absurd H (by simp)
      rw [if_pos c29] at H; have c29b0 : decide (0 ≤ (ji28)) = true := decide_eq_true c29; clear c29
      by_cases c30 : (ji28) < (a0.size : Int)
      rotate_left
      · rw [if_neg c30] at H; exact absurd H (by simp)
      rw [if_pos c30] at H; have c30b0 : decide ((ji28) < (a0.size : Int)) = true := decide_eq_true c30; clear c30
      obtain ⟨ji32, hji32⟩ : ∃ j_ : Int, (wrap64 (a1 + 2)) = j_ := ⟨_, rfl⟩
      replace H : (if 0 ≤ (ji32) then (if (ji32) < (a0.size : Int) then (some (a1, t71102, Go.bits .or .i32 (Go.bits .or .i32 (wrap32 ((wrap32 (Go.bits .and .u8 (bt a0 a1) 15)) * 4096)) (wrap32 ((wrap32 (Go.bits .and .u8 (bt a0 (ji28)) 63)) * 64))) (wrap32 (Go.bits .and .u8 (bt a0 (ji32)) 63)), false, 0)) else (none)) else (none)) = some (r1, r2, r3, r4, r5) := by first | (rw [hji32] at H; exact H) | (simp only [hji32] at H ⊢; exact H)
      have hji32w : (IntKind.i64.wrap (a1 + 2)) = ji32 := (i64_w _).trans hji32
      by_cases c33 : 0 ≤ (ji32)
      rotate_left
      · rw [if_neg c33] at H; exact absurd H (by simp)
      rw [if_pos c33] at H; have c33b0 : decide (0 ≤ (ji32)) = true := decide_eq_true c33; clear c33
      by_cases c34 : (ji32) < (a0.size : Int)
      rotate_left
      · rw [if_neg c34] at H; exact absurd H (by simp)
      rw [if_pos c34] at H; have c34b0 : decide ((ji32) < (a0.size : Int)) = true := decide_eq_true c34; clear c34; simp only [Option.some.injEq, Prod.mk.injEq] at H; obtain ⟨rfl, rfl, rfl, rfl, rfl⟩ := H; have p18 : 0 ≤ (a1 : Int) := oda; have q18 : a1 < (a0.size : Int) := oda; have hx18 := bt_at a0 a1; replace p18 := eq_true p18; replace q18 := eq_true q18; have p27 : 0 ≤ (a1 : Int) := oda; have q27 : a1 < (a0.size : Int) := oda; have hx27 := bt_at a0 a1; replace p27 := eq_true p27; replace q27 := eq_true q27; have p31 : 0 ≤ ((ji28) : Int) := oda; have q31 : (ji28) < (a0.size : Int) := oda; have hx31 := bt_at a0 (ji28); replace p31 := eq_true p31; replace q31 := eq_true q31; have p35 : 0 ≤ ((ji32) : Int) := oda; have q35 : (ji32) < (a0.size : Int) := oda; have hx35 := bt_at a0 (ji32); replace p35 := eq_true p35; replace q35 := eq_true q35; have hcz36_0 : wc.cell? ⟨gb71101, 0, none⟩ = some (.int .i64 0) := (blk_cell BK71101.out 0).trans rfl; have hcz36_1 : wc.cell? ⟨gb71101, 1, none⟩ = some (.int .i64 0) := (blk_cell BK71101.out 1).trans rfl; have hcz36_2 : wc.cell? ⟨gb71101, 2, none⟩ = some (.int .i32 0) := (blk_cell BK71101.out 2).trans rfl; have hcz36_3 : wc.cell? ⟨gb71101, 3, none⟩ = some (.bool false) := (blk_cell BK71101.out 3).trans rfl; have hcz36_4 : wc.cell? ⟨gb71101, 4, none⟩ = some (.int .u8 0) := (blk_cell BK71101.out 4).trans rfl; have hfz36_0 := blk_frozen BK71101.out 0; have hfz36_1 := blk_frozen BK71101.out 1; have hfz36_2 := blk_frozen BK71101.out 2; have hfz36_3 := blk_frozen BK71101.out 3
      have hfz36_4 := blk_frozen BK71101.out 4; go_wp2
      repeat (go_quiet (fail); try go_wp2)
      refine bodyPost_ret (results_cell_row rfl _ _ gb71101 91 #[.int .i64 a1, .int .i64 t71102, .int .i32 (Go.bits .or .i32 (Go.bits .or .i32 (wrap32 ((wrap32 (Go.bits .and .u8 (bt a0 a1) 15)) * 4096)) (wrap32 ((wrap32 (Go.bits .and .u8 (bt a0 (ji28)) 63)) * 64))) (wrap32 (Go.bits .and .u8 (bt a0 (ji32)) 63))), .bool false, .int .u8 0] (0, 0) _ rfl (by (with_reducible repeat (first | refine blk_drewN ?_ _ | refine blk_drew ?_ | refine blk_alloc ?_ _)); refine blk_put (cs := #[.int .i64 a1, .int .i64 t71102, .int .i32 (Go.bits .or .i32 (Go.bits .or .i32 (wrap32 ((wrap32 (Go.bits .and .u8 (bt a0 a1) 15)) * 4096)) (wrap32 ((wrap32 (Go.bits .and .u8 (bt a0 (ji28)) 63)) * 64))) (wrap32 (Go.bits .and .u8 (bt a0 (ji32)) 63))), .bool false, .int .u8 0]) ?_ 4 _ rfl; (with_reducible repeat (first | refine blk_drewN ?_ _ | refine blk_drew ?_ | refine blk_alloc ?_ _)); refine blk_put (cs := #[.int .i64 a1, .int .i64 t71102, .int .i32 (Go.bits .or .i32 (Go.bits .or .i32 (wrap32 ((wrap32 (Go.bits .and .u8 (bt a0 a1) 15)) * 4096)) (wrap32 ((wrap32 (Go.bits .and .u8 (bt a0 (ji28)) 63)) * 64))) (wrap32 (Go.bits .and .u8 (bt a0 (ji32)) 63))), .bool false, .int .u8 0]) ?_ 3 _ rfl; (with_reducible repeat (first | refine blk_drewN ?_ _ | refine blk_drew ?_ | refine blk_alloc ?_ _)); refine blk_put (cs := #[.int .i64 a1, .int .i64 t71102, .int .i32 0, .bool false, .int .u8 0]) ?_ 2 _ rfl; (with_reducible repeat (first | refine blk_drewN ?_ _ | refine blk_drew ?_ | refine blk_alloc ?_ _)); refine blk_put (cs := #[.int .i64 a1, .int .i64 0, .int .i32 0, .bool false, .int .u8 0]) ?_ 1 _ rfl; (with_reducible repeat (first | refine blk_drewN ?_ _ | refine blk_drew ?_ | refine blk_alloc ?_ _)); refine blk_put (cs := #[.int .i64 0, .int .i64 0, .int .i32 0, .bool false, .int .u8 0]) ?_ 0 _ rfl; (with_reducible repeat (first | refine blk_drewN ?_ _ | refine blk_drew ?_ | refine blk_alloc ?_ _)); exact BK71101.out) Tryd.underlying91 rfl (by kernel_rfl)) rfl ?_
      exact ⟨by first | rfl | (simp [errW_none, errW_some] <;> rfl) | (simp only [← hji28, ← hji32]; first | rfl | (simp [errW_none, errW_some] <;> rfl)) | (simp [*, errW_none, errW_some] <;> rfl), by exact bel⟩
     ·
      rw [if_neg c26] at H; have c26b0 : (t71102 == 3) = false := beq_eq_false_iff_ne.mpr c26; have c26b1 : (t71102 != 3) = true := bne_iff_ne.mpr c26
      by_cases c37 : t71102 = 4
      ·
       rw [if_pos c37] at H; have c37b0 : (t71102 == 4) = true := beq_iff_eq.mpr c37; have c37b1 : (t71102 != 4) = false := bne_eq_false_iff_eq.mpr c37; clear c37
       obtain ⟨ji39, hji39⟩ : ∃ j_ : Int, (wrap64 (a1 + 1)) = j_ := ⟨_, rfl⟩
       replace H : (if 0 ≤ (ji39) then (if (ji39) < (a0.size : Int) then (if 0 ≤ (wrap64 (a1 + 2)) then (if (wrap64 (a1 + 2)) < (a0.size : Int) then (if 0 ≤ (wrap64 (a1 + 3)) then (if (wrap64 (a1 + 3)) < (a0.size : Int) then (some (a1, t71102, Go.bits .or .i32 (Go.bits .or .i32 (Go.bits .or .i32 (wrap32 ((wrap32 (Go.bits .and .u8 (bt a0 a1) 7)) * 262144)) (wrap32 ((wrap32 (Go.bits .and .u8 (bt a0 (ji39)) 63)) * 4096))) (wrap32 ((wrap32 (Go.bits .and .u8 (bt a0 (wrap64 (a1 + 2))) 63)) * 64))) (wrap32 (Go.bits .and .u8 (bt a0 (wrap64 (a1 + 3))) 63)), false, 0)) else (none)) else (none)) else (none)) else (none)) else (none)) else (none)) = some (r1, r2, r3, r4, r5) := by first | (rw [hji39] at H; exact H) | (simp only [hji39] at H ⊢; exact H)
       have hji39w : (IntKind.i64.wrap (a1 + 1)) = ji39 := (i64_w _).trans hji39
       by_cases c40 : 0 ≤ (ji39)
       rotate_left
       · rw [if_neg c40] at H; exact absurd H (by simp)
       rw [if_pos c40] at H; have c40b0 : decide (0 ≤ (ji39)) = true := decide_eq_true c40; clear c40
       by_cases c41 : (ji39) < (a0.size : Int)
       rotate_left
       · rw [if_neg c41] at H; exact absurd H (by simp)
       rw [if_pos c41] at H; have c41b0 : decide ((ji39) < (a0.size : Int)) = true := decide_eq_true c41; clear c41
       obtain ⟨ji43, hji43⟩ : ∃ j_ : Int, (wrap64 (a1 + 2)) = j_ := ⟨_, rfl⟩
       replace H : (if 0 ≤ (ji43) then (if (ji43) < (a0.size : Int) then (if 0 ≤ (wrap64 (a1 + 3)) then (if (wrap64 (a1 + 3)) < (a0.size : Int) then (some (a1, t71102, Go.bits .or .i32 (Go.bits .or .i32 (Go.bits .or .i32 (wrap32 ((wrap32 (Go.bits .and .u8 (bt a0 a1) 7)) * 262144)) (wrap32 ((wrap32 (Go.bits .and .u8 (bt a0 (ji39)) 63)) * 4096))) (wrap32 ((wrap32 (Go.bits .and .u8 (bt a0 (ji43)) 63)) * 64))) (wrap32 (Go.bits .and .u8 (bt a0 (wrap64 (a1 + 3))) 63)), false, 0)) else (none)) else (none)) else (none)) else (none)) = some (r1, r2, r3, r4, r5) := by first | (rw [hji43] at H; exact H) | (simp only [hji43] at H ⊢; exact H)
       have hji43w : (IntKind.i64.wrap (a1 + 2)) = ji43 := (i64_w _).trans hji43
       by_cases c44 : 0 ≤ (ji43)
       rotate_left
       · rw [if_neg c44] at H; exact absurd H (by simp)
       rw [if_pos c44] at H; have c44b0 : decide (0 ≤ (ji43)) = true := decide_eq_true c44; clear c44
       by_cases c45 : (ji43) < (a0.size : Int)
       rotate_left
       · rw [if_neg c45] at H; exact absurd H (by simp)
       rw [if_pos c45] at H; have c45b0 : decide ((ji43) < (a0.size : Int)) = true := decide_eq_true c45; clear c45
       obtain ⟨ji47, hji47⟩ : ∃ j_ : Int, (wrap64 (a1 + 3)) = j_ := ⟨_, rfl⟩
       replace H : (if 0 ≤ (ji47) then (if (ji47) < (a0.size : Int) then (some (a1, t71102, Go.bits .or .i32 (Go.bits .or .i32 (Go.bits .or .i32 (wrap32 ((wrap32 (Go.bits .and .u8 (bt a0 a1) 7)) * 262144)) (wrap32 ((wrap32 (Go.bits .and .u8 (bt a0 (ji39)) 63)) * 4096))) (wrap32 ((wrap32 (Go.bits .and .u8 (bt a0 (ji43)) 63)) * 64))) (wrap32 (Go.bits .and .u8 (bt a0 (ji47)) 63)), false, 0)) else (none)) else (none)) = some (r1, r2, r3, r4, r5) := by first | (rw [hji47] at H; exact H) | (simp only [hji47] at H ⊢; exact H)
       have hji47w : (IntKind.i64.wrap (a1 + 3)) = ji47 := (i64_w _).trans hji47
       by_cases c48 : 0 ≤ (ji47)
       rotate_left
       · rw [if_neg c48] at H; exact absurd H (by simp)
       rw [if_pos c48] at H; have c48b0 : decide (0 ≤ (ji47)) = true := decide_eq_true c48; clear c48
       by_cases c49 : (ji47) < (a0.size : Int)
       rotate_left
       · rw [if_neg c49] at H; exact absurd H (by simp)
       rw [if_pos c49] at H; have c49b0 : decide ((ji47) < (a0.size : Int)) = true := decide_eq_true c49; clear c49; simp only [Option.some.injEq, Prod.mk.injEq] at H; obtain ⟨rfl, rfl, rfl, rfl, rfl⟩ := H; have p18 : 0 ≤ (a1 : Int) := oda; have q18 : a1 < (a0.size : Int) := oda; have hx18 := bt_at a0 a1; replace p18 := eq_true p18; replace q18 := eq_true q18; have p38 : 0 ≤ (a1 : Int) := oda; have q38 : a1 < (a0.size : Int) := oda; have hx38 := bt_at a0 a1; replace p38 := eq_true p38; replace q38 := eq_true q38; have p42 : 0 ≤ ((ji39) : Int) := oda; have q42 : (ji39) < (a0.size : Int) := oda; have hx42 := bt_at a0 (ji39); replace p42 := eq_true p42; replace q42 := eq_true q42; have p46 : 0 ≤ ((ji43) : Int) := oda; have q46 : (ji43) < (a0.size : Int) := oda; have hx46 := bt_at a0 (ji43); replace p46 := eq_true p46; replace q46 := eq_true q46; have p50 : 0 ≤ ((ji47) : Int) := oda; have q50 : (ji47) < (a0.size : Int) := oda; have hx50 := bt_at a0 (ji47); replace p50 := eq_true p50; replace q50 := eq_true q50; have hcz51_0 : wc.cell? ⟨gb71101, 0, none⟩ = some (.int .i64 0) := (blk_cell BK71101.out 0).trans rfl; have hcz51_1 : wc.cell? ⟨gb71101, 1, none⟩ = some (.int .i64 0) := (blk_cell BK71101.out 1).trans rfl; have hcz51_2 : wc.cell? ⟨gb71101, 2, none⟩ = some (.int .i32 0) := (blk_cell BK71101.out 2).trans rfl; have hcz51_3 : wc.cell? ⟨gb71101, 3, none⟩ = some (.bool false) := (blk_cell BK71101.out 3).trans rfl; have hcz51_4 : wc.cell? ⟨gb71101, 4, none⟩ = some (.int .u8 0) := (blk_cell BK71101.out 4).trans rfl
       have hfz51_0 := blk_frozen BK71101.out 0; have hfz51_1 := blk_frozen BK71101.out 1; have hfz51_2 := blk_frozen BK71101.out 2; have hfz51_3 := blk_frozen BK71101.out 3; have hfz51_4 := blk_frozen BK71101.out 4; go_wp2
       repeat (go_quiet (fail); try go_wp2)
       refine bodyPost_ret (results_cell_row rfl _ _ gb71101 91 #[.int .i64 a1, .int .i64 t71102, .int .i32 (Go.bits .or .i32 (Go.bits .or .i32 (Go.bits .or .i32 (wrap32 ((wrap32 (Go.bits .and .u8 (bt a0 a1) 7)) * 262144)) (wrap32 ((wrap32 (Go.bits .and .u8 (bt a0 (ji39)) 63)) * 4096))) (wrap32 ((wrap32 (Go.bits .and .u8 (bt a0 (ji43)) 63)) * 64))) (wrap32 (Go.bits .and .u8 (bt a0 (ji47)) 63))), .bool false, .int .u8 0] (0, 0) _ rfl (by (with_reducible repeat (first | refine blk_drewN ?_ _ | refine blk_drew ?_ | refine blk_alloc ?_ _)); refine blk_put (cs := #[.int .i64 a1, .int .i64 t71102, .int .i32 (Go.bits .or .i32 (Go.bits .or .i32 (Go.bits .or .i32 (wrap32 ((wrap32 (Go.bits .and .u8 (bt a0 a1) 7)) * 262144)) (wrap32 ((wrap32 (Go.bits .and .u8 (bt a0 (ji39)) 63)) * 4096))) (wrap32 ((wrap32 (Go.bits .and .u8 (bt a0 (ji43)) 63)) * 64))) (wrap32 (Go.bits .and .u8 (bt a0 (ji47)) 63))), .bool false, .int .u8 0]) ?_ 4 _ rfl; (with_reducible repeat (first | refine blk_drewN ?_ _ | refine blk_drew ?_ | refine blk_alloc ?_ _)); refine blk_put (cs := #[.int .i64 a1, .int .i64 t71102, .int .i32 (Go.bits .or .i32 (Go.bits .or .i32 (Go.bits .or .i32 (wrap32 ((wrap32 (Go.bits .and .u8 (bt a0 a1) 7)) * 262144)) (wrap32 ((wrap32 (Go.bits .and .u8 (bt a0 (ji39)) 63)) * 4096))) (wrap32 ((wrap32 (Go.bits .and .u8 (bt a0 (ji43)) 63)) * 64))) (wrap32 (Go.bits .and .u8 (bt a0 (ji47)) 63))), .bool false, .int .u8 0]) ?_ 3 _ rfl; (with_reducible repeat (first | refine blk_drewN ?_ _ | refine blk_drew ?_ | refine blk_alloc ?_ _)); refine blk_put (cs := #[.int .i64 a1, .int .i64 t71102, .int .i32 0, .bool false, .int .u8 0]) ?_ 2 _ rfl; (with_reducible repeat (first | refine blk_drewN ?_ _ | refine blk_drew ?_ | refine blk_alloc ?_ _)); refine blk_put (cs := #[.int .i64 a1, .int .i64 0, .int .i32 0, .bool false, .int .u8 0]) ?_ 1 _ rfl; (with_reducible repeat (first | refine blk_drewN ?_ _ | refine blk_drew ?_ | refine blk_alloc ?_ _)); refine blk_put (cs := #[.int .i64 0, .int .i64 0, .int .i32 0, .bool false, .int .u8 0]) ?_ 0 _ rfl; (with_reducible repeat (first | refine blk_drewN ?_ _ | refine blk_drew ?_ | refine blk_alloc ?_ _)); exact BK71101.out) Tryd.underlying91 rfl (by kernel_rfl)) rfl ?_
       exact ⟨by first | rfl | (simp [errW_none, errW_some] <;> rfl) | (simp only [← hji39, ← hji43, ← hji47]; first | rfl | (simp [errW_none, errW_some] <;> rfl)) | (simp [*, errW_none, errW_some] <;> rfl), by exact bel⟩
      ·
       rw [if_neg c37] at H; have c37b0 : (t71102 == 4) = false := beq_eq_false_iff_ne.mpr c37; have c37b1 : (t71102 != 4) = true := bne_iff_ne.mpr c37; simp only [Option.some.injEq, Prod.mk.injEq] at H; obtain ⟨rfl, rfl, rfl, rfl, rfl⟩ := H; have p18 : 0 ≤ (a1 : Int) := oda; have q18 : a1 < (a0.size : Int) := oda; have hx18 := bt_at a0 a1; replace p18 := eq_true p18; replace q18 := eq_true q18; have hcz52_0 : wc.cell? ⟨gb71101, 0, none⟩ = some (.int .i64 0) := (blk_cell BK71101.out 0).trans rfl; have hcz52_1 : wc.cell? ⟨gb71101, 1, none⟩ = some (.int .i64 0) := (blk_cell BK71101.out 1).trans rfl; have hcz52_2 : wc.cell? ⟨gb71101, 2, none⟩ = some (.int .i32 0) := (blk_cell BK71101.out 2).trans rfl; have hcz52_3 : wc.cell? ⟨gb71101, 3, none⟩ = some (.bool false) := (blk_cell BK71101.out 3).trans rfl; have hcz52_4 : wc.cell? ⟨gb71101, 4, none⟩ = some (.int .u8 0) := (blk_cell BK71101.out 4).trans rfl; have hfz52_0 := blk_frozen BK71101.out 0; have hfz52_1 := blk_frozen BK71101.out 1; have hfz52_2 := blk_frozen BK71101.out 2; have hfz52_3 := blk_frozen BK71101.out 3; have hfz52_4 := blk_frozen BK71101.out 4; go_wp2
       repeat (go_quiet (fail); try go_wp2)
       refine bodyPost_ret (results_cell_row rfl _ _ gb71101 91 #[.int .i64 a1, .int .i64 t71102, .int .i32 (wrap32 (bt a0 a1)), .bool false, .int .u8 0] (0, 0) _ rfl (by (with_reducible repeat (first | refine blk_drewN ?_ _ | refine blk_drew ?_ | refine blk_alloc ?_ _)); refine blk_put (cs := #[.int .i64 a1, .int .i64 t71102, .int .i32 (wrap32 (bt a0 a1)), .bool false, .int .u8 0]) ?_ 4 _ rfl; (with_reducible repeat (first | refine blk_drewN ?_ _ | refine blk_drew ?_ | refine blk_alloc ?_ _)); refine blk_put (cs := #[.int .i64 a1, .int .i64 t71102, .int .i32 (wrap32 (bt a0 a1)), .bool false, .int .u8 0]) ?_ 3 _ rfl; (with_reducible repeat (first | refine blk_drewN ?_ _ | refine blk_drew ?_ | refine blk_alloc ?_ _)); refine blk_put (cs := #[.int .i64 a1, .int .i64 t71102, .int .i32 0, .bool false, .int .u8 0]) ?_ 2 _ rfl; (with_reducible repeat (first | refine blk_drewN ?_ _ | refine blk_drew ?_ | refine blk_alloc ?_ _)); refine blk_put (cs := #[.int .i64 a1, .int .i64 0, .int .i32 0, .bool false, .int .u8 0]) ?_ 1 _ rfl; (with_reducible repeat (first | refine blk_drewN ?_ _ | refine blk_drew ?_ | refine blk_alloc ?_ _)); refine blk_put (cs := #[.int .i64 0, .int .i64 0, .int .i32 0, .bool false, .int .u8 0]) ?_ 0 _ rfl; (with_reducible repeat (first | refine blk_drewN ?_ _ | refine blk_drew ?_ | refine blk_alloc ?_ _)); exact BK71101.out) Tryd.underlying91 rfl (by kernel_rfl)) rfl ?_; exact ⟨by first | rfl | (simp [errW_none, errW_some] <;> rfl) | (simp [*, errW_none, errW_some] <;> rfl), by exact bel⟩
end Go.Proofs.YtcpbalnbgmjhjaaDoor.G
namespace Go.Proofs.YtcpbalnbgmjhjaaDoor.G
open Go.RowKit Go.Proofs.YtcpbalnbgmjhjaaDoor.Mi Go.Proofs.YtcpbalnbgmjhjaaDoorW.PrintWords Go.Proofs.YtcpbalnbgmjhjaaDoorW.PrintLast Go.Proofs.YtcpbalnbgmjhjaaDoorW.PrintMore
attribute [local go_sem] min2_int min_two min_three   -- for this text's walks alone
set_option linter.unusedVariables false
set_option linter.unusedSimpArgs false
/-! ### siglumref01_Cells: function 53 -/
def siglumref01_Cells.l0 : Nat → ByteArray → List (S91) → Int → Option ((List (S91)))
 | 0, _, _, _ => none
 | k + 1, x0, x3, x4 => if x4 < (x0.size : Int) then ((siglumref01_cell.f k x0 x4).bind fun bt53101 => (if x3.length < 5864062014805 then (siglumref01_Cells.l0 k x0 (x3 ++ [(⟨bt53101.1, bt53101.2.1, bt53101.2.2.1, bt53101.2.2.2.1, bt53101.2.2.2.2⟩ : S91)]) (wrap64 (x4 + bt53101.2.1))) else (none))) else (some x3)
def siglumref01_Cells.f (k : Nat) (a0 : ByteArray) : Option ((List (S91))) := siglumref01_Cells.l0 k a0 ([] : List (S91)) 0
set_option maxHeartbeats 8000000 in
set_option maxRecDepth 100000 in
theorem siglumref01_Cells.calls (k : Nat) (a0 : ByteArray) (r : List (S91)) (w : World) (h : siglumref01_Cells.f k a0 = some r) :
 Calls Tryd.prog 53 #[.string a0] w fun e w' => ∃ v0_ : Value, e = .returned (v0_) ∧ Kd.R k91 91 w' w.heap.size (fun _ => True) v0_ r ∧ Below w.heap.size w w' := by
 have hu91 := Tryd.underlying91; have HB := Aside0.mk (Below.refl w.heap.size w); have H : (siglumref01_Cells.l0 k a0 ([] : List (S91)) 0) = some r := h; clear h; have H' := Aside0.mk H; clear H
 go_enter Tryd.func53, Tryd.ntmps53
 go_wp2
 go_loopg [3, 4] k (fun kq v3 v4 w' => ∃ (x3_1 : List (S91)) (x4_1 : Int), v4 = .int .i64 x4_1 ∧ Aside0 (siglumref01_Cells.l0 kq a0 x3_1 x4_1 = some r) ∧ Aside0 (kq ≤ k) ∧ Aside0 (Kd.R k91 91 w' w.heap.size (fun _ => True) v3 x3_1) ∧ Aside0 (Below w.heap.size w w'))
 case atStart => exact ⟨(([] : List (S91))), (0), (by first | rfl | (simp; done) | (simp [*]; done)), H', ⟨Nat.le_refl _⟩, ⟨by first | exact Kd.R_nil _ _ _ _ _ | exact Kd.N_nil _ _ _ _ _ | exact Kd.V_nil _ _ _ _ _ | exact Kd.Q_nil _ _ _ _ _ | exact Kd.S_nil _ _ _ _ _⟩, ⟨bel⟩⟩
 case round =>
  clear H'; obtain ⟨x3_1, x4_1, rfl, HA, HK1, HO_3, HB⟩ := hrel
  cases gk with
  | zero => exact absurd HA.out (by simp [siglumref01_Cells.l0])
  | succ k1 =>
   have H := HA.out; clear HA; simp only [siglumref01_Cells.l0] at H
   by_cases c2 : x4_1 < (a0.size : Int)
   ·
    rw [if_pos c2] at H; have c2b0 : decide (x4_1 < (a0.size : Int)) = true := decide_eq_true c2; clear c2; replace H := Option.bind_eq_some_iff.mp H; obtain ⟨⟨t53101, t53102, t53103, t53104, t53105⟩, A30, H⟩ := H; (try dsimp only at H); have A3 := Aside0.mk A30; clear A30
    by_cases c4 : x3_1.length < 5864062014805
    rotate_left
    · rw [if_neg c4] at H; exact absurd H (by simp)
    rw [if_pos c4] at H; have LMc4 := Aside0.mk c4; clear c4
    obtain ⟨y53107, hy53107⟩ : ∃ y_ : List (S91), y_ = (x3_1 ++ [(⟨t53101, t53102, t53103, t53104, t53105⟩ : S91)]) := ⟨_, rfl⟩
    (try rw [← hy53107] at H); (try rw [Option.bind_some] at H); (try dsimp only at H); have Ny53107 := Aside0.mk hy53107; clear hy53107; have H' := Aside0.mk H; clear H
    go_wp2_with (first | ((with_reducible refine gate_callee (f := 71) rfl ?_); refine goesL_ (some 12) rfl rfl Tryd.func71 (by kernel_rfl) rfl #[.string a0, .int .i64 x4_1] rfl (by (try simp only [List.map_toArray, List.map_cons, List.map_nil]); first | done | rfl | (simp only [List.length_drop, List.length_take]; rfl)) ?_; (with_reducible refine (siglumref01_cell.calls k1 a0 x4_1 t53101 t53102 t53103 t53104 t53105 _ A3.out).mono ?_); rintro e w5 ⟨rfl, hb⟩; refine ⟨_, rfl, ?_⟩; replace HO_3 := Aside0.mk (Kd.R_below (rl HO_3) hb); replace HB := Aside0.mk (below_step bel hb); (try clear hb); (try clear hb2); (try clear hk); (try clear hi)) | ((with_reducible refine gate_dst (N := 5) rfl ?_); refine box_event ?hg (N := 5) ?hd (cs := #[.int .i64 0, .int .i64 0, .int .i32 0, .bool false, .int .u8 0]) (t := 91) ?hr ?_; (case hd => rfl); (case hg => rfl); (case hr => first | (go_simp; done) | (go_simp; rfl)); intro gb53106 hg w6 hbox hb; have n0_ := Aside0.mk (Kd.R_below (Kd.R_elderB (rl HO_3) gb53106 (Nat.le_of_eq hg.symm)) hb); have n1_ := Aside0.mk (below_step bel hb); have n2_ := Aside0.mk (hbox); have n3_ := Aside0.mk ((by rw [hg]; exact (below_size bel) : w.heap.size ≤ gb53106)); have n4_ := Aside0.mk ((by rw [hg]; exact (below_size bel) : w.heap.size ≤ gb53106)); clear HO_3; clear HB; have HO_3 := n0_; have HB := n1_; have BK53106 := n2_; have GW53106 := n3_; have GE53106 := n4_; clear n0_ n1_ n2_ n3_ n4_; clear hb hbox hg; have hcz7_0 : w6.cell? ⟨gb53106, 0, none⟩ = some (.int .i64 0) := (blk_cell BK53106.out 0).trans rfl; have hcz7_1 : w6.cell? ⟨gb53106, 1, none⟩ = some (.int .i64 0) := (blk_cell BK53106.out 1).trans rfl; have hcz7_2 : w6.cell? ⟨gb53106, 2, none⟩ = some (.int .i32 0) := (blk_cell BK53106.out 2).trans rfl; have hcz7_3 : w6.cell? ⟨gb53106, 3, none⟩ = some (.bool false) := (blk_cell BK53106.out 3).trans rfl; have hcz7_4 : w6.cell? ⟨gb53106, 4, none⟩ = some (.int .u8 0) := (blk_cell BK53106.out 4).trans rfl; have hfz7_0 := blk_frozen BK53106.out 0; have hfz7_1 := blk_frozen BK53106.out 1; have hfz7_2 := blk_frozen BK53106.out 2; have hfz7_3 := blk_frozen BK53106.out 3; have hfz7_4 := blk_frozen BK53106.out 4) | ((with_reducible refine gate_builtin (b := .append) (xs := #[.tmp 13, .tmp 15]) rfl ?_); at_builtin; refine Kd.R_append k91 (w0 := w) w.heap.size rfl (.tmp 13) (.tmp 15) 88 91 (.agg #[(.int .i64 0), (.int .i64 0), (.int .i32 0), (.bool false), (.int .u8 0)]) 24 rfl Tryd.underlying88 info91 rfl (by decide) (by omega) u3 x3_1 (⟨t53101, t53102, t53103, t53104, t53105⟩ : S91) [.int .i64 t53101, .int .i64 t53102, .int .i32 t53103, .bool t53104, .int .u8 t53105] (fun k_ => k_ ≠ gb53106) (fun _ => False) rfl (by first | (go_simp; done) | (go_simp; rfl)) ?aP (fun _ hk => hk.elim) ?aF ?aO ?aB ?aS ?aL ?_; (case aP => exact k91_mkM _ _ _ (⟨t53101, t53102, t53103, t53104, t53105⟩ : S91)); (case aB => exact bel); (case aF => exact (fun k_ hk => Kd.freshB (g := gb53106) (o := .cells #[.int .i64 t53101, .int .i64 t53102, .int .i32 t53103, .bool t53104, .int .u8 t53105] 91 (0, 0)) (by (with_reducible repeat (first | refine blk_drewN ?_ _ | refine blk_drew ?_ | refine blk_alloc ?_ _)); refine blk_put (cs := #[.int .i64 t53101, .int .i64 t53102, .int .i32 t53103, .bool t53104, .int .u8 0]) ?_ 4 _ rfl; (with_reducible repeat (first | refine blk_drewN ?_ _ | refine blk_drew ?_ | refine blk_alloc ?_ _)); refine blk_put (cs := #[.int .i64 t53101, .int .i64 t53102, .int .i32 t53103, .bool false, .int .u8 0]) ?_ 3 _ rfl; (with_reducible repeat (first | refine blk_drewN ?_ _ | refine blk_drew ?_ | refine blk_alloc ?_ _)); refine blk_put (cs := #[.int .i64 t53101, .int .i64 t53102, .int .i32 0, .bool false, .int .u8 0]) ?_ 2 _ rfl; (with_reducible repeat (first | refine blk_drewN ?_ _ | refine blk_drew ?_ | refine blk_alloc ?_ _)); refine blk_put (cs := #[.int .i64 t53101, .int .i64 0, .int .i32 0, .bool false, .int .u8 0]) ?_ 1 _ rfl; (with_reducible repeat (first | refine blk_drewN ?_ _ | refine blk_drew ?_ | refine blk_alloc ?_ _)); refine blk_put (cs := #[.int .i64 0, .int .i64 0, .int .i32 0, .bool false, .int .u8 0]) ?_ 0 _ rfl; (with_reducible repeat (first | refine blk_drewN ?_ _ | refine blk_drew ?_ | refine blk_alloc ?_ _)); exact BK53106.out) k_ hk)); (case aO => exact (by (with_reducible repeat (first | apply Kd.R_alloc | apply Kd.R_drewN | apply Kd.R_drew)); exact Kd.R_mono (Kd.R_far (p := ⟨gb53106, 4, none⟩) (Kd.R_far (p := ⟨gb53106, 3, none⟩) (Kd.R_far (p := ⟨gb53106, 2, none⟩) (Kd.R_far (p := ⟨gb53106, 1, none⟩) (Kd.R_far (p := ⟨gb53106, 0, none⟩) (Kd.R_mono HO_3.out (fun k_ hk => (⟨hk, hk.2⟩ : _ ∧ k_ ≠ gb53106))) (fun _ hk => hk.2) (.int .i64 t53101)) (fun _ hk => hk.2) (.int .i64 t53102)) (fun _ hk => hk.2) (.int .i32 t53103)) (fun _ hk => hk.2) (.bool t53104)) (fun _ hk => hk.2) (.int .u8 t53105)) (fun _ hk => hk.1.2))); (case aS => exact (below_size bel)); (case aL => have := LMc4.out; omega); intro v53108 w8 ho hb hg hat; rw [← Ny53107.out] at ho; replace BK53106 := Aside0.mk (blk_grown (g := gb53106) (o := .cells #[.int .i64 t53101, .int .i64 t53102, .int .i32 t53103, .bool t53104, .int .u8 t53105] 91 (0, 0)) (by (with_reducible repeat (first | refine blk_drewN ?_ _ | refine blk_drew ?_ | refine blk_alloc ?_ _)); refine blk_put (cs := #[.int .i64 t53101, .int .i64 t53102, .int .i32 t53103, .bool t53104, .int .u8 0]) ?_ 4 _ rfl; (with_reducible repeat (first | refine blk_drewN ?_ _ | refine blk_drew ?_ | refine blk_alloc ?_ _)); refine blk_put (cs := #[.int .i64 t53101, .int .i64 t53102, .int .i32 t53103, .bool false, .int .u8 0]) ?_ 3 _ rfl; (with_reducible repeat (first | refine blk_drewN ?_ _ | refine blk_drew ?_ | refine blk_alloc ?_ _)); refine blk_put (cs := #[.int .i64 t53101, .int .i64 t53102, .int .i32 0, .bool false, .int .u8 0]) ?_ 2 _ rfl; (with_reducible repeat (first | refine blk_drewN ?_ _ | refine blk_drew ?_ | refine blk_alloc ?_ _)); refine blk_put (cs := #[.int .i64 t53101, .int .i64 0, .int .i32 0, .bool false, .int .u8 0]) ?_ 1 _ rfl; (with_reducible repeat (first | refine blk_drewN ?_ _ | refine blk_drew ?_ | refine blk_alloc ?_ _)); refine blk_put (cs := #[.int .i64 0, .int .i64 0, .int .i32 0, .bool false, .int .u8 0]) ?_ 0 _ rfl; (with_reducible repeat (first | refine blk_drewN ?_ _ | refine blk_drew ?_ | refine blk_alloc ?_ _)); exact BK53106.out) hg (Kd.R_away HO_3.out (fun _ hk => hk.2))); replace HB := Aside0.mk (hb); have HO53109 := Aside0.mk (ho); clear HO_3; clear ho hb hg hat; have hcz9_0 : w8.cell? ⟨gb53106, 0, none⟩ = some (.int .i64 t53101) := (blk_cell BK53106.out 0).trans rfl; have hcz9_1 : w8.cell? ⟨gb53106, 1, none⟩ = some (.int .i64 t53102) := (blk_cell BK53106.out 1).trans rfl; have hcz9_2 : w8.cell? ⟨gb53106, 2, none⟩ = some (.int .i32 t53103) := (blk_cell BK53106.out 2).trans rfl; have hcz9_3 : w8.cell? ⟨gb53106, 3, none⟩ = some (.bool t53104) := (blk_cell BK53106.out 3).trans rfl; have hcz9_4 : w8.cell? ⟨gb53106, 4, none⟩ = some (.int .u8 t53105) := (blk_cell BK53106.out 4).trans rfl; have hfz9_0 := blk_frozen BK53106.out 0; have hfz9_1 := blk_frozen BK53106.out 1; have hfz9_2 := blk_frozen BK53106.out 2; have hfz9_3 := blk_frozen BK53106.out 3; have hfz9_4 := blk_frozen BK53106.out 4))
    go_roundg k1
    case measure => have := HK1.out; omega
    case rel => exact ⟨(y53107), (wrap64 (x4_1 + t53102)), (by first | rfl | (simp; done) | (simp [*]; done)), H', ⟨by have := HK1.out; omega⟩, ⟨by (with_reducible repeat (first | apply Kd.R_alloc | apply Kd.R_drewN | apply Kd.R_drew)); exact Kd.R_mono HO53109.out (fun _ hk => trivial)⟩, ⟨bel⟩⟩
   ·
    rw [if_neg c2] at H; have c2b0 : decide (x4_1 < (a0.size : Int)) = false := decide_eq_false c2; clear c2; obtain rfl := Option.some.inj H; go_wp2; go_ret; exact ⟨_, by first | rfl | (simp [errW_none, errW_some] <;> rfl) | (simp [*, errW_none, errW_some] <;> rfl), by (with_reducible repeat (first | apply Kd.R_alloc | apply Kd.R_drewN | apply Kd.R_drew)); exact HO_3.out, by exact bel⟩
end Go.Proofs.YtcpbalnbgmjhjaaDoor.G
namespace Go.Proofs.YtcpbalnbgmjhjaaDoor.G
open Go.RowKit Go.Proofs.YtcpbalnbgmjhjaaDoor.Mi Go.Proofs.YtcpbalnbgmjhjaaDoorW.PrintWords Go.Proofs.YtcpbalnbgmjhjaaDoorW.PrintLast Go.Proofs.YtcpbalnbgmjhjaaDoorW.PrintMore
attribute [local go_sem] min2_int min_two min_three   -- for this text's walks alone
set_option linter.unusedVariables false
set_option linter.unusedSimpArgs false
/-! ### siglumref02_holds: function 93 -/
def siglumref02_holds.l0 : Nat → List Int → Int → Int → Option (Bool)
 | 0, _, _, _ => none
 | k + 1, x0, x1, x5 => if (wrap64 (x5 + 1)) < (x0.length : Int) then (if 0 ≤ x5 then (if x5 < (x0.length : Int) then (if x1 ≥ (rd x0 x5) then (if 0 ≤ (wrap64 (x5 + 1)) then (if x1 ≤ (rd x0 (wrap64 (x5 + 1))) then (some true) else (siglumref02_holds.l0 k x0 x1 (wrap64 (x5 + 2)))) else (none)) else (siglumref02_holds.l0 k x0 x1 (wrap64 (x5 + 2)))) else (none)) else (none)) else (some false)
def siglumref02_holds.f (k : Nat) (l0 : List Int) (a1 : Int) : Option (Bool) := siglumref02_holds.l0 k l0 a1 0
set_option maxHeartbeats 8000000 in
set_option maxRecDepth 100000 in
theorem siglumref02_holds.calls (k : Nat) (A0 : Option Addr) (c0 : Nat) (l0 : List Int) (a1 : Int) (r : Bool) (w : World) (hr0 : Kd.C (Kd.int .i32) w A0 l0.length l0) (hc0 : l0.length ≤ c0) (h : siglumref02_holds.f k l0 a1 = some r) :
 Calls Tryd.prog 93 #[.slice A0 l0.length c0, .int .i32 a1] w fun e w' => e = .returned (.bool r) ∧ Drawn0 w w' := by
 have HR0 := Aside0.mk hr0; have HC0 := Aside0.mk hc0; clear hr0 hc0; have H : (siglumref02_holds.l0 k l0 a1 0) = some r := h; clear h; have H' := Aside0.mk H; clear H
 go_enter Tryd.func93, Tryd.ntmps93
 go_wp2
 go_loopg [5] k (fun kq v5 w' => ∃ (x5_1 : Int), v5 = .int .i64 x5_1 ∧ Aside0 (siglumref02_holds.l0 kq l0 a1 x5_1 = some r) ∧ Aside0 (kq ≤ k) ∧ Drawn0 w w')
 case atStart => exact ⟨(0), (by first | rfl | (simp; done) | (simp [*]; done)), H', ⟨Nat.le_refl _⟩, by repeat (first | exact Drawn0.refl _ | apply Drawn0.step)⟩
 case round =>
  clear H'; (try clear p2); obtain ⟨x5_1, rfl, HA, HK1, ⟨m1, rfl⟩⟩ := hrel
  cases gk with
  | zero => exact absurd HA.out (by simp [siglumref02_holds.l0])
  | succ k1 =>
   have H := HA.out; clear HA; simp only [siglumref02_holds.l0] at H
   by_cases c3 : (wrap64 (x5_1 + 1)) < (l0.length : Int)
   ·
    rw [if_pos c3] at H; have c3b0 : decide ((wrap64 (x5_1 + 1)) < (l0.length : Int)) = true := decide_eq_true c3; clear c3
    by_cases c4 : 0 ≤ x5_1
    rotate_left
    · rw [if_neg c4] at H; exact absurd H (by simp)
    rw [if_pos c4] at H; have c4b0 : decide (0 ≤ x5_1) = true := decide_eq_true c4; clear c4
    by_cases c5 : x5_1 < (l0.length : Int)
    rotate_left
    · rw [if_neg c5] at H; exact absurd H (by simp)
    rw [if_pos c5] at H; have c5b0 : decide (x5_1 < (l0.length : Int)) = true := decide_eq_true c5; clear c5
    by_cases c6 : a1 ≥ (rd l0 x5_1)
    ·
     rw [if_pos c6] at H; have c6b0 : decide ((rd l0 x5_1) ≤ a1) = true := decide_eq_true c6; clear c6
     obtain ⟨ji7, hji7⟩ : ∃ j_ : Int, (wrap64 (x5_1 + 1)) = j_ := ⟨_, rfl⟩
     replace H : (if 0 ≤ (ji7) then (if a1 ≤ (rd l0 (ji7)) then (some true) else (siglumref02_holds.l0 k1 l0 a1 (wrap64 (x5_1 + 2)))) else (none)) = some r := by first | (rw [hji7] at H; exact H) | (simp only [hji7] at H ⊢; exact H)
     (try rw [hji7] at c3b0); have hji7w : (IntKind.i64.wrap (x5_1 + 1)) = ji7 := (i64_w _).trans hji7
     by_cases c8 : 0 ≤ (ji7)
     rotate_left
     · rw [if_neg c8] at H; exact absurd H (by simp)
     rw [if_pos c8] at H; have c8b0 : decide (0 ≤ (ji7)) = true := decide_eq_true c8; clear c8
     by_cases c9 : a1 ≤ (rd l0 (ji7))
     ·
      rw [if_pos c9] at H; have c9b0 : decide (a1 ≤ (rd l0 (ji7))) = true := decide_eq_true c9; clear c9; obtain rfl := Option.some.inj H; have p93101 : 0 ≤ (x5_1 : Int) := oda; have q93101 : x5_1 < (l0.length : Int) := oda; obtain ⟨ad93101, e93101, hx93101_0⟩ := Kd.at_int HR0.out x5_1 p93101 q93101; cases e93101; replace p93101 := eq_true p93101; replace q93101 := eq_true q93101; have p93102 : 0 ≤ ((ji7) : Int) := oda; have q93102 : (ji7) < (l0.length : Int) := oda; obtain ⟨ad93102, e93102, hx93102_0⟩ := Kd.at_int HR0.out (ji7) p93102 q93102; obtain rfl : ad93101 = ad93102 := (by injection e93102); replace p93102 := eq_true p93102; replace q93102 := eq_true q93102; go_wp2; go_ret; exact ⟨by first | rfl | (simp; done) | (simp only [← hji7] <;> (first | rfl | simp)) | (simp [*]; done), by repeat (first | exact Drawn0.refl _ | apply Drawn0.step)⟩
     ·
      rw [if_neg c9] at H; have c9b0 : decide (a1 ≤ (rd l0 (ji7))) = false := decide_eq_false c9; clear c9; have H' := Aside0.mk H; clear H; have p93101 : 0 ≤ (x5_1 : Int) := oda; have q93101 : x5_1 < (l0.length : Int) := oda; obtain ⟨ad93101, e93101, hx93101_0⟩ := Kd.at_int HR0.out x5_1 p93101 q93101; cases e93101; replace p93101 := eq_true p93101; replace q93101 := eq_true q93101; have p93102 : 0 ≤ ((ji7) : Int) := oda; have q93102 : (ji7) < (l0.length : Int) := oda; obtain ⟨ad93102, e93102, hx93102_0⟩ := Kd.at_int HR0.out (ji7) p93102 q93102; obtain rfl : ad93101 = ad93102 := (by injection e93102); replace p93102 := eq_true p93102; replace q93102 := eq_true q93102; go_wp2
      go_roundg k1
      case measure => have := HK1.out; omega
      case rel => exact ⟨(wrap64 (x5_1 + 2)), (by first | rfl | (simp; done) | (simp [*]; done)), H', ⟨by have := HK1.out; omega⟩, by repeat (first | exact Drawn0.refl _ | apply Drawn0.step)⟩
    ·
     rw [if_neg c6] at H; have c6b0 : decide ((rd l0 x5_1) ≤ a1) = false := decide_eq_false c6; clear c6; have H' := Aside0.mk H; clear H; have p93101 : 0 ≤ (x5_1 : Int) := oda; have q93101 : x5_1 < (l0.length : Int) := oda; obtain ⟨ad93101, e93101, hx93101_0⟩ := Kd.at_int HR0.out x5_1 p93101 q93101; cases e93101; replace p93101 := eq_true p93101; replace q93101 := eq_true q93101; go_wp2
     go_roundg k1
     case measure => have := HK1.out; omega
     case rel => exact ⟨(wrap64 (x5_1 + 2)), (by first | rfl | (simp; done) | (simp [*]; done)), H', ⟨by have := HK1.out; omega⟩, by repeat (first | exact Drawn0.refl _ | apply Drawn0.step)⟩
   ·
    rw [if_neg c3] at H; have c3b0 : decide ((wrap64 (x5_1 + 1)) < (l0.length : Int)) = false := decide_eq_false c3; clear c3; obtain rfl := Option.some.inj H; go_wp2; go_ret; exact ⟨by first | rfl | (simp; done) | (simp [*]; done), by repeat (first | exact Drawn0.refl _ | apply Drawn0.step)⟩
end Go.Proofs.YtcpbalnbgmjhjaaDoor.G
