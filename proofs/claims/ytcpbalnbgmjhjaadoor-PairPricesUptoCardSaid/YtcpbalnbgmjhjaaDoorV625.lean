import Derived.Test.YtcpbalnbgmjhjaaDoorV63
import Derived.Test.YtcpbalnbgmjhjaaDoorV65
namespace Go.Proofs.YtcpbalnbgmjhjaaDoor.Q
open Go.RowKit Go.Proofs.YtcpbalnbgmjhjaaDoor.Mi Go.Proofs.YtcpbalnbgmjhjaaDoorW.PrintWords Go.Proofs.YtcpbalnbgmjhjaaDoorW.PrintLast Go.Proofs.YtcpbalnbgmjhjaaDoorW.PrintMore
attribute [local go_sem] min2_int min_two min_three
set_option linter.unusedVariables false
set_option linter.unusedSimpArgs false
mutual
def pair_Right.l0 : Nat → Int → Int → Int → Int → List (S61) → Int → Int → Option (Bool)
 | 0, _, _, _, _, _, _, _ => none
 | k + 1, x0, x1, x7, x8, x11, x12, x13 => if x13 < x12 then (if 0 ≤ x13 then (if x13 < (x11.length : Int) then (if ((rd_T61 x11 x13).f0) = x7 then (if ((rd_T61 x11 x13).f1) = x8 then (if x7 < x0 then (pair_Right.j1 k x0 x1 x7 x8 x11 x12 x13 (decide (x8 < x1)) ((rd_T61 x11 x13).f0) ((rd_T61 x11 x13).f1)) else (pair_Right.j1 k x0 x1 x7 x8 x11 x12 x13 false ((rd_T61 x11 x13).f0) ((rd_T61 x11 x13).f1))) else (pair_Right.j1 k x0 x1 x7 x8 x11 x12 x13 false ((rd_T61 x11 x13).f0) ((rd_T61 x11 x13).f1))) else (pair_Right.j1 k x0 x1 x7 x8 x11 x12 x13 false ((rd_T61 x11 x13).f0) ((rd_T61 x11 x13).f1))) else (none)) else (none)) else (if x7 = x0 then (some (x8 == x1)) else (some false))
def pair_Right.j1 : Nat → Int → Int → Int → Int → List (S61) → Int → Int → Bool → Int → Int → Option (Bool)
 | 0, _, _, _, _, _, _, _, _, _, _ => none
 | k + 1, x0, x1, x7, x8, x11, x12, x13, x17, xU3U0, xU3U1 => if x17 = true then (pair_Right.l0 k x0 x1 (wrap64 (x7 + 1)) (wrap64 (x8 + 1)) x11 x12 (wrap64 (x13 + 1))) else (if xU3U0 = x7 then (if xU3U1 = (-1) then (pair_Right.j2 k x0 x1 x7 x8 x11 x12 x13 (decide (x7 < x0)) xU3U0 xU3U1) else (pair_Right.j2 k x0 x1 x7 x8 x11 x12 x13 false xU3U0 xU3U1)) else (pair_Right.j2 k x0 x1 x7 x8 x11 x12 x13 false xU3U0 xU3U1))
def pair_Right.j2 : Nat → Int → Int → Int → Int → List (S61) → Int → Int → Bool → Int → Int → Option (Bool)
 | 0, _, _, _, _, _, _, _, _, _, _ => none
 | k + 1, x0, x1, x7, x8, x11, x12, x13, x42, xU3U0, xU3U1 => if x42 = true then (pair_Right.l0 k x0 x1 (wrap64 (x7 + 1)) x8 x11 x12 (wrap64 (x13 + 1))) else (if xU3U0 = (-1) then (if xU3U1 = x8 then (if x8 < x1 then (pair_Right.l0 k x0 x1 x7 (wrap64 (x8 + 1)) x11 x12 (wrap64 (x13 + 1))) else (some false)) else (some false)) else (some false))
end
def pair_Right.f (k : Nat) (a0 : Int) (a1 : Int) (l2 : List (S61)) : Option (Bool) := pair_Right.l0 k a0 a1 0 0 l2 (l2.length : Int) 0
set_option maxHeartbeats 8000000 in
set_option maxRecDepth 100000 in
theorem pair_Right.calls (k : Nat) (a0 : Int) (a1 : Int) (A2 : Option Addr) (c2 : Nat) (l2 : List (S61)) (r : Bool) (w : World) (hr2 : Kd.C k61 w A2 l2.length l2) (hc2 : l2.length ≤ c2) (h : pair_Right.f k a0 a1 l2 = some r) :
 Calls Tryd.prog 30 #[.int .i64 a0, .int .i64 a1, .slice A2 l2.length c2] w fun e w' => e = .returned (.bool r) ∧ Below w.heap.size w w' := by
 have hu61 := Tryd.underlying61; have HR2 := Aside0.mk hr2; have HC2 := Aside0.mk hc2; clear hr2 hc2; have HB := Aside0.mk (Below.refl w.heap.size w); have H := h; clear h; unfold pair_Right.f at H; have H' := Aside0.mk H; clear H; go_enter Tryd.func30, Tryd.ntmps30; go_wp2
 go_loopg [7, 8, 13] k (fun kq v7 v8 v13 w' => ∃ (x7_1 : Int) (x8_1 : Int) (x13_1 : Int), v7 = .int .i64 x7_1 ∧ v8 = .int .i64 x8_1 ∧ v13 = .int .i64 x13_1 ∧ Aside0 (pair_Right.l0 kq a0 a1 x7_1 x8_1 l2 (l2.length : Int) x13_1 = some r) ∧ Aside0 (kq ≤ k) ∧ Aside0 (Below w.heap.size w w'))
 case atStart => exact ⟨(0), (0), (0), si, si, si, H', ⟨Nat.le_refl _⟩, ⟨bel⟩⟩
 case round =>
  clear H'; (try clear c2); (try clear p2); (try clear c3); obtain ⟨x7_1, x8_1, x13_1, rfl, rfl, rfl, HA, HK1, HB⟩ := hrel
  cases gk with
  | zero => exact absurd HA.out (by simp [pair_Right.l0])
  | succ k1 =>
   have H := HA.out; clear HA; simp only [pair_Right.l0] at H
   by_cases c4 : x13_1 < (l2.length : Int)
   ·rw [if_pos c4] at H; have c4b0 := decide_eq_true c4; clear c4; replace H := dt H; obtain ⟨c5b0, H⟩ := H; replace H := dt H; obtain ⟨c6b0, H⟩ := H; have HC7 := Aside0.mk H; clear H; have pU1 : 0 ≤ (x13_1 : Int) := oda; have qU1 : x13_1 < (l2.length : Int) := oda; obtain ⟨adU1, eU1, hxU1_0, hxU1_1⟩ := at_T61 HR2.out x13_1 pU1 qU1; cases eU1; replace hxU1_0 := (HB.out.cell (World.block_lt_of_cell? w _ hxU1_0)).trans hxU1_0; replace hxU1_1 := (HB.out.cell (World.block_lt_of_cell? w _ hxU1_1)).trans hxU1_1; replace pU1 := eq_true pU1; replace qU1 := eq_true qU1
    go_upto_region 6 with (first | ((with_reducible refine gd 10 ?_); refine bz 10 #[.int .i64 0, .int .i64 0] 61 ?_; clear HB; intro gbU2 w8 BKU2 GWU2 HB; have GEU2 := GWU2; obtain ⟨z9_0, z9_1, f9_0, f9_1⟩ := cz2 BKU2))
    (try simp only [Act.put,za,zb,zc])
    go_cut [17] (fun v17 wc => ∃ (kq : Nat) (x17_6 : Bool), v17 = .bool x17_6 ∧ Aside0 (pair_Right.j1 kq a0 a1 x7_1 x8_1 l2 (l2.length : Int) x13_1 x17_6 ((rd_T61 l2 x13_1).f0) ((rd_T61 l2 x13_1).f1) = some r) ∧ Aside0 (kq ≤ k1) ∧ Aside0 (wc.heap[gbU2]? = some (.cells #[.int .i64 ((rd_T61 l2 x13_1).f0), .int .i64 ((rd_T61 l2 x13_1).f1)] 61 (0, 0))) ∧ Aside0 (Below w.heap.size w wc))
    case first =>
     have H := HC7.out; clear HC7
     by_cases c10 : ((rd_T61 l2 x13_1).f0) = x7_1
     ·rw [if_pos c10] at H; have c10b0 := beq_iff_eq.mpr c10; have c10b1 := bne_eq_false_iff_eq.mpr c10; clear c10; (first | rw [c10b0] | (simp only [i64_w, i32_w]; rw [c10b0]) | (have ce_ := c10b0; rw [List.beq_nil_eq] at ce_; rw [ce_]) | skip)
      by_cases c11 : ((rd_T61 l2 x13_1).f1) = x8_1
      ·rw [if_pos c11] at H; have c11b0 := beq_iff_eq.mpr c11; have c11b1 := bne_eq_false_iff_eq.mpr c11; clear c11
       by_cases c12 : x7_1 < a0
       ·rw [if_pos c12] at H; have c12b0 := decide_eq_true c12; clear c12; have H' := Aside0.mk H; clear H; obtain ⟨z13_0, z13_1, f13_0, f13_1⟩ := cz2 BKU2; go_wp2; go_meet
        case rel => exact ⟨_, (decide (x8_1 < a1)), si, H', ⟨by have := HK1.out; first | omega | exact Nat.le_refl _⟩, ⟨by (with_reducible repeat (first | refine blk_drewN ?_ _ | refine blk_drew ?_ | refine blk_alloc ?_ _)); refine blk_put (cs := #[.int .i64 ((rd_T61 l2 x13_1).f0), .int .i64 0]) ?_ 1 _ rfl; (with_reducible repeat (first | refine blk_drewN ?_ _ | refine blk_drew ?_ | refine blk_alloc ?_ _)); refine blk_put (cs := #[.int .i64 0, .int .i64 0]) ?_ 0 _ rfl; exact bl BKU2⟩, ⟨bel⟩⟩
       ·rw [if_neg c12] at H; have c12b0 : decide (x7_1 < a0) = false := decide_eq_false c12; clear c12; have H' := Aside0.mk H; clear H; obtain ⟨z14_0, z14_1, f14_0, f14_1⟩ := cz2 BKU2; go_wp2; go_meet
        case rel => exact ⟨_, (false), si, H', ⟨by have := HK1.out; first | omega | exact Nat.le_refl _⟩, ⟨by (with_reducible repeat (first | refine blk_drewN ?_ _ | refine blk_drew ?_ | refine blk_alloc ?_ _)); refine blk_put (cs := #[.int .i64 ((rd_T61 l2 x13_1).f0), .int .i64 0]) ?_ 1 _ rfl; (with_reducible repeat (first | refine blk_drewN ?_ _ | refine blk_drew ?_ | refine blk_alloc ?_ _)); refine blk_put (cs := #[.int .i64 0, .int .i64 0]) ?_ 0 _ rfl; exact bl BKU2⟩, ⟨bel⟩⟩
      ·rw [if_neg c11] at H; have c11b0 := beq_eq_false_iff_ne.mpr c11; have c11b1 := bne_iff_ne.mpr c11; have H' := Aside0.mk H; clear H; obtain ⟨z15_0, z15_1, f15_0, f15_1⟩ := cz2 BKU2; go_wp2; go_meet
       case rel => exact ⟨_, (false), si, H', ⟨by have := HK1.out; first | omega | exact Nat.le_refl _⟩, ⟨by (with_reducible repeat (first | refine blk_drewN ?_ _ | refine blk_drew ?_ | refine blk_alloc ?_ _)); refine blk_put (cs := #[.int .i64 ((rd_T61 l2 x13_1).f0), .int .i64 0]) ?_ 1 _ rfl; (with_reducible repeat (first | refine blk_drewN ?_ _ | refine blk_drew ?_ | refine blk_alloc ?_ _)); refine blk_put (cs := #[.int .i64 0, .int .i64 0]) ?_ 0 _ rfl; exact bl BKU2⟩, ⟨bel⟩⟩
     ·rw [if_neg c10] at H; have c10b0 := beq_eq_false_iff_ne.mpr c10; have c10b1 := bne_iff_ne.mpr c10; (first | rw [c10b0] | (simp only [i64_w, i32_w]; rw [c10b0]) | (have ce_ := c10b0; rw [List.beq_nil_eq] at ce_; rw [ce_]) | skip); have H' := Aside0.mk H; clear H; obtain ⟨z16_0, z16_1, f16_0, f16_1⟩ := cz2 BKU2; go_wp2; go_meet
      case rel => exact ⟨_, (false), si, H', ⟨by have := HK1.out; first | omega | exact Nat.le_refl _⟩, ⟨by (with_reducible repeat (first | refine blk_drewN ?_ _ | refine blk_drew ?_ | refine blk_alloc ?_ _)); refine blk_put (cs := #[.int .i64 ((rd_T61 l2 x13_1).f0), .int .i64 0]) ?_ 1 _ rfl; (with_reducible repeat (first | refine blk_drewN ?_ _ | refine blk_drew ?_ | refine blk_alloc ?_ _)); refine blk_put (cs := #[.int .i64 0, .int .i64 0]) ?_ 0 _ rfl; exact bl BKU2⟩, ⟨bel⟩⟩
    case rest =>
     clear HC7; (try clear c1); (try clear c2); (try clear p2); (try clear c3); (try clear p3); (try clear q3); (try clear hx3); (try clear c4); (try clear c4b0); (try clear c5); (try clear c5b0); (try clear c6); (try clear c6b0); (try clear c10); (try clear c10b0 c10b1); (try clear c11); (try clear c11b0 c11b1); (try clear c12); (try clear c12b0); (try clear z13_0 z13_1 f13_0 f13_1); (try clear z14_0 z14_1 f14_0 f14_1); (try clear z15_0 z15_1 f15_0 f15_1); (try clear z16_0 z16_1 f16_0 f16_1); (try clear z9_0 z9_1 f9_0 f9_1); (try clear hxU1_0); (try clear hxU1_1); (try clear pU1); (try clear qU1); obtain ⟨kq, x17_6, rfl, HA, HJ6, BKU2, HB⟩ := hcut
     cases kq with
     | zero => exact absurd HA.out (by simp [pair_Right.j1])
     | succ kj6 =>
      have H := HA.out; clear HA; simp only [pair_Right.j1] at H
      by_cases c17 : x17_6 = true
      ·subst c17; rw [if_pos rfl] at H; have H' := Aside0.mk H; clear H; go_wp2; go_roundg kj6
       case measure => have := HK1.out; have := HJ6.out; omega
       case rel => exact ⟨(wrap64 (x7_1 + 1)), (wrap64 (x8_1 + 1)), (wrap64 (x13_1 + 1)), si, si, si, H', ⟨by have := HK1.out; have := HJ6.out; omega⟩, ⟨bel⟩⟩
      ·replace c17 := Bool.eq_false_iff.mpr c17; subst c17; rw [if_neg nf] at H; have HC18 := Aside0.mk H; clear H
       go_upto_region 8 with (fail)
       go_cut [42] (fun v42 wc => ∃ (kq : Nat) (x42_17 : Bool), v42 = .bool x42_17 ∧ Aside0 (pair_Right.j2 kq a0 a1 x7_1 x8_1 l2 (l2.length : Int) x13_1 x42_17 ((rd_T61 l2 x13_1).f0) ((rd_T61 l2 x13_1).f1) = some r) ∧ Aside0 (kq ≤ kj6) ∧ Aside0 (wc.heap[gbU2]? = some (.cells #[.int .i64 ((rd_T61 l2 x13_1).f0), .int .i64 ((rd_T61 l2 x13_1).f1)] 61 (0, 0))) ∧ Aside0 (Below w.heap.size w wc))
       case first =>
        have H := HC18.out; clear HC18
        by_cases c19 : ((rd_T61 l2 x13_1).f0) = x7_1
        ·rw [if_pos c19] at H; have c19b0 := beq_iff_eq.mpr c19; have c19b1 := bne_eq_false_iff_eq.mpr c19; clear c19; (first | rw [c19b0] | (simp only [i64_w, i32_w]; rw [c19b0]) | (have ce_ := c19b0; rw [List.beq_nil_eq] at ce_; rw [ce_]) | skip)
         by_cases c20 : ((rd_T61 l2 x13_1).f1) = (-1)
         ·rw [if_pos c20] at H; have c20b0 := beq_iff_eq.mpr c20; have c20b1 := bne_eq_false_iff_eq.mpr c20; clear c20; have H' := Aside0.mk H; clear H; obtain ⟨z21_0, z21_1, f21_0, f21_1⟩ := cz2 BKU2; go_wp2; go_meet
          case rel => exact ⟨_, (decide (x7_1 < a0)), si, H', ⟨by have := HK1.out; have := HJ6.out; first | omega | exact Nat.le_refl _⟩, ⟨bl BKU2⟩, ⟨bel⟩⟩
         ·rw [if_neg c20] at H; have c20b0 := beq_eq_false_iff_ne.mpr c20; have c20b1 := bne_iff_ne.mpr c20; have H' := Aside0.mk H; clear H; obtain ⟨z22_0, z22_1, f22_0, f22_1⟩ := cz2 BKU2; go_wp2; go_meet
          case rel => exact ⟨_, (false), si, H', ⟨by have := HK1.out; have := HJ6.out; first | omega | exact Nat.le_refl _⟩, ⟨bl BKU2⟩, ⟨bel⟩⟩
        ·rw [if_neg c19] at H; have c19b0 := beq_eq_false_iff_ne.mpr c19; have c19b1 := bne_iff_ne.mpr c19; (first | rw [c19b0] | (simp only [i64_w, i32_w]; rw [c19b0]) | (have ce_ := c19b0; rw [List.beq_nil_eq] at ce_; rw [ce_]) | skip); have H' := Aside0.mk H; clear H; obtain ⟨z23_0, z23_1, f23_0, f23_1⟩ := cz2 BKU2; go_wp2; go_meet
         case rel => exact ⟨_, (false), si, H', ⟨by have := HK1.out; have := HJ6.out; first | omega | exact Nat.le_refl _⟩, ⟨bl BKU2⟩, ⟨bel⟩⟩
       case rest =>
        clear HC18; (try clear c1); (try clear c2); (try clear p2); (try clear c3); (try clear p3); (try clear q3); (try clear hx3); (try clear c4); (try clear c4b0); (try clear c5); (try clear c5b0); (try clear c6); (try clear c6b0); (try clear p6); (try clear c10); (try clear c10b0 c10b1); (try clear c11); (try clear c11b0 c11b1); (try clear c12); (try clear c12b0); (try clear c17); (try clear c19); (try clear c19b0 c19b1); (try clear c20); (try clear c20b0 c20b1); (try clear z13_0 z13_1 f13_0 f13_1); (try clear z14_0 z14_1 f14_0 f14_1); (try clear z15_0 z15_1 f15_0 f15_1); (try clear z16_0 z16_1 f16_0 f16_1); (try clear z21_0 z21_1 f21_0 f21_1); (try clear z22_0 z22_1 f22_0 f22_1); (try clear z23_0 z23_1 f23_0 f23_1); (try clear z9_0 z9_1 f9_0 f9_1); (try clear hxU1_0); (try clear hxU1_1); (try clear pU1); (try clear qU1); obtain ⟨kq, x42_17, rfl, HA, HJ17, BKU2, HB⟩ := hcut
        cases kq with
        | zero => exact absurd HA.out (by simp [pair_Right.j2])
        | succ kj17 =>
         have H := HA.out; clear HA; simp only [pair_Right.j2] at H
         by_cases c24 : x42_17 = true
         ·subst c24; rw [if_pos rfl] at H; have H' := Aside0.mk H; clear H; go_wp2; go_roundg kj17
          case measure => have := HK1.out; have := HJ6.out; have := HJ17.out; omega
          case rel => exact ⟨(wrap64 (x7_1 + 1)), (x8_1), (wrap64 (x13_1 + 1)), si, si, si, H', ⟨by have := HK1.out; have := HJ6.out; have := HJ17.out; omega⟩, ⟨bel⟩⟩
         ·replace c24 := Bool.eq_false_iff.mpr c24; subst c24; rw [if_neg nf] at H
          by_cases c25 : ((rd_T61 l2 x13_1).f0) = (-1)
          ·rw [if_pos c25] at H; have c25b0 := beq_iff_eq.mpr c25; have c25b1 := bne_eq_false_iff_eq.mpr c25; clear c25
           by_cases c26 : ((rd_T61 l2 x13_1).f1) = x8_1
           ·rw [if_pos c26] at H; have c26b0 := beq_iff_eq.mpr c26; have c26b1 := bne_eq_false_iff_eq.mpr c26; clear c26
            by_cases c27 : x8_1 < a1
            ·rw [if_pos c27] at H; have c27b0 := decide_eq_true c27; clear c27; have H' := Aside0.mk H; clear H; obtain ⟨z28_0, z28_1, f28_0, f28_1⟩ := cz2 BKU2; go_wp2; go_roundg kj17
             case measure => have := HK1.out; have := HJ6.out; have := HJ17.out; omega
             case rel => exact ⟨(x7_1), (wrap64 (x8_1 + 1)), (wrap64 (x13_1 + 1)), si, si, si, H', ⟨by have := HK1.out; have := HJ6.out; have := HJ17.out; omega⟩, ⟨bel⟩⟩
            ·rw [if_neg c27] at H; have c27b0 : decide (x8_1 < a1) = false := decide_eq_false c27; clear c27; obtain rfl := Option.some.inj H; obtain ⟨z29_0, z29_1, f29_0, f29_1⟩ := cz2 BKU2; go_wp2; go_ret; exact ⟨fi, bel⟩
           ·rw [if_neg c26] at H; have c26b0 := beq_eq_false_iff_ne.mpr c26; have c26b1 := bne_iff_ne.mpr c26; obtain rfl := Option.some.inj H; obtain ⟨z30_0, z30_1, f30_0, f30_1⟩ := cz2 BKU2; go_wp2; go_ret; exact ⟨fi, bel⟩
          ·rw [if_neg c25] at H; have c25b0 := beq_eq_false_iff_ne.mpr c25; have c25b1 := bne_iff_ne.mpr c25; obtain rfl := Option.some.inj H; obtain ⟨z31_0, z31_1, f31_0, f31_1⟩ := cz2 BKU2; go_wp2; go_ret; exact ⟨fi, bel⟩
   ·rw [if_neg c4] at H; have c4b0 : decide (x13_1 < (l2.length : Int)) = false := decide_eq_false c4; clear c4
    by_cases c32 : x7_1 = a0
    ·rw [if_pos c32] at H; have c32b0 := beq_iff_eq.mpr c32; have c32b1 := bne_eq_false_iff_eq.mpr c32; clear c32; obtain rfl := Option.some.inj H; go_wp2; go_ret; exact ⟨fi, bel⟩
    ·rw [if_neg c32] at H; have c32b0 := beq_eq_false_iff_ne.mpr c32; have c32b1 := bne_iff_ne.mpr c32; obtain rfl := Option.some.inj H; go_wp2; go_ret; exact ⟨fi, bel⟩
end Go.Proofs.YtcpbalnbgmjhjaaDoor.Q
