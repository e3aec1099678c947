import Derived.Test.YtcpbalnbgmjhjaaDoorV63
import Derived.Test.YtcpbalnbgmjhjaaDoorV65
import Derived.Test.YtcpbalnbgmjhjaaDoorV616
import Derived.Test.YtcpbalnbgmjhjaaDoorV612
import Derived.Test.YtcpbalnbgmjhjaaDoorV626
import Derived.Test.YtcpbalnbgmjhjaaDoorV619
import Derived.Test.YtcpbalnbgmjhjaaDoorV625
import Derived.Test.YtcpbalnbgmjhjaaDoorV611
import Derived.Test.YtcpbalnbgmjhjaaDoorV621
namespace Go.Proofs.YtcpbalnbgmjhjaaDoor.Q
open Go.RowKit Go.Proofs.YtcpbalnbgmjhjaaDoor.Mi Go.Proofs.YtcpbalnbgmjhjaaDoorW.PrintWords Go.Proofs.YtcpbalnbgmjhjaaDoorW.PrintLast Go.Proofs.YtcpbalnbgmjhjaaDoorW.PrintMore
attribute [local go_sem] min2_int min_two min_three
set_option linter.unusedVariables false
set_option linter.unusedSimpArgs false
mutual
def siglumref10_Right.j0 : Nat → Int → Int → List (S61) → Bool → Option (Bool)
 | 0, _, _, _, _ => none
 | k + 1, x0, x1, x2, x16 => if x16 = true then (some false) else (siglumref10_Right.l0 k x0 x1 x2 0 0 0)
def siglumref10_Right.l0 : Nat → Int → Int → List (S61) → Int → Int → Int → Option (Bool)
 | 0, _, _, _, _, _, _ => none
 | k + 1, x0, x1, x2, x7, x8, x9 => if x9 < (x2.length : Int) then (if 0 ≤ x9 then (if ((rd_T61 x2 x9).f0) = (-1) then (siglumref10_Right.j2 k x0 x1 x2 x7 x8 x9 (((rd_T61 x2 x9).f1) == (-1)) ((rd_T61 x2 x9).f0) ((rd_T61 x2 x9).f1)) else (siglumref10_Right.j2 k x0 x1 x2 x7 x8 x9 false ((rd_T61 x2 x9).f0) ((rd_T61 x2 x9).f1))) else (none)) else (if x7 = x0 then (some (x8 == x1)) else (some false))
def siglumref10_Right.j2 : Nat → Int → Int → List (S61) → Int → Int → Int → Bool → Int → Int → Option (Bool)
 | 0, _, _, _, _, _, _, _, _, _ => none
 | k + 1, x0, x1, x2, x7, x8, x9, x34, xU3U0, xU3U1 => if x34 = true then (some false) else (if xU3U0 = (-1) then (siglumref10_Right.j3 k x0 x1 x2 x7 x8 x9 xU3U0 xU3U1) else (if xU3U0 = x7 then (if x7 ≥ x0 then (some false) else (siglumref10_Right.j3 k x0 x1 x2 (wrap64 (x7 + 1)) x8 x9 xU3U0 xU3U1)) else (some false)))
def siglumref10_Right.j3 : Nat → Int → Int → List (S61) → Int → Int → Int → Int → Int → Option (Bool)
 | 0, _, _, _, _, _, _, _, _ => none
 | k + 1, x0, x1, x2, x7, x8, x9, xU3U0, xU3U1 => if xU3U1 = (-1) then (siglumref10_Right.l0 k x0 x1 x2 x7 x8 (wrap64 (x9 + 1))) else (if xU3U1 = x8 then (if x8 ≥ x1 then (some false) else (siglumref10_Right.l0 k x0 x1 x2 x7 (wrap64 (x8 + 1)) (wrap64 (x9 + 1)))) else (some false))
end
def siglumref10_Right.f (k : Nat) (a0 : Int) (a1 : Int) (l2 : List (S61)) : Option (Bool) := if a0 < 0 then (siglumref10_Right.j0 k a0 a1 l2 true) else (siglumref10_Right.j0 k a0 a1 l2 (decide (a1 < 0)))
set_option maxHeartbeats 8000000 in
set_option maxRecDepth 100000 in
theorem siglumref10_Right.calls (k : Nat) (a0 : Int) (a1 : Int) (A2 : Option Addr) (c2 : Nat) (l2 : List (S61)) (r : Bool) (w : World) (hr2 : Kd.C k61 w A2 l2.length l2) (hc2 : l2.length ≤ c2) (h : siglumref10_Right.f k a0 a1 l2 = some r) :
 Calls Tryd.prog 31 #[.int .i64 a0, .int .i64 a1, .slice A2 l2.length c2] w fun e w' => e = .returned (.bool r) ∧ Below w.heap.size w w' := by
 have hu61 := Tryd.underlying61; have HR2 := Aside0.mk hr2; have HC2 := Aside0.mk hc2; clear hr2 hc2; have HB := Aside0.mk (Below.refl w.heap.size w); have H := h; clear h; unfold siglumref10_Right.f at H; have HC4 := Aside0.mk H; clear H; go_enter Tryd.func31, Tryd.ntmps31
 go_upto_region 1 with (fail)
 go_cut [16] (fun v16 wc => ∃ (kq : Nat) (x16_3 : Bool), v16 = .bool x16_3 ∧ Aside0 (siglumref10_Right.j0 kq a0 a1 l2 x16_3 = some r) ∧ Aside0 (kq ≤ k) ∧ Aside0 (Below w.heap.size w wc))
 case first =>
  have H := HC4.out; clear HC4
  by_cases c5 : a0 < 0
  ·rw [if_pos c5] at H; have c5b0 := decide_eq_true c5; clear c5; (first | rw [c5b0] | (simp only [i64_w, i32_w]; rw [c5b0]) | (have ce_ := c5b0; rw [List.beq_nil_eq] at ce_; rw [ce_]) | skip); have H' := Aside0.mk H; clear H; go_wp2; go_meet
   case rel => exact ⟨_, (true), si, H', ⟨lk⟩, ⟨bel⟩⟩
  ·rw [if_neg c5] at H; have c5b0 : decide (a0 < 0) = false := decide_eq_false c5; clear c5; (first | rw [c5b0] | (simp only [i64_w, i32_w]; rw [c5b0]) | (have ce_ := c5b0; rw [List.beq_nil_eq] at ce_; rw [ce_]) | skip); have H' := Aside0.mk H; clear H; go_wp2; go_meet
   case rel => exact ⟨_, (decide (a1 < 0)), si, H', ⟨lk⟩, ⟨bel⟩⟩
 case rest =>
  clear HC4; (try clear c2); (try clear p2); (try clear c3); (try clear c5); (try clear c5b0); obtain ⟨kq, x16_3, rfl, HA, HJ3, HB⟩ := hcut
  cases kq with
  | zero => exact absurd HA.out (by simp [siglumref10_Right.j0])
  | succ kj3 =>
   have H := HA.out; clear HA; simp only [siglumref10_Right.j0] at H
   by_cases c6 : x16_3 = true
   ·subst c6; rw [if_pos rfl] at H; obtain rfl := Option.some.inj H; go_wp2; go_ret; exact ⟨fi, bel⟩
   ·replace c6 := Bool.eq_false_iff.mpr c6; subst c6; rw [if_neg nf] at H; have H' := Aside0.mk H; clear H; go_wp2
    go_loopg [7, 8, 9] kj3 (fun kq v7 v8 v9 w' => ∃ (x7_2 : Int) (x8_2 : Int) (x9_2 : Int), v7 = .int .i64 x7_2 ∧ v8 = .int .i64 x8_2 ∧ v9 = .int .i64 x9_2 ∧ Aside0 (siglumref10_Right.l0 kq a0 a1 l2 x7_2 x8_2 x9_2 = some r) ∧ Aside0 (kq ≤ kj3) ∧ Aside0 (Below w.heap.size w w'))
    case atStart => exact ⟨(0), (0), (0), si, si, si, H', ⟨Nat.le_refl _⟩, ⟨bel⟩⟩
    case round =>
     clear H'; (try clear c2); (try clear p2); (try clear c3); (try clear c5); (try clear c5b0); (try clear c6); obtain ⟨x7_2, x8_2, x9_2, rfl, rfl, rfl, HA, HK2, HB⟩ := hrel
     cases gk with
     | zero => exact absurd HA.out (by simp [siglumref10_Right.l0])
     | succ k2 =>
      have H := HA.out; clear HA; simp only [siglumref10_Right.l0] at H
      by_cases c7 : x9_2 < (l2.length : Int)
      ·rw [if_pos c7] at H; have c7b0 := decide_eq_true c7; clear c7; replace H := dt H; obtain ⟨c8b0, H⟩ := H; have HC9 := Aside0.mk H; clear H; have pU1 : 0 ≤ (x9_2 : Int) := oda; have qU1 : x9_2 < (l2.length : Int) := oda; obtain ⟨adU1, eU1, hxU1_0, hxU1_1⟩ := at_T61 HR2.out x9_2 pU1 qU1; cases eU1; replace hxU1_0 := (HB.out.cell (World.block_lt_of_cell? w _ hxU1_0)).trans hxU1_0; replace hxU1_1 := (HB.out.cell (World.block_lt_of_cell? w _ hxU1_1)).trans hxU1_1; replace pU1 := eq_true pU1; replace qU1 := eq_true qU1
       go_upto_region 9 with (first | ((with_reducible refine gd 10 ?_); refine bz 10 #[.int .i64 0, .int .i64 0] 61 ?_; clear HB; intro gbU2 w10 BKU2 GWU2 HB; have GEU2 := GWU2; obtain ⟨z11_0, z11_1, f11_0, f11_1⟩ := cz2 BKU2))
       (try simp only [Act.put,za,zb,zc])
       go_cut [34] (fun v34 wc => ∃ (kq : Nat) (x34_8 : Bool), v34 = .bool x34_8 ∧ Aside0 (siglumref10_Right.j2 kq a0 a1 l2 x7_2 x8_2 x9_2 x34_8 ((rd_T61 l2 x9_2).f0) ((rd_T61 l2 x9_2).f1) = some r) ∧ Aside0 (kq ≤ k2) ∧ Aside0 (wc.heap[gbU2]? = some (.cells #[.int .i64 ((rd_T61 l2 x9_2).f0), .int .i64 ((rd_T61 l2 x9_2).f1)] 61 (0, 0))) ∧ Aside0 (Below w.heap.size w wc))
       case first =>
        have H := HC9.out; clear HC9
        by_cases c12 : ((rd_T61 l2 x9_2).f0) = (-1)
        ·rw [if_pos c12] at H; have c12b0 := beq_iff_eq.mpr c12; have c12b1 := bne_eq_false_iff_eq.mpr c12; clear c12; (first | rw [c12b0] | (simp only [i64_w, i32_w]; rw [c12b0]) | (have ce_ := c12b0; rw [List.beq_nil_eq] at ce_; rw [ce_]) | skip); have H' := Aside0.mk H; clear H; obtain ⟨z13_0, z13_1, f13_0, f13_1⟩ := cz2 BKU2; go_wp2; go_meet
         case rel => exact ⟨_, ((((rd_T61 l2 x9_2).f1) == (-1))), si, H', ⟨by have := HJ3.out; have := HK2.out; first | omega | exact Nat.le_refl _⟩, ⟨by (with_reducible repeat (first | refine blk_drewN ?_ _ | refine blk_drew ?_ | refine blk_alloc ?_ _)); refine blk_put (cs := #[.int .i64 ((rd_T61 l2 x9_2).f0), .int .i64 0]) ?_ 1 _ rfl; (with_reducible repeat (first | refine blk_drewN ?_ _ | refine blk_drew ?_ | refine blk_alloc ?_ _)); refine blk_put (cs := #[.int .i64 0, .int .i64 0]) ?_ 0 _ rfl; exact bl BKU2⟩, ⟨bel⟩⟩
        ·rw [if_neg c12] at H; have c12b0 := beq_eq_false_iff_ne.mpr c12; have c12b1 := bne_iff_ne.mpr c12; (first | rw [c12b0] | (simp only [i64_w, i32_w]; rw [c12b0]) | (have ce_ := c12b0; rw [List.beq_nil_eq] at ce_; rw [ce_]) | skip); have H' := Aside0.mk H; clear H; obtain ⟨z14_0, z14_1, f14_0, f14_1⟩ := cz2 BKU2; go_wp2; go_meet
         case rel => exact ⟨_, (false), si, H', ⟨by have := HJ3.out; have := HK2.out; first | omega | exact Nat.le_refl _⟩, ⟨by (with_reducible repeat (first | refine blk_drewN ?_ _ | refine blk_drew ?_ | refine blk_alloc ?_ _)); refine blk_put (cs := #[.int .i64 ((rd_T61 l2 x9_2).f0), .int .i64 0]) ?_ 1 _ rfl; (with_reducible repeat (first | refine blk_drewN ?_ _ | refine blk_drew ?_ | refine blk_alloc ?_ _)); refine blk_put (cs := #[.int .i64 0, .int .i64 0]) ?_ 0 _ rfl; exact bl BKU2⟩, ⟨bel⟩⟩
       case rest =>
        clear HC9; (try clear c1); (try clear c2); (try clear p2); (try clear c3); (try clear p3); (try clear q3); (try clear hx3); (try clear c5); (try clear c5b0); (try clear c6); (try clear c7); (try clear c7b0); (try clear c8); (try clear c8b0); (try clear c12); (try clear c12b0 c12b1); (try clear z11_0 z11_1 f11_0 f11_1); (try clear z13_0 z13_1 f13_0 f13_1); (try clear z14_0 z14_1 f14_0 f14_1); (try clear hxU1_0); (try clear hxU1_1); (try clear pU1); (try clear qU1); obtain ⟨kq, x34_8, rfl, HA, HJ8, BKU2, HB⟩ := hcut
        cases kq with
        | zero => exact absurd HA.out (by simp [siglumref10_Right.j2])
        | succ kj8 =>
         have H := HA.out; clear HA; simp only [siglumref10_Right.j2] at H
         by_cases c15 : x34_8 = true
         ·subst c15; rw [if_pos rfl] at H; obtain rfl := Option.some.inj H; go_wp2; go_ret; exact ⟨fi, bel⟩
         ·replace c15 := Bool.eq_false_iff.mpr c15; subst c15; rw [if_neg nf] at H; have HC16 := Aside0.mk H; clear H; obtain ⟨z17_0, z17_1, f17_0, f17_1⟩ := cz2 BKU2
          go_upto_if 37 with (fail)
          go_cut [7] (fun v7 wc => ∃ (kq : Nat) (x7_15 : Int), v7 = .int .i64 x7_15 ∧ Aside0 (siglumref10_Right.j3 kq a0 a1 l2 x7_15 x8_2 x9_2 ((rd_T61 l2 x9_2).f0) ((rd_T61 l2 x9_2).f1) = some r) ∧ Aside0 (kq ≤ kj8) ∧ Aside0 (wc.heap[gbU2]? = some (.cells #[.int .i64 ((rd_T61 l2 x9_2).f0), .int .i64 ((rd_T61 l2 x9_2).f1)] 61 (0, 0))) ∧ Aside0 (Below w.heap.size w wc))
          case first =>
           have H := HC16.out; clear HC16
           by_cases c18 : ((rd_T61 l2 x9_2).f0) = (-1)
           ·rw [if_pos c18] at H; have c18b0 := beq_iff_eq.mpr c18; have c18b1 := bne_eq_false_iff_eq.mpr c18; clear c18; (first | rw [c18b0] | (simp only [i64_w, i32_w]; rw [c18b0]) | (have ce_ := c18b0; rw [List.beq_nil_eq] at ce_; rw [ce_]) | skip); have H' := Aside0.mk H; clear H; go_wp2; go_meet
            case rel => exact ⟨_, (x7_2), si, H', ⟨by have := HJ3.out; have := HK2.out; have := HJ8.out; first | omega | exact Nat.le_refl _⟩, ⟨bl BKU2⟩, ⟨bel⟩⟩
           ·rw [if_neg c18] at H; have c18b0 := beq_eq_false_iff_ne.mpr c18; have c18b1 := bne_iff_ne.mpr c18; (first | rw [c18b0] | (simp only [i64_w, i32_w]; rw [c18b0]) | (have ce_ := c18b0; rw [List.beq_nil_eq] at ce_; rw [ce_]) | skip)
            by_cases c19 : ((rd_T61 l2 x9_2).f0) = x7_2
            ·rw [if_pos c19] at H; have c19b0 := beq_iff_eq.mpr c19; have c19b1 := bne_eq_false_iff_eq.mpr c19; clear c19
             by_cases c20 : x7_2 ≥ a0
             ·rw [if_pos c20] at H; have c20b0 : decide (a0 ≤ x7_2) = true := decide_eq_true c20; clear c20; obtain rfl := Option.some.inj H; obtain ⟨z21_0, z21_1, f21_0, f21_1⟩ := cz2 BKU2; go_wp2; go_ret; exact ⟨fi, bel⟩
             ·rw [if_neg c20] at H; have c20b0 : decide (a0 ≤ x7_2) = false := decide_eq_false c20; clear c20; have H' := Aside0.mk H; clear H; obtain ⟨z22_0, z22_1, f22_0, f22_1⟩ := cz2 BKU2; go_wp2; go_meet
              case rel => exact ⟨_, (wrap64 (x7_2 + 1)), si, H', ⟨by have := HJ3.out; have := HK2.out; have := HJ8.out; first | omega | exact Nat.le_refl _⟩, ⟨bl BKU2⟩, ⟨bel⟩⟩
            ·rw [if_neg c19] at H; have c19b0 := beq_eq_false_iff_ne.mpr c19; have c19b1 := bne_iff_ne.mpr c19; obtain rfl := Option.some.inj H; obtain ⟨z23_0, z23_1, f23_0, f23_1⟩ := cz2 BKU2; go_wp2; go_ret; exact ⟨fi, bel⟩
          case rest =>
           clear HC16; (try clear c1); (try clear c2); (try clear p2); (try clear c3); (try clear p3); (try clear q3); (try clear hx3); (try clear c5); (try clear c5b0); (try clear c6); (try clear p6); (try clear c7); (try clear c7b0); (try clear c8); (try clear c8b0); (try clear c12); (try clear c12b0 c12b1); (try clear c15); (try clear c18); (try clear c18b0 c18b1); (try clear c19); (try clear c19b0 c19b1); (try clear c20); (try clear c20b0); (try clear z11_0 z11_1 f11_0 f11_1); (try clear z13_0 z13_1 f13_0 f13_1); (try clear z14_0 z14_1 f14_0 f14_1); (try clear z17_0 z17_1 f17_0 f17_1); (try clear z21_0 z21_1 f21_0 f21_1); (try clear z22_0 z22_1 f22_0 f22_1); (try clear z23_0 z23_1 f23_0 f23_1); (try clear hxU1_0); (try clear hxU1_1); (try clear pU1); (try clear qU1); obtain ⟨kq, x7_15, rfl, HA, HJ15, BKU2, HB⟩ := hcut
           cases kq with
           | zero => exact absurd HA.out (by simp [siglumref10_Right.j3])
           | succ kj15 =>
            have H := HA.out; clear HA; simp only [siglumref10_Right.j3] at H
            by_cases c24 : ((rd_T61 l2 x9_2).f1) = (-1)
            ·rw [if_pos c24] at H; have c24b0 := beq_iff_eq.mpr c24; have c24b1 := bne_eq_false_iff_eq.mpr c24; clear c24; have H' := Aside0.mk H; clear H; obtain ⟨z25_0, z25_1, f25_0, f25_1⟩ := cz2 BKU2; go_wp2; go_roundg kj15
             case measure => have := HJ3.out; have := HK2.out; have := HJ8.out; have := HJ15.out; omega
             case rel => exact ⟨(x7_15), (x8_2), (wrap64 (x9_2 + 1)), si, si, si, H', ⟨by have := HJ3.out; have := HK2.out; have := HJ8.out; have := HJ15.out; omega⟩, ⟨bel⟩⟩
            ·rw [if_neg c24] at H; have c24b0 := beq_eq_false_iff_ne.mpr c24; have c24b1 := bne_iff_ne.mpr c24
             by_cases c26 : ((rd_T61 l2 x9_2).f1) = x8_2
             ·rw [if_pos c26] at H; have c26b0 := beq_iff_eq.mpr c26; have c26b1 := bne_eq_false_iff_eq.mpr c26; clear c26
              by_cases c27 : x8_2 ≥ a1
              ·rw [if_pos c27] at H; have c27b0 : decide (a1 ≤ x8_2) = true := decide_eq_true c27; clear c27; obtain rfl := Option.some.inj H; obtain ⟨z28_0, z28_1, f28_0, f28_1⟩ := cz2 BKU2; go_wp2; go_ret; exact ⟨fi, bel⟩
              ·rw [if_neg c27] at H; have c27b0 : decide (a1 ≤ x8_2) = false := decide_eq_false c27; clear c27; have H' := Aside0.mk H; clear H; obtain ⟨z29_0, z29_1, f29_0, f29_1⟩ := cz2 BKU2; go_wp2; go_roundg kj15
               case measure => have := HJ3.out; have := HK2.out; have := HJ8.out; have := HJ15.out; omega
               case rel => exact ⟨(x7_15), (wrap64 (x8_2 + 1)), (wrap64 (x9_2 + 1)), si, si, si, H', ⟨by have := HJ3.out; have := HK2.out; have := HJ8.out; have := HJ15.out; omega⟩, ⟨bel⟩⟩
             ·rw [if_neg c26] at H; have c26b0 := beq_eq_false_iff_ne.mpr c26; have c26b1 := bne_iff_ne.mpr c26; obtain rfl := Option.some.inj H; obtain ⟨z30_0, z30_1, f30_0, f30_1⟩ := cz2 BKU2; go_wp2; go_ret; exact ⟨fi, bel⟩
      ·rw [if_neg c7] at H; have c7b0 : decide (x9_2 < (l2.length : Int)) = false := decide_eq_false c7; clear c7
       by_cases c31 : x7_2 = a0
       ·rw [if_pos c31] at H; have c31b0 := beq_iff_eq.mpr c31; have c31b1 := bne_eq_false_iff_eq.mpr c31; clear c31; obtain rfl := Option.some.inj H; go_wp2; go_ret; exact ⟨fi, bel⟩
       ·rw [if_neg c31] at H; have c31b0 := beq_eq_false_iff_ne.mpr c31; have c31b1 := bne_iff_ne.mpr c31; obtain rfl := Option.some.inj H; go_wp2; go_ret; exact ⟨fi, bel⟩
def siglumref10_Price.l0 : Nat → List (S61) → List (List Int) → Int → Int → Int → Int → Int → Int → Option (Int × Int)
 | 0, _, _, _, _, _, _, _, _ => none
 | k + 1, x2, x10, x12, x13, xU2U0, xU2U1, xU2U2, xU2U3 => if x13 < (x2.length : Int) then (if 0 ≤ x13 then (if ((rd_T61 x2 x13).f0) = (-1) then (siglumref10_Price.l0 k x2 x10 (wrap64 (x12 + xU2U0)) (wrap64 (x13 + 1)) xU2U0 xU2U1 xU2U2 xU2U3) else (if ((rd_T61 x2 x13).f1) = (-1) then (siglumref10_Price.l0 k x2 x10 (wrap64 (x12 + xU2U0)) (wrap64 (x13 + 1)) xU2U0 xU2U1 xU2U2 xU2U3) else (if 0 ≤ ((rd_T61 x2 x13).f0) then (if ((rd_T61 x2 x13).f0) < (x10.length : Int) then (if 0 ≤ ((rd_T61 x2 x13).f1) then (if ((rd_T61 x2 x13).f1) < ((rd_L11 x10 ((rd_T61 x2 x13).f0)).length : Int) then (siglumref10_Price.l0 k x2 x10 (wrap64 (x12 + (rd (rd_L11 x10 ((rd_T61 x2 x13).f0)) ((rd_T61 x2 x13).f1)))) (wrap64 (x13 + 1)) xU2U0 xU2U1 xU2U2 xU2U3) else (none)) else (none)) else (none)) else (none)))) else (none)) else (some (x12, 0))
def siglumref10_Price.f (k : Nat) (l0 : List ByteArray) (l1 : List ByteArray) (l2 : List (S61)) (a3_0 : Int) (a3_1 : Int) (a3_2 : Int) (a3_3 : Int) : Option (Int × Int) := (siglumref09_Grid.f k l0 l1 a3_0 a3_1 a3_2 a3_3).bind fun btU2 => (if btU2.2 = 0 then ((siglumref10_Right.f k (l0.length : Int) (l1.length : Int) l2).bind fun tU6 => (if tU6 = true then (siglumref10_Price.l0 k l2 btU2.1 0 0 a3_0 a3_1 a3_2 a3_3) else (some (0, 2)))) else (some (0, btU2.2)))
set_option maxHeartbeats 8000000 in
set_option maxRecDepth 100000 in
theorem siglumref10_Price.calls (k : Nat) (A0 : Option Addr) (c0 : Nat) (l0 : List ByteArray) (A1 : Option Addr) (c1 : Nat) (l1 : List ByteArray) (A2 : Option Addr) (c2 : Nat) (l2 : List (S61)) (a3_0 : Int) (a3_1 : Int) (a3_2 : Int) (a3_3 : Int) (r1 : Int) (r2 : Int) (w : World) (hr0 : Kd.C Kd.string w A0 l0.length l0) (hc0 : l0.length ≤ c0) (hr1 : Kd.C Kd.string w A1 l1.length l1) (hc1 : l1.length ≤ c1) (hr2 : Kd.C k61 w A2 l2.length l2) (hc2 : l2.length ≤ c2) (h : siglumref10_Price.f k l0 l1 l2 a3_0 a3_1 a3_2 a3_3 = some (r1, r2)) :
 Calls Tryd.prog 33 #[.slice A0 l0.length c0, .slice A1 l1.length c1, .slice A2 l2.length c2, .agg #[.int .i64 a3_0, .int .i64 a3_1, .int .i64 a3_2, .int .i64 a3_3]] w fun e w' => e = .returned (.tuple #[.int .i64 r1, .int .i64 r2]) ∧ Below w.heap.size w w' := by
 have hu23 := Tryd.underlying23; have HR0 := Aside0.mk hr0; have HC0 := Aside0.mk hc0; clear hr0 hc0; have HR1 := Aside0.mk hr1; have HC1 := Aside0.mk hc1; clear hr1 hc1; have HR2 := Aside0.mk hr2; have HC2 := Aside0.mk hc2; clear hr2 hc2; have HB := Aside0.mk (Below.refl w.heap.size w); have H := h; clear h; unfold siglumref10_Price.f at H; replace H := ob H; obtain ⟨⟨tU2, tU5⟩, A5, H⟩ := H; (try dsimp only at H)
 by_cases c6 : tU5 = 0
 ·rw [if_pos c6] at H; have c6b0 := beq_iff_eq.mpr c6; have c6b1 := bne_eq_false_iff_eq.mpr c6; clear c6; replace H := ob H; obtain ⟨tU6, A7, H⟩ := H; (try dsimp only at H)
  by_cases c8 : tU6 = true
  ·subst c8; rw [if_pos rfl] at H; have H' := Aside0.mk H; clear H; go_enter Tryd.func33, Tryd.ntmps33; go_wp2_with (first | ((with_reducible refine gd 7 ?_); refine bz 7 #[.int .i64 a3_0, .int .i64 a3_1, .int .i64 a3_2, .int .i64 a3_3] 23 ?_; clear HB; intro gbU1 w9 BKU1 GWU1 HB; have GEU1 := GWU1; obtain ⟨z10_0, z10_1, z10_2, z10_3, f10_0, f10_1, f10_2, f10_3⟩ := cz4 BKU1) | (go_at_call 23; (with_reducible refine (siglumref09_Grid.calls k _ _ l0 _ _ l1 a3_0 a3_1 a3_2 a3_3 tU2 tU5 _ ?side1 ?side2 ?side3 ?side4 A5.out).mono ?_); (case side1 => exact cb HR0 HB); (case side2 => exact HC0.out); (case side3 => exact cb HR1 HB); (case side4 => exact HC1.out); rintro e w11 ⟨vU3, rfl, ho0, hb⟩; have HOU4 := Aside0.mk (Kd.S_lower ho0 (below_size bel)); replace BKU1 := bb BKU1 hb; replace HB := bs hb; (try clear hb); (try clear ho0)) | (go_at_call 31; (with_reducible refine (siglumref10_Right.calls k (l0.length : Int) (l1.length : Int) _ _ l2 true _ ?side1 ?side2 A7.out).mono ?_); (case side1 => exact cb HR2 HB); (case side2 => exact HC2.out); rintro e w12 ⟨rfl, hb⟩; replace HOU4 := Aside0.mk (Kd.S_below (sl HOU4) hb); replace BKU1 := bb BKU1 hb; replace HB := bs hb; (try clear hb)))
   repeat (go_quiet (first | ((with_reducible refine gd 7 ?_); refine bz 7 #[.int .i64 a3_0, .int .i64 a3_1, .int .i64 a3_2, .int .i64 a3_3] 23 ?_; clear HB; intro gbU1 w9 BKU1 GWU1 HB; have GEU1 := GWU1; obtain ⟨z10_0, z10_1, z10_2, z10_3, f10_0, f10_1, f10_2, f10_3⟩ := cz4 BKU1) | (go_at_call 23; (with_reducible refine (siglumref09_Grid.calls k _ _ l0 _ _ l1 a3_0 a3_1 a3_2 a3_3 tU2 tU5 _ ?side1 ?side2 ?side3 ?side4 A5.out).mono ?_); (case side1 => exact cb HR0 HB); (case side2 => exact HC0.out); (case side3 => exact cb HR1 HB); (case side4 => exact HC1.out); rintro e w11 ⟨vU3, rfl, ho0, hb⟩; have HOU4 := Aside0.mk (Kd.S_lower ho0 (below_size bel)); replace BKU1 := bb BKU1 hb; replace HB := bs hb; (try clear hb); (try clear ho0)) | (go_at_call 31; (with_reducible refine (siglumref10_Right.calls k (l0.length : Int) (l1.length : Int) _ _ l2 true _ ?side1 ?side2 A7.out).mono ?_); (case side1 => exact cb HR2 HB); (case side2 => exact HC2.out); rintro e w12 ⟨rfl, hb⟩; replace HOU4 := Aside0.mk (Kd.S_below (sl HOU4) hb); replace BKU1 := bb BKU1 hb; replace HB := bs hb; (try clear hb))); try go_wp2_with (first | ((with_reducible refine gd 7 ?_); refine bz 7 #[.int .i64 a3_0, .int .i64 a3_1, .int .i64 a3_2, .int .i64 a3_3] 23 ?_; clear HB; intro gbU1 w9 BKU1 GWU1 HB; have GEU1 := GWU1; obtain ⟨z10_0, z10_1, z10_2, z10_3, f10_0, f10_1, f10_2, f10_3⟩ := cz4 BKU1) | (go_at_call 23; (with_reducible refine (siglumref09_Grid.calls k _ _ l0 _ _ l1 a3_0 a3_1 a3_2 a3_3 tU2 tU5 _ ?side1 ?side2 ?side3 ?side4 A5.out).mono ?_); (case side1 => exact cb HR0 HB); (case side2 => exact HC0.out); (case side3 => exact cb HR1 HB); (case side4 => exact HC1.out); rintro e w11 ⟨vU3, rfl, ho0, hb⟩; have HOU4 := Aside0.mk (Kd.S_lower ho0 (below_size bel)); replace BKU1 := bb BKU1 hb; replace HB := bs hb; (try clear hb); (try clear ho0)) | (go_at_call 31; (with_reducible refine (siglumref10_Right.calls k (l0.length : Int) (l1.length : Int) _ _ l2 true _ ?side1 ?side2 A7.out).mono ?_); (case side1 => exact cb HR2 HB); (case side2 => exact HC2.out); rintro e w12 ⟨rfl, hb⟩; replace HOU4 := Aside0.mk (Kd.S_below (sl HOU4) hb); replace BKU1 := bb BKU1 hb; replace HB := bs hb; (try clear hb))))
   go_loopg [12, 13] k (fun kq v12 v13 w' => ∃ (x12_1 : Int) (x13_1 : Int), v12 = .int .i64 x12_1 ∧ v13 = .int .i64 x13_1 ∧ Aside0 (siglumref10_Price.l0 kq l2 tU2 x12_1 x13_1 a3_0 a3_1 a3_2 a3_3 = some (r1, r2)) ∧ Aside0 (kq ≤ k) ∧ Aside0 (Kd.S (Kd.slice 3 (Kd.int .i64)) 45 w' w.heap.size (fun _ => True) vU3 tU2) ∧ Aside0 (w'.heap[gbU1]? = some (.cells #[.int .i64 a3_0, .int .i64 a3_1, .int .i64 a3_2, .int .i64 a3_3] 23 (0, 0))) ∧ Aside0 (Below w.heap.size w w'))
   case atStart => exact ⟨(0), (0), si, si, H', ⟨Nat.le_refl _⟩, ⟨sl HOU4⟩, ⟨bl BKU1⟩, ⟨bel⟩⟩
   case round =>
    clear H'; (try clear c1); (try clear c2); (try clear p2); (try clear c3); (try clear c6); (try clear c6b0 c6b1); (try clear c8); (try clear z10_0 z10_1 z10_2 z10_3 f10_0 f10_1 f10_2 f10_3); obtain ⟨x12_1, x13_1, rfl, rfl, HA, HK1, HO_10, BKU1, HB⟩ := hrel
    cases gk with
    | zero => exact absurd HA.out (by simp [siglumref10_Price.l0])
    | succ k1 =>
     have H := HA.out; clear HA; simp only [siglumref10_Price.l0] at H
     by_cases c13 : x13_1 < (l2.length : Int)
     ·rw [if_pos c13] at H; have c13b0 := decide_eq_true c13; clear c13; replace H := dt H; obtain ⟨c14b0, H⟩ := H
      by_cases c15 : ((rd_T61 l2 x13_1).f0) = (-1)
      ·rw [if_pos c15] at H; have c15b0 := beq_iff_eq.mpr c15; have c15b1 := bne_eq_false_iff_eq.mpr c15; clear c15; have H' := Aside0.mk H; clear H; have pU7 : 0 ≤ (x13_1 : Int) := oda; have qU7 : x13_1 < (l2.length : Int) := oda; obtain ⟨adU7, eU7, hxU7_0, hxU7_1⟩ := at_T61 HR2.out x13_1 pU7 qU7; cases eU7; replace hxU7_0 := (HB.out.cell (World.block_lt_of_cell? w _ hxU7_0)).trans hxU7_0; replace hxU7_1 := (HB.out.cell (World.block_lt_of_cell? w _ hxU7_1)).trans hxU7_1; replace pU7 := eq_true pU7; replace qU7 := eq_true qU7; obtain ⟨z16_0, z16_1, z16_2, z16_3, f16_0, f16_1, f16_2, f16_3⟩ := cz4 BKU1; go_wp2
       repeat (go_quiet (fail); try go_wp2)
       go_roundg k1
       case measure => have := HK1.out; omega
       case rel => exact ⟨(wrap64 (x12_1 + a3_0)), (wrap64 (x13_1 + 1)), si, si, H', ⟨by have := HK1.out; omega⟩, ⟨sl HO_10⟩, ⟨bl BKU1⟩, ⟨bel⟩⟩
      ·rw [if_neg c15] at H; have c15b0 := beq_eq_false_iff_ne.mpr c15; have c15b1 := bne_iff_ne.mpr c15
       by_cases c17 : ((rd_T61 l2 x13_1).f1) = (-1)
       ·rw [if_pos c17] at H; have c17b0 := beq_iff_eq.mpr c17; have c17b1 := bne_eq_false_iff_eq.mpr c17; clear c17; have H' := Aside0.mk H; clear H; have pU7 : 0 ≤ (x13_1 : Int) := oda; have qU7 : x13_1 < (l2.length : Int) := oda; obtain ⟨adU7, eU7, hxU7_0, hxU7_1⟩ := at_T61 HR2.out x13_1 pU7 qU7; cases eU7; replace hxU7_0 := (HB.out.cell (World.block_lt_of_cell? w _ hxU7_0)).trans hxU7_0; replace hxU7_1 := (HB.out.cell (World.block_lt_of_cell? w _ hxU7_1)).trans hxU7_1; replace pU7 := eq_true pU7; replace qU7 := eq_true qU7; have pU8 : 0 ≤ (x13_1 : Int) := oda; have qU8 : x13_1 < (l2.length : Int) := oda; obtain ⟨adU8, eU8, hxU8_0, hxU8_1⟩ := at_T61 HR2.out x13_1 pU8 qU8; obtain rfl : adU7 = adU8 := (by injection eU8); replace hxU8_0 := (HB.out.cell (World.block_lt_of_cell? w _ hxU8_0)).trans hxU8_0; replace hxU8_1 := (HB.out.cell (World.block_lt_of_cell? w _ hxU8_1)).trans hxU8_1; replace pU8 := eq_true pU8; replace qU8 := eq_true qU8; have z18_0 : wr.cell? ⟨gbU1, 0, none⟩ = some (.int .i64 a3_0) := (blk_cell BKU1.out 0).trans rfl; have z18_1 : wr.cell? ⟨gbU1, 1, none⟩ = some (.int .i64 a3_1) := (blk_cell BKU1.out 1).trans rfl; have z18_2 : wr.cell? ⟨gbU1, 2, none⟩ = some (.int .i64 a3_2) := (blk_cell BKU1.out 2).trans rfl; have z18_3 : wr.cell? ⟨gbU1, 3, none⟩ = some (.int .i64 a3_3) := (blk_cell BKU1.out 3).trans rfl
        have f18_0 := blk_frozen BKU1.out 0; have f18_1 := blk_frozen BKU1.out 1; have f18_2 := blk_frozen BKU1.out 2; have f18_3 := blk_frozen BKU1.out 3; go_wp2
        repeat (go_quiet (fail); try go_wp2)
        go_roundg k1
        case measure => have := HK1.out; omega
        case rel => exact ⟨(wrap64 (x12_1 + a3_0)), (wrap64 (x13_1 + 1)), si, si, H', ⟨by have := HK1.out; omega⟩, ⟨sl HO_10⟩, ⟨bl BKU1⟩, ⟨bel⟩⟩
       ·rw [if_neg c17] at H; have c17b0 := beq_eq_false_iff_ne.mpr c17; have c17b1 := bne_iff_ne.mpr c17; replace H := dt H; obtain ⟨c19b0, H⟩ := H; replace H := dt H; obtain ⟨c20b0, H⟩ := H; replace H := dt H; obtain ⟨c21b0, H⟩ := H; replace H := dt H; obtain ⟨c22b0, H⟩ := H; have H' := Aside0.mk H; clear H; have pU7 : 0 ≤ (x13_1 : Int) := oda; have qU7 : x13_1 < (l2.length : Int) := oda; obtain ⟨adU7, eU7, hxU7_0, hxU7_1⟩ := at_T61 HR2.out x13_1 pU7 qU7; cases eU7; replace hxU7_0 := (HB.out.cell (World.block_lt_of_cell? w _ hxU7_0)).trans hxU7_0; replace hxU7_1 := (HB.out.cell (World.block_lt_of_cell? w _ hxU7_1)).trans hxU7_1; replace pU7 := eq_true pU7; replace qU7 := eq_true qU7; have pU8 : 0 ≤ (x13_1 : Int) := oda; have qU8 : x13_1 < (l2.length : Int) := oda; obtain ⟨adU8, eU8, hxU8_0, hxU8_1⟩ := at_T61 HR2.out x13_1 pU8 qU8; obtain rfl : adU7 = adU8 := (by injection eU8); replace hxU8_0 := (HB.out.cell (World.block_lt_of_cell? w _ hxU8_0)).trans hxU8_0; replace hxU8_1 := (HB.out.cell (World.block_lt_of_cell? w _ hxU8_1)).trans hxU8_1; replace pU8 := eq_true pU8; replace qU8 := eq_true qU8; have pU9 : 0 ≤ (x13_1 : Int) := oda; have qU9 : x13_1 < (l2.length : Int) := oda; obtain ⟨adU9, eU9, hxU9_0, hxU9_1⟩ := at_T61 HR2.out x13_1 pU9 qU9; obtain rfl : adU7 = adU9 := (by injection eU9); replace hxU9_0 := (HB.out.cell (World.block_lt_of_cell? w _ hxU9_0)).trans hxU9_0; replace hxU9_1 := (HB.out.cell (World.block_lt_of_cell? w _ hxU9_1)).trans hxU9_1
        replace pU9 := eq_true pU9; replace qU9 := eq_true qU9; obtain ⟨Ao23, co23, eo23⟩ := Kd.S_slice HO_10.out; subst eo23; have pU10 : 0 ≤ (((rd_T61 l2 x13_1).f0) : Int) := oda; have qU10 : ((rd_T61 l2 x13_1).f0) < (tU2.length : Int) := oda; obtain ⟨adU10, AU10_0, cU10_0, eU10, hxU10_0, hlU10_0, hiU10_0⟩ := at_L11 (Kd.S_reads' HO_10.out).2.2 ((rd_T61 l2 x13_1).f0) pU10 qU10; cases eU10; obtain ⟨ceU10, hceU10, hMeU10, hccU10⟩ := Kd.S_get HO_10.out [] ((rd_T61 l2 x13_1).f0) pU10 (by first | exact qU10 | exact oda | (have e_ := (Kd.S_reads' HO_10.out).1; omega)); obtain ⟨veU10_0, rfl, geU10_0⟩ := hMeU10; have hvU10_0 := hccU10 0 _ rfl; rw [Nat.add_zero, show ((Kd.slice 3 (Kd.int .i64))).sz = 1 from rfl, Nat.mul_one] at hvU10_0; replace hvU10_0 := Option.some.inj (hvU10_0.symm.trans hxU10_0); rw [hvU10_0] at geU10_0; have HLU10_0 := Aside0.mk (show Kd.R (Kd.int .i64) 3 _ _ _ _ (rd_L11 tU2 ((rd_T61 l2 x13_1).f0)) from geU10_0); clear hvU10_0 geU10_0; clear hccU10 hceU10; have HRU10_0 := Aside0.mk hiU10_0; have HCU10_0 := Aside0.mk hlU10_0; clear hiU10_0 hlU10_0; replace pU10 := eq_true pU10; replace qU10 := eq_true qU10; have pU11 : 0 ≤ (x13_1 : Int) := oda; have qU11 : x13_1 < (l2.length : Int) := oda; obtain ⟨adU11, eU11, hxU11_0, hxU11_1⟩ := at_T61 HR2.out x13_1 pU11 qU11; obtain rfl : adU7 = adU11 := (by injection eU11); replace hxU11_0 := (HB.out.cell (World.block_lt_of_cell? w _ hxU11_0)).trans hxU11_0
        replace hxU11_1 := (HB.out.cell (World.block_lt_of_cell? w _ hxU11_1)).trans hxU11_1; replace pU11 := eq_true pU11; replace qU11 := eq_true qU11; have pU12 : 0 ≤ (((rd_T61 l2 x13_1).f1) : Int) := oda; have qU12 : ((rd_T61 l2 x13_1).f1) < ((rd_L11 tU2 ((rd_T61 l2 x13_1).f0)).length : Int) := oda; obtain ⟨adU12, eU12, hxU12_0⟩ := Kd.at_int (cl HRU10_0) ((rd_T61 l2 x13_1).f1) pU12 qU12; cases eU12; replace pU12 := eq_true pU12; replace qU12 := eq_true qU12; go_wp2
        repeat (go_quiet (fail); try go_wp2)
        go_roundg k1
        case measure => have := HK1.out; omega
        case rel => exact ⟨(wrap64 (x12_1 + (rd (rd_L11 tU2 ((rd_T61 l2 x13_1).f0)) ((rd_T61 l2 x13_1).f1)))), (wrap64 (x13_1 + 1)), si, si, H', ⟨by have := HK1.out; omega⟩, ⟨sl HO_10⟩, ⟨bl BKU1⟩, ⟨bel⟩⟩
     ·rw [if_neg c13] at H; have c13b0 : decide (x13_1 < (l2.length : Int)) = false := decide_eq_false c13; clear c13; simp only [Option.some.injEq, Prod.mk.injEq] at H; obtain ⟨rfl, rfl⟩ := H; go_wp2
      repeat (go_quiet (fail); try go_wp2)
      go_ret2; exact ⟨fi, bel⟩
  ·replace c8 := Bool.eq_false_iff.mpr c8; subst c8; rw [if_neg nf] at H; simp only [Option.some.injEq, Prod.mk.injEq] at H; obtain ⟨rfl, rfl⟩ := H; go_enter Tryd.func33, Tryd.ntmps33; go_wp2_with (first | ((with_reducible refine gd 7 ?_); refine bz 7 #[.int .i64 a3_0, .int .i64 a3_1, .int .i64 a3_2, .int .i64 a3_3] 23 ?_; clear HB; intro gbU1 w24 BKU1 GWU1 HB; have GEU1 := GWU1; obtain ⟨z25_0, z25_1, z25_2, z25_3, f25_0, f25_1, f25_2, f25_3⟩ := cz4 BKU1) | (go_at_call 23; (with_reducible refine (siglumref09_Grid.calls k _ _ l0 _ _ l1 a3_0 a3_1 a3_2 a3_3 tU2 tU5 _ ?side1 ?side2 ?side3 ?side4 A5.out).mono ?_); (case side1 => exact cb HR0 HB); (case side2 => exact HC0.out); (case side3 => exact cb HR1 HB); (case side4 => exact HC1.out); rintro e w26 ⟨vU3, rfl, ho0, hb⟩; have HOU4 := Aside0.mk (Kd.S_lower ho0 (below_size bel)); replace BKU1 := bb BKU1 hb; replace HB := bs hb; (try clear hb); (try clear ho0)) | (go_at_call 31; (with_reducible refine (siglumref10_Right.calls k (l0.length : Int) (l1.length : Int) _ _ l2 false _ ?side1 ?side2 A7.out).mono ?_); (case side1 => exact cb HR2 HB); (case side2 => exact HC2.out); rintro e w27 ⟨rfl, hb⟩; replace HOU4 := Aside0.mk (Kd.S_below (sl HOU4) hb); replace BKU1 := bb BKU1 hb; replace HB := bs hb; (try clear hb)))
   repeat (go_quiet (first | ((with_reducible refine gd 7 ?_); refine bz 7 #[.int .i64 a3_0, .int .i64 a3_1, .int .i64 a3_2, .int .i64 a3_3] 23 ?_; clear HB; intro gbU1 w24 BKU1 GWU1 HB; have GEU1 := GWU1; obtain ⟨z25_0, z25_1, z25_2, z25_3, f25_0, f25_1, f25_2, f25_3⟩ := cz4 BKU1) | (go_at_call 23; (with_reducible refine (siglumref09_Grid.calls k _ _ l0 _ _ l1 a3_0 a3_1 a3_2 a3_3 tU2 tU5 _ ?side1 ?side2 ?side3 ?side4 A5.out).mono ?_); (case side1 => exact cb HR0 HB); (case side2 => exact HC0.out); (case side3 => exact cb HR1 HB); (case side4 => exact HC1.out); rintro e w26 ⟨vU3, rfl, ho0, hb⟩; have HOU4 := Aside0.mk (Kd.S_lower ho0 (below_size bel)); replace BKU1 := bb BKU1 hb; replace HB := bs hb; (try clear hb); (try clear ho0)) | (go_at_call 31; (with_reducible refine (siglumref10_Right.calls k (l0.length : Int) (l1.length : Int) _ _ l2 false _ ?side1 ?side2 A7.out).mono ?_); (case side1 => exact cb HR2 HB); (case side2 => exact HC2.out); rintro e w27 ⟨rfl, hb⟩; replace HOU4 := Aside0.mk (Kd.S_below (sl HOU4) hb); replace BKU1 := bb BKU1 hb; replace HB := bs hb; (try clear hb))); try go_wp2_with (first | ((with_reducible refine gd 7 ?_); refine bz 7 #[.int .i64 a3_0, .int .i64 a3_1, .int .i64 a3_2, .int .i64 a3_3] 23 ?_; clear HB; intro gbU1 w24 BKU1 GWU1 HB; have GEU1 := GWU1; obtain ⟨z25_0, z25_1, z25_2, z25_3, f25_0, f25_1, f25_2, f25_3⟩ := cz4 BKU1) | (go_at_call 23; (with_reducible refine (siglumref09_Grid.calls k _ _ l0 _ _ l1 a3_0 a3_1 a3_2 a3_3 tU2 tU5 _ ?side1 ?side2 ?side3 ?side4 A5.out).mono ?_); (case side1 => exact cb HR0 HB); (case side2 => exact HC0.out); (case side3 => exact cb HR1 HB); (case side4 => exact HC1.out); rintro e w26 ⟨vU3, rfl, ho0, hb⟩; have HOU4 := Aside0.mk (Kd.S_lower ho0 (below_size bel)); replace BKU1 := bb BKU1 hb; replace HB := bs hb; (try clear hb); (try clear ho0)) | (go_at_call 31; (with_reducible refine (siglumref10_Right.calls k (l0.length : Int) (l1.length : Int) _ _ l2 false _ ?side1 ?side2 A7.out).mono ?_); (case side1 => exact cb HR2 HB); (case side2 => exact HC2.out); rintro e w27 ⟨rfl, hb⟩; replace HOU4 := Aside0.mk (Kd.S_below (sl HOU4) hb); replace BKU1 := bb BKU1 hb; replace HB := bs hb; (try clear hb))))
   go_ret2; exact ⟨fi, bel⟩
 ·rw [if_neg c6] at H; have c6b0 := beq_eq_false_iff_ne.mpr c6; have c6b1 := bne_iff_ne.mpr c6; simp only [Option.some.injEq, Prod.mk.injEq] at H; obtain ⟨rfl, rfl⟩ := H; go_enter Tryd.func33, Tryd.ntmps33; go_wp2_with (first | ((with_reducible refine gd 7 ?_); refine bz 7 #[.int .i64 a3_0, .int .i64 a3_1, .int .i64 a3_2, .int .i64 a3_3] 23 ?_; clear HB; intro gbU1 w28 BKU1 GWU1 HB; have GEU1 := GWU1; obtain ⟨z29_0, z29_1, z29_2, z29_3, f29_0, f29_1, f29_2, f29_3⟩ := cz4 BKU1) | (go_at_call 23; (with_reducible refine (siglumref09_Grid.calls k _ _ l0 _ _ l1 a3_0 a3_1 a3_2 a3_3 tU2 tU5 _ ?side1 ?side2 ?side3 ?side4 A5.out).mono ?_); (case side1 => exact cb HR0 HB); (case side2 => exact HC0.out); (case side3 => exact cb HR1 HB); (case side4 => exact HC1.out); rintro e w30 ⟨vU3, rfl, ho0, hb⟩; have HOU4 := Aside0.mk (Kd.S_lower ho0 (below_size bel)); replace BKU1 := bb BKU1 hb; replace HB := bs hb; (try clear hb); (try clear ho0)))
  repeat (go_quiet (first | ((with_reducible refine gd 7 ?_); refine bz 7 #[.int .i64 a3_0, .int .i64 a3_1, .int .i64 a3_2, .int .i64 a3_3] 23 ?_; clear HB; intro gbU1 w28 BKU1 GWU1 HB; have GEU1 := GWU1; obtain ⟨z29_0, z29_1, z29_2, z29_3, f29_0, f29_1, f29_2, f29_3⟩ := cz4 BKU1) | (go_at_call 23; (with_reducible refine (siglumref09_Grid.calls k _ _ l0 _ _ l1 a3_0 a3_1 a3_2 a3_3 tU2 tU5 _ ?side1 ?side2 ?side3 ?side4 A5.out).mono ?_); (case side1 => exact cb HR0 HB); (case side2 => exact HC0.out); (case side3 => exact cb HR1 HB); (case side4 => exact HC1.out); rintro e w30 ⟨vU3, rfl, ho0, hb⟩; have HOU4 := Aside0.mk (Kd.S_lower ho0 (below_size bel)); replace BKU1 := bb BKU1 hb; replace HB := bs hb; (try clear hb); (try clear ho0))); try go_wp2_with (first | ((with_reducible refine gd 7 ?_); refine bz 7 #[.int .i64 a3_0, .int .i64 a3_1, .int .i64 a3_2, .int .i64 a3_3] 23 ?_; clear HB; intro gbU1 w28 BKU1 GWU1 HB; have GEU1 := GWU1; obtain ⟨z29_0, z29_1, z29_2, z29_3, f29_0, f29_1, f29_2, f29_3⟩ := cz4 BKU1) | (go_at_call 23; (with_reducible refine (siglumref09_Grid.calls k _ _ l0 _ _ l1 a3_0 a3_1 a3_2 a3_3 tU2 tU5 _ ?side1 ?side2 ?side3 ?side4 A5.out).mono ?_); (case side1 => exact cb HR0 HB); (case side2 => exact HC0.out); (case side3 => exact cb HR1 HB); (case side4 => exact HC1.out); rintro e w30 ⟨vU3, rfl, ho0, hb⟩; have HOU4 := Aside0.mk (Kd.S_lower ho0 (below_size bel)); replace BKU1 := bb BKU1 hb; replace HB := bs hb; (try clear hb); (try clear ho0))))
  go_ret2; exact ⟨fi, bel⟩
end Go.Proofs.YtcpbalnbgmjhjaaDoor.Q
namespace Go.Proofs.YtcpbalnbgmjhjaaDoor.Q
open Go.RowKit Go.Proofs.YtcpbalnbgmjhjaaDoor.Mi Go.Proofs.YtcpbalnbgmjhjaaDoorW.PrintWords Go.Proofs.YtcpbalnbgmjhjaaDoorW.PrintLast Go.Proofs.YtcpbalnbgmjhjaaDoorW.PrintMore
attribute [local go_sem] min2_int min_two min_three
set_option linter.unusedVariables false
set_option linter.unusedSimpArgs false
def siglumlaw10_PairPrices.f (k : Nat) (l0_0 : List ByteArray) (l0_1 : List ByteArray) (l0_2 : List (S61)) (a0_3 : Int) (a0_4 : Int) (a0_5 : Int) (a0_6 : Int) : Option (Bool) := (siglumlaw10_awake.f k).bind fun tU2 => (if tU2 = true then ((siglumref09_Light.f k l0_0 l0_1).bind fun tU3 => (if tU3 = true then ((pair_Price.f k l0_0 l0_1 l0_2 a0_3 a0_4 a0_5 a0_6).bind fun btU4 => ((siglumref10_Price.f k l0_0 l0_1 l0_2 a0_3 a0_4 a0_5 a0_6).bind fun btU6 => (if btU4.1 = btU6.1 then (some (btU4.2 == btU6.2)) else (some false)))) else (some true))) else (some false))
set_option maxHeartbeats 8000000 in
set_option maxRecDepth 100000 in
theorem siglumlaw10_PairPrices.calls (k : Nat) (A0_0 : Option Addr) (c0_0 : Nat) (l0_0 : List ByteArray) (A0_1 : Option Addr) (c0_1 : Nat) (l0_1 : List ByteArray) (A0_2 : Option Addr) (c0_2 : Nat) (l0_2 : List (S61)) (a0_3 : Int) (a0_4 : Int) (a0_5 : Int) (a0_6 : Int) (r : Bool) (w : World) (hr0_0 : Kd.C Kd.string w A0_0 l0_0.length l0_0) (hc0_0 : l0_0.length ≤ c0_0) (hr0_1 : Kd.C Kd.string w A0_1 l0_1.length l0_1) (hc0_1 : l0_1.length ≤ c0_1) (hr0_2 : Kd.C k61 w A0_2 l0_2.length l0_2) (hc0_2 : l0_2.length ≤ c0_2) (hT : Utf.Tabs2 w) (h : siglumlaw10_PairPrices.f k l0_0 l0_1 l0_2 a0_3 a0_4 a0_5 a0_6 = some r) :
 Calls Tryd.prog 13 #[.agg #[.slice A0_0 l0_0.length c0_0, .slice A0_1 l0_1.length c0_1, .slice A0_2 l0_2.length c0_2, .int .i64 a0_3, .int .i64 a0_4, .int .i64 a0_5, .int .i64 a0_6]] w fun e w' => e = .returned (.bool r) ∧ Below w.heap.size w w' := by
 have hu63 := Tryd.underlying63; have hu23 := Tryd.underlying23; have HR0_0 := Aside0.mk hr0_0; have HC0_0 := Aside0.mk hc0_0; clear hr0_0 hc0_0; have HR0_1 := Aside0.mk hr0_1; have HC0_1 := Aside0.mk hc0_1; clear hr0_1 hc0_1; have HR0_2 := Aside0.mk hr0_2; have HC0_2 := Aside0.mk hc0_2; clear hr0_2 hc0_2; have HT := Aside0.mk hT; clear hT; have HB := Aside0.mk (Below.refl w.heap.size w); have H := h; clear h; unfold siglumlaw10_PairPrices.f at H; replace H := ob H; obtain ⟨tU2, A2, H⟩ := H; (try dsimp only at H)
 by_cases c3 : tU2 = true
 ·subst c3; rw [if_pos rfl] at H; replace H := ob H; obtain ⟨tU3, A4, H⟩ := H; (try dsimp only at H)
  by_cases c5 : tU3 = true
  ·subst c5; rw [if_pos rfl] at H; replace H := ob H; obtain ⟨⟨tU4, tU5⟩, A6, H⟩ := H; (try dsimp only at H); replace H := ob H; obtain ⟨⟨tU6, tU7⟩, A7, H⟩ := H; (try dsimp only at H)
   by_cases c8 : tU4 = tU6
   ·rw [if_pos c8] at H; have c8b0 := beq_iff_eq.mpr c8; have c8b1 := bne_eq_false_iff_eq.mpr c8; clear c8; obtain rfl := Option.some.inj H; go_enter Tryd.func13, Tryd.ntmps13; go_wp2_with (first | ((with_reducible refine gd 1 ?_); refine bz 1 #[.slice A0_0 l0_0.length c0_0, .slice A0_1 l0_1.length c0_1, .slice A0_2 l0_2.length c0_2, .int .i64 a0_3, .int .i64 a0_4, .int .i64 a0_5, .int .i64 a0_6] 63 ?_; clear HB; intro gbU1 w9 BKU1 GWU1 HB; have GEU1 := GWU1) | ((with_reducible refine gc 26 ?_); refine gl 7 Tryd.func26 #[] ?_; (with_reducible refine (siglumlaw10_awake.calls k  true _ ?side1 A2.out).mono ?_); (case side1 => exact Utf.tabs_step2 HT.out bel); rintro e w10 ⟨rfl, hb⟩; refine ⟨_, rfl, ?_⟩; replace BKU1 := bb BKU1 hb; replace HB := bs hb; (try clear hb); obtain ⟨z11_0, z11_1, z11_2, z11_3, z11_4, z11_5, z11_6, f11_0, f11_1, f11_2, f11_3, f11_4, f11_5, f11_6⟩ := cz7 BKU1) | ((with_reducible refine gc 21 ?_); refine gl 13 Tryd.func21 #[.slice A0_0 l0_0.length c0_0, .slice A0_1 l0_1.length c0_1] ?_; (with_reducible refine (siglumref09_Light.calls k _ _ l0_0 _ _ l0_1 true _ ?side1 ?side2 ?side3 ?side4 A4.out).mono ?_); (case side1 => exact cb HR0_0 HB); (case side2 => exact HC0_0.out); (case side3 => exact cb HR0_1 HB); (case side4 => exact HC0_1.out); rintro e w12 ⟨rfl, hb⟩; refine ⟨_, rfl, ?_⟩; replace BKU1 := bb BKU1 hb; replace HB := bs hb; (try clear hb); obtain ⟨z13_0, z13_1, z13_2, z13_3, z13_4, z13_5, z13_6, f13_0, f13_1, f13_2, f13_3, f13_4, f13_5, f13_6⟩ := cz7 BKU1) | ((with_reducible refine gc 32 ?_); refine gl 24 Tryd.func32 #[.slice A0_0 l0_0.length c0_0, .slice A0_1 l0_1.length c0_1, .slice A0_2 l0_2.length c0_2, .agg #[.int .i64 a0_3, .int .i64 a0_4, .int .i64 a0_5, .int .i64 a0_6]] ?_; (with_reducible refine (pair_Price.calls k _ _ l0_0 _ _ l0_1 _ _ l0_2 a0_3 a0_4 a0_5 a0_6 tU4 tU5 _ ?side1 ?side2 ?side3 ?side4 ?side5 ?side6 ?side7 A6.out).mono ?_); (case side1 => exact cb HR0_0 HB); (case side2 => exact HC0_0.out); (case side3 => exact cb HR0_1 HB); (case side4 => exact HC0_1.out); (case side5 => exact cb HR0_2 HB); (case side6 => exact HC0_2.out); (case side7 => exact Utf.tabs_step2 HT.out bel); rintro e w14 ⟨rfl, hb⟩; refine ⟨_, rfl, ?_⟩; replace BKU1 := bb BKU1 hb; replace HB := bs hb; (try clear hb); obtain ⟨z15_0, z15_1, z15_2, z15_3, z15_4, z15_5, z15_6, f15_0, f15_1, f15_2, f15_3, f15_4, f15_5, f15_6⟩ := cz7 BKU1) | ((with_reducible refine gc 33 ?_); refine gl 36 Tryd.func33 #[.slice A0_0 l0_0.length c0_0, .slice A0_1 l0_1.length c0_1, .slice A0_2 l0_2.length c0_2, .agg #[.int .i64 a0_3, .int .i64 a0_4, .int .i64 a0_5, .int .i64 a0_6]] ?_; (with_reducible refine (siglumref10_Price.calls k _ _ l0_0 _ _ l0_1 _ _ l0_2 a0_3 a0_4 a0_5 a0_6 tU6 tU7 _ ?side1 ?side2 ?side3 ?side4 ?side5 ?side6 A7.out).mono ?_); (case side1 => exact cb HR0_0 HB); (case side2 => exact HC0_0.out); (case side3 => exact cb HR0_1 HB); (case side4 => exact HC0_1.out); (case side5 => exact cb HR0_2 HB); (case side6 => exact HC0_2.out); rintro e w16 ⟨rfl, hb⟩; refine ⟨_, rfl, ?_⟩; replace BKU1 := bb BKU1 hb; replace HB := bs hb; (try clear hb)))
    go_ret; exact ⟨fi, bel⟩
   ·rw [if_neg c8] at H; have c8b0 := beq_eq_false_iff_ne.mpr c8; have c8b1 := bne_iff_ne.mpr c8; obtain rfl := Option.some.inj H; go_enter Tryd.func13, Tryd.ntmps13; go_wp2_with (first | ((with_reducible refine gd 1 ?_); refine bz 1 #[.slice A0_0 l0_0.length c0_0, .slice A0_1 l0_1.length c0_1, .slice A0_2 l0_2.length c0_2, .int .i64 a0_3, .int .i64 a0_4, .int .i64 a0_5, .int .i64 a0_6] 63 ?_; clear HB; intro gbU1 w17 BKU1 GWU1 HB; have GEU1 := GWU1) | ((with_reducible refine gc 26 ?_); refine gl 7 Tryd.func26 #[] ?_; (with_reducible refine (siglumlaw10_awake.calls k  true _ ?side1 A2.out).mono ?_); (case side1 => exact Utf.tabs_step2 HT.out bel); rintro e w18 ⟨rfl, hb⟩; refine ⟨_, rfl, ?_⟩; replace BKU1 := bb BKU1 hb; replace HB := bs hb; (try clear hb); obtain ⟨z19_0, z19_1, z19_2, z19_3, z19_4, z19_5, z19_6, f19_0, f19_1, f19_2, f19_3, f19_4, f19_5, f19_6⟩ := cz7 BKU1) | ((with_reducible refine gc 21 ?_); refine gl 13 Tryd.func21 #[.slice A0_0 l0_0.length c0_0, .slice A0_1 l0_1.length c0_1] ?_; (with_reducible refine (siglumref09_Light.calls k _ _ l0_0 _ _ l0_1 true _ ?side1 ?side2 ?side3 ?side4 A4.out).mono ?_); (case side1 => exact cb HR0_0 HB); (case side2 => exact HC0_0.out); (case side3 => exact cb HR0_1 HB); (case side4 => exact HC0_1.out); rintro e w20 ⟨rfl, hb⟩; refine ⟨_, rfl, ?_⟩; replace BKU1 := bb BKU1 hb; replace HB := bs hb; (try clear hb); obtain ⟨z21_0, z21_1, z21_2, z21_3, z21_4, z21_5, z21_6, f21_0, f21_1, f21_2, f21_3, f21_4, f21_5, f21_6⟩ := cz7 BKU1) | ((with_reducible refine gc 32 ?_); refine gl 24 Tryd.func32 #[.slice A0_0 l0_0.length c0_0, .slice A0_1 l0_1.length c0_1, .slice A0_2 l0_2.length c0_2, .agg #[.int .i64 a0_3, .int .i64 a0_4, .int .i64 a0_5, .int .i64 a0_6]] ?_; (with_reducible refine (pair_Price.calls k _ _ l0_0 _ _ l0_1 _ _ l0_2 a0_3 a0_4 a0_5 a0_6 tU4 tU5 _ ?side1 ?side2 ?side3 ?side4 ?side5 ?side6 ?side7 A6.out).mono ?_); (case side1 => exact cb HR0_0 HB); (case side2 => exact HC0_0.out); (case side3 => exact cb HR0_1 HB); (case side4 => exact HC0_1.out); (case side5 => exact cb HR0_2 HB); (case side6 => exact HC0_2.out); (case side7 => exact Utf.tabs_step2 HT.out bel); rintro e w22 ⟨rfl, hb⟩; refine ⟨_, rfl, ?_⟩; replace BKU1 := bb BKU1 hb; replace HB := bs hb; (try clear hb); obtain ⟨z23_0, z23_1, z23_2, z23_3, z23_4, z23_5, z23_6, f23_0, f23_1, f23_2, f23_3, f23_4, f23_5, f23_6⟩ := cz7 BKU1) | ((with_reducible refine gc 33 ?_); refine gl 36 Tryd.func33 #[.slice A0_0 l0_0.length c0_0, .slice A0_1 l0_1.length c0_1, .slice A0_2 l0_2.length c0_2, .agg #[.int .i64 a0_3, .int .i64 a0_4, .int .i64 a0_5, .int .i64 a0_6]] ?_; (with_reducible refine (siglumref10_Price.calls k _ _ l0_0 _ _ l0_1 _ _ l0_2 a0_3 a0_4 a0_5 a0_6 tU6 tU7 _ ?side1 ?side2 ?side3 ?side4 ?side5 ?side6 A7.out).mono ?_); (case side1 => exact cb HR0_0 HB); (case side2 => exact HC0_0.out); (case side3 => exact cb HR0_1 HB); (case side4 => exact HC0_1.out); (case side5 => exact cb HR0_2 HB); (case side6 => exact HC0_2.out); rintro e w24 ⟨rfl, hb⟩; refine ⟨_, rfl, ?_⟩; replace BKU1 := bb BKU1 hb; replace HB := bs hb; (try clear hb)))
    go_ret; exact ⟨fi, bel⟩
  ·replace c5 := Bool.eq_false_iff.mpr c5; subst c5; rw [if_neg nf] at H; obtain rfl := Option.some.inj H; go_enter Tryd.func13, Tryd.ntmps13; go_wp2_with (first | ((with_reducible refine gd 1 ?_); refine bz 1 #[.slice A0_0 l0_0.length c0_0, .slice A0_1 l0_1.length c0_1, .slice A0_2 l0_2.length c0_2, .int .i64 a0_3, .int .i64 a0_4, .int .i64 a0_5, .int .i64 a0_6] 63 ?_; clear HB; intro gbU1 w25 BKU1 GWU1 HB; have GEU1 := GWU1) | ((with_reducible refine gc 26 ?_); refine gl 7 Tryd.func26 #[] ?_; (with_reducible refine (siglumlaw10_awake.calls k  true _ ?side1 A2.out).mono ?_); (case side1 => exact Utf.tabs_step2 HT.out bel); rintro e w26 ⟨rfl, hb⟩; refine ⟨_, rfl, ?_⟩; replace BKU1 := bb BKU1 hb; replace HB := bs hb; (try clear hb); obtain ⟨z27_0, z27_1, z27_2, z27_3, z27_4, z27_5, z27_6, f27_0, f27_1, f27_2, f27_3, f27_4, f27_5, f27_6⟩ := cz7 BKU1) | ((with_reducible refine gc 21 ?_); refine gl 13 Tryd.func21 #[.slice A0_0 l0_0.length c0_0, .slice A0_1 l0_1.length c0_1] ?_; (with_reducible refine (siglumref09_Light.calls k _ _ l0_0 _ _ l0_1 false _ ?side1 ?side2 ?side3 ?side4 A4.out).mono ?_); (case side1 => exact cb HR0_0 HB); (case side2 => exact HC0_0.out); (case side3 => exact cb HR0_1 HB); (case side4 => exact HC0_1.out); rintro e w28 ⟨rfl, hb⟩; refine ⟨_, rfl, ?_⟩; replace BKU1 := bb BKU1 hb; replace HB := bs hb; (try clear hb))); go_ret; exact ⟨fi, bel⟩
 ·replace c3 := Bool.eq_false_iff.mpr c3; subst c3; rw [if_neg nf] at H; obtain rfl := Option.some.inj H; go_enter Tryd.func13, Tryd.ntmps13; go_wp2_with (first | ((with_reducible refine gd 1 ?_); refine bz 1 #[.slice A0_0 l0_0.length c0_0, .slice A0_1 l0_1.length c0_1, .slice A0_2 l0_2.length c0_2, .int .i64 a0_3, .int .i64 a0_4, .int .i64 a0_5, .int .i64 a0_6] 63 ?_; clear HB; intro gbU1 w29 BKU1 GWU1 HB; have GEU1 := GWU1) | ((with_reducible refine gc 26 ?_); refine gl 7 Tryd.func26 #[] ?_; (with_reducible refine (siglumlaw10_awake.calls k  false _ ?side1 A2.out).mono ?_); (case side1 => exact Utf.tabs_step2 HT.out bel); rintro e w30 ⟨rfl, hb⟩; refine ⟨_, rfl, ?_⟩; replace BKU1 := bb BKU1 hb; replace HB := bs hb; (try clear hb))); go_ret; exact ⟨fi, bel⟩
end Go.Proofs.YtcpbalnbgmjhjaaDoor.Q
/-
  Is it an alignment, and what does it cost: the program's answers in plain numbers.
-/
namespace Go.Proofs.YtcpbalnbgmjhjaaDoor.Pure
open Go.RowKit Go.Proofs.YtcpbalnbgmjhjaaDoor.Q Go.Proofs.YtcpbalnbgmjhjaaDoorW.PrintWords Go.Proofs.YtcpbalnbgmjhjaaDoorW.PrintLast Go.Proofs.YtcpbalnbgmjhjaaDoorW.PrintMore
def rightL (n m : Int) : List S61 → Int → Int → Bool
  | [], i, j => decide (i = n ∧ j = m)
  | p :: l, i, j =>
    if p.f0 = i ∧ p.f1 = j ∧ i < n ∧ j < m then rightL n m l (i + 1) (j + 1)
    else if p.f0 = i ∧ p.f1 = -1 ∧ i < n then rightL n m l (i + 1) j
    else if p.f0 = -1 ∧ p.f1 = j ∧ j < m then rightL n m l i (j + 1) else false
theorem rdP_nat (l : List S61) (i : Nat) (h : i < l.length) : rd_T61 l (i : Int) = l[i] := by
  unfold rd_T61; rw [Int.toNat_natCast, List.getD_eq_getElem?_getD, List.getElem?_eq_getElem h]
  rfl
theorem right_loop (n m : Int) (L : List S61) (hL : L.length < 4611686018427387904) : ∀ (d x i j : Nat), x + d = L.length → i ≤ x → j ≤ x →
    Ev (fun k => pair_Right.l0 k n m (i : Int) (j : Int) L (L.length : Int) (x : Int)) (rightL n m (L.drop x) (i : Int) (j : Int)) := by
  intro d
  induction d with
  | zero =>
    intro x i j hd hi hj; rw [List.drop_of_length_le (by omega), rightL]; refine Ev.step (f := fun _ => some (decide ((i : Int) = n ∧ (j : Int) = m))) (fun k => ?_) (Ev.now _); rw [pair_Right.l0, if_neg (by omega)]
    by_cases h : (i : Int) = n
    · rw [if_pos h]
      by_cases h2 : (j : Int) = m
      · rw [beq_iff_eq.2 h2, decide_eq_true ⟨h, h2⟩]
      · rw [beq_eq_false_iff_ne.2 h2, decide_eq_false (fun e => h2 e.2)]
    · rw [if_neg h, decide_eq_false (fun e => h e.1)]
  | succ d IH =>
    intro x i j hd hi hj; have hx : x < L.length := by omega
    rw [List.drop_eq_getElem_cons hx, rightL]; obtain ⟨p0, p1, hp⟩ : ∃ a b, L[x] = ⟨a, b⟩ := ⟨_, _, rfl⟩
    have e0 : rd_T61 L (x : Int) = ⟨p0, p1⟩ := by rw [rdP_nat L x hx, hp]
    rw [hp]; dsimp only; have wi := wsucc i (by omega); have wj := wsucc j (by omega); have wx := wsucc x (by omega); have ci : ((i : Int) + 1) = ((i + 1 : Nat) : Int) := by omega
    have cj : ((j : Int) + 1) = ((j + 1 : Nat) : Int) := by omega
    by_cases h1 : p0 = (i : Int) ∧ p1 = (j : Int) ∧ (i : Int) < n ∧ (j : Int) < m
    · rw [if_pos h1, ci, cj]
      refine Ev.step (f := fun k => pair_Right.j1 k n m (i : Int) (j : Int) L (L.length : Int) (x : Int) true p0 p1) (fun k => by
        rw [pair_Right.l0, if_pos (by omega), if_pos (by omega), if_pos (by omega), e0]; dsimp only; rw [if_pos h1.1, if_pos h1.2.1, if_pos h1.2.2.1, decide_eq_true h1.2.2.2]) ?_
      exact Ev.step (fun k => by rw [pair_Right.j1, if_pos rfl, wi, wj, wx]) (IH (x + 1) (i + 1) (j + 1) (by omega) (by omega) (by omega))
    · rw [if_neg h1]
      refine Ev.step (f := fun k => pair_Right.j1 k n m (i : Int) (j : Int) L (L.length : Int) (x : Int) false p0 p1) (fun k => by
        rw [pair_Right.l0, if_pos (by omega), if_pos (by omega), if_pos (by omega), e0]; dsimp only
        by_cases a1 : p0 = (i : Int)
        · rw [if_pos a1]
          by_cases a2 : p1 = (j : Int)
          · rw [if_pos a2]
            by_cases a3 : (i : Int) < n
            · rw [if_pos a3, decide_eq_false (fun e => h1 ⟨a1, a2, a3, e⟩)]
            · rw [if_neg a3]
          · rw [if_neg a2]
        · rw [if_neg a1]) ?_
      by_cases h2 : p0 = (i : Int) ∧ p1 = -1 ∧ (i : Int) < n
      · rw [if_pos h2, ci]
        refine Ev.step (f := fun k => pair_Right.j2 k n m (i : Int) (j : Int) L (L.length : Int) (x : Int) true p0 p1) (fun k => by
          rw [pair_Right.j1, if_neg (by decide), if_pos h2.1, if_pos h2.2.1, decide_eq_true h2.2.2]) ?_
        exact Ev.step (fun k => by rw [pair_Right.j2, if_pos rfl, wi, wx]) (IH (x + 1) (i + 1) j (by omega) (by omega) (by omega))
      · rw [if_neg h2]
        refine Ev.step (f := fun k => pair_Right.j2 k n m (i : Int) (j : Int) L (L.length : Int) (x : Int) false p0 p1) (fun k => by
          rw [pair_Right.j1, if_neg (by decide)]
          by_cases a1 : p0 = (i : Int)
          · rw [if_pos a1]
            by_cases a2 : p1 = -1
            · rw [if_pos a2, decide_eq_false (fun e => h2 ⟨a1, a2, e⟩)]
            · rw [if_neg a2]
          · rw [if_neg a1]) ?_
        by_cases h3 : p0 = -1 ∧ p1 = (j : Int) ∧ (j : Int) < m
        · rw [if_pos h3, cj]
          exact Ev.step (fun k => by rw [pair_Right.j2, if_neg (by decide), if_pos h3.1, if_pos h3.2.1, if_pos h3.2.2, wj, wx]) (IH (x + 1) i (j + 1) (by omega) (by omega) (by omega))
        · rw [if_neg h3]
          refine Ev.step (f := fun _ => some false) (fun k => ?_) (Ev.now _); rw [pair_Right.j2, if_neg (by decide)]
          by_cases a1 : p0 = -1
          · rw [if_pos a1]
            by_cases a2 : p1 = (j : Int)
            · rw [if_pos a2, if_neg (fun e => h3 ⟨a1, a2, e⟩)]
            · rw [if_neg a2]
          · rw [if_neg a1]
theorem right_eq (n m : Int) (L : List S61) (hL : L.length < 4611686018427387904) : Ev (fun k => pair_Right.f k n m L) (rightL n m L 0 0) :=
  right_loop n m L hL L.length 0 0 0 (by omega) (Nat.le_refl _) (Nat.le_refl _)
theorem rightL_in (N M : Nat) : ∀ (l : List S61) (i j : Nat), i ≤ N → j ≤ M → rightL N M l i j = true → l.length ≤ (N - i) + (M - j) ∧ ∀ p ∈ l, (p.f0 = -1 ∧ 0 ≤ p.f1 ∧ p.f1 < M) ∨ (p.f1 = -1 ∧ 0 ≤ p.f0 ∧ p.f0 < N) ∨ (0 ≤ p.f0 ∧ p.f0 < N ∧ 0 ≤ p.f1 ∧ p.f1 < M) := by
  intro l
  induction l with
  | nil => intro i j hi hj h; exact ⟨Nat.zero_le _, fun p hp => by cases hp⟩
  | cons p l IH =>
    intro i j hi hj h; rw [rightL] at h; have ci : ((i : Int) + 1) = ((i + 1 : Nat) : Int) := by omega
    have cj : ((j : Int) + 1) = ((j + 1 : Nat) : Int) := by omega
    by_cases h1 : p.f0 = (i : Int) ∧ p.f1 = (j : Int) ∧ (i : Int) < N ∧ (j : Int) < M
    · rw [if_pos h1, ci, cj] at h
      obtain ⟨a, b⟩ := IH (i + 1) (j + 1) (by omega) (by omega) h; refine ⟨by rw [List.length_cons]; omega, fun q hq => ?_⟩
      rcases List.mem_cons.1 hq with rfl | hq
      · exact Or.inr (Or.inr ⟨by omega, by omega, by omega, by omega⟩)
      · exact b q hq
    · rw [if_neg h1] at h
      by_cases h2 : p.f0 = (i : Int) ∧ p.f1 = -1 ∧ (i : Int) < N
      · rw [if_pos h2, ci] at h
        obtain ⟨a, b⟩ := IH (i + 1) j (by omega) hj h; refine ⟨by rw [List.length_cons]; omega, fun q hq => ?_⟩
        rcases List.mem_cons.1 hq with rfl | hq
        · exact Or.inr (Or.inl ⟨by omega, by omega, by omega⟩)
        · exact b q hq
      · rw [if_neg h2] at h
        by_cases h3 : p.f0 = -1 ∧ p.f1 = (j : Int) ∧ (j : Int) < M
        · rw [if_pos h3, cj] at h
          obtain ⟨a, b⟩ := IH i (j + 1) hi (by omega) h; refine ⟨by rw [List.length_cons]; omega, fun q hq => ?_⟩
          rcases List.mem_cons.1 hq with rfl | hq
          · exact Or.inl ⟨by omega, by omega, by omega⟩
          · exact b q hq
        · rw [if_neg h3] at h
          cases h
def costP (T : List (List Int)) (g : Int) (p : S61) : Int := if p.f0 < 0 ∨ p.f1 < 0 then g else at2 T p.f0.toNat p.f1.toNat
def costL (T : List (List Int)) (g : Int) : List S61 → Int
  | [] => 0
  | p :: l => costP T g p + costL T g l
section
variable (X Y : List ByteArray) (g n f o : Int) (hg : 1 ≤ g ∧ g ≤ 1000) (hn : 1 ≤ n ∧ n ≤ 1000) (hf : 1 ≤ f ∧ f ≤ 1000) (hX : X.length ≤ 1024) (hY : Y.length ≤ 1024)
include hg hn hf
theorem costP_range (p : S61) (hp : (p.f0 = -1 ∧ 0 ≤ p.f1 ∧ p.f1 < Y.length) ∨ (p.f1 = -1 ∧ 0 ≤ p.f0 ∧ p.f0 < X.length) ∨ (0 ≤ p.f0 ∧ p.f0 < X.length ∧ 0 ≤ p.f1 ∧ p.f1 < Y.length)) : 0 ≤ costP (gridP X Y n f o) g p ∧ costP (gridP X Y n f o) g p ≤ 1000 := by
  unfold costP
  by_cases h : p.f0 < 0 ∨ p.f1 < 0
  · rw [if_pos h]; omega
  · rw [if_neg h, grid_at X Y n f o _ _ (by omega) (by omega)]
    exact wO_range n f o hn.1 hf _ _
theorem price_loop (L : List S61) (hL : L.length ≤ 4096) (hin : ∀ p ∈ L, (p.f0 = -1 ∧ 0 ≤ p.f1 ∧ p.f1 < Y.length) ∨ (p.f1 = -1 ∧ 0 ≤ p.f0 ∧ p.f0 < X.length) ∨ (0 ≤ p.f0 ∧ p.f0 < X.length ∧ 0 ≤ p.f1 ∧ p.f1 < Y.length)) : ∀ (d x : Nat) (s : Int), x + d = L.length → 0 ≤ s ∧ s ≤ 1000 * x →
    Ev (fun k => pair_Price.l0 k (gridP X Y n f o) s L (L.length : Int) (x : Int) g n f o) (s + costL (gridP X Y n f o) g (L.drop x), 0) := by
  intro d
  induction d with
  | zero =>
    intro x s hd hs; rw [List.drop_of_length_le (by omega), costL, Int.add_zero]; exact Ev.step (f := fun _ => some (s, 0)) (fun k => by rw [pair_Price.l0, if_neg (by omega)]) (Ev.now _)
  | succ d IH =>
    intro x s hd hs; have hx : x < L.length := by omega
    have hpi := hin L[x] (List.getElem_mem hx); have hr := costP_range X Y g n f o hg hn hf L[x] hpi; rw [List.drop_eq_getElem_cons hx, costL, ← Int.add_assoc]; have e0 : rd_T61 L (x : Int) = L[x] := rdP_nat L x hx; have wx := wsucc x (by omega); have eG := grid_len X Y n f o; generalize hGd : gridP X Y n f o = G at hr eG IH ⊢; refine Ev.step (fun k => ?_) (IH (x + 1) (s + costP G g L[x]) (by omega) (by omega)); rw [pair_Price.l0, if_pos (by omega), if_pos (by omega), if_pos (by omega), e0, wx]; unfold costP at hr ⊢
    by_cases h1 : L[x].f0 < 0
    · rw [if_pos (Or.inl h1)] at hr ⊢
      rw [if_pos h1, ws (s + g) (by omega) (by omega)]
    · rw [if_neg h1]
      by_cases h2 : L[x].f1 < 0
      · rw [if_pos (Or.inr h2)] at hr ⊢
        rw [if_pos h2, ws (s + g) (by omega) (by omega)]
      · have h3 : ¬ (L[x].f0 < 0 ∨ L[x].f1 < 0) := fun e => e.elim h1 h2
        rw [if_neg h3] at hr ⊢
        have el : (rd_L11 G L[x].f0).length = Y.length := by
          have := grid_rlen X Y n f o L[x].f0.toNat (by omega); rw [hGd] at this; exact this
        have ev : rd (rd_L11 G L[x].f0) L[x].f1 = at2 G L[x].f0.toNat L[x].f1.toNat := rfl; generalize at2 G L[x].f0.toNat L[x].f1.toNat = v at hr ev ⊢; rw [if_neg h2, if_pos (by omega), if_pos (by omega), if_pos (by omega), if_pos (by omega), ev, ws (s + v) (by omega) (by omega)]
end
def priceR (X Y : List ByteArray) (L : List S61) (g n f o : Int) : Int × Int := if (gridR X Y g n f o).2 = 0 then (if rightL X.length Y.length L 0 0 = true then (costL (gridP X Y n f o) g L, 0) else (0, 2)) else (0, (gridR X Y g n f o).2)
theorem price_eq (X Y : List ByteArray) (hX : smallL X) (hY : smallL Y) (L : List S61) (hL : L.length < 4611686018427387904) (g n f o : Int) : Ev (fun k => pair_Price.f k X Y L g n f o) (priceR X Y L g n f o) := by
  unfold priceR; refine ev_bind (grid_eq X Y hX hY g n f o) ?_
  by_cases h : (gridR X Y g n f o).2 = 0
  · obtain ⟨e, hs, l1, l2⟩ := gridR_ok h
    unfold scaleOk at hs; rw [if_pos h, e]; refine Ev.congr (fun k => by rw [if_pos rfl]) (ev_bind (right_eq X.length Y.length L hL) ?_)
    by_cases hr : rightL X.length Y.length L 0 0 = true
    · rw [if_pos hr]
      obtain ⟨a, b⟩ := rightL_in X.length Y.length L 0 0 (Nat.zero_le _) (Nat.zero_le _) hr; have := price_loop X Y g n f o hs.1 hs.2.1 hs.2.2.1 L (by omega) b L.length 0 0 (by omega) (by omega); rw [Int.zero_add] at this; exact Ev.congr (fun k => by rw [if_pos hr]; rfl) this
    · rw [if_neg hr]
      exact Ev.congr (fun k => by rw [if_neg hr]) (Ev.now _)
  · rw [if_neg h]
    exact Ev.congr (fun k => by rw [if_neg h]) (Ev.now _)
end Go.Proofs.YtcpbalnbgmjhjaaDoor.Pure
/-
  What an alignment's walk gives: it is an alignment, it costs the least price; the law's first words.
-/
namespace Go.Proofs.YtcpbalnbgmjhjaaDoor.Pure
open Go.RowKit Go.Proofs.YtcpbalnbgmjhjaaDoor.Q Go.Proofs.YtcpbalnbgmjhjaaDoorW.PrintWords Go.Proofs.YtcpbalnbgmjhjaaDoorW.PrintLast Go.Proofs.YtcpbalnbgmjhjaaDoorW.PrintMore
theorem smallSum (L : List ByteArray) (h : (L.map fun y => (y.size + 1)).sum ≤ 1048576) : smallL L := by
  intro s hs
  have : ∀ (L : List ByteArray), s ∈ L → s.size + 1 ≤ (L.map fun y => (y.size + 1)).sum := by
    intro L
    induction L with
    | nil => intro h; cases h
    | cons y L ih =>
      intro h; rw [List.map_cons, List.sum_cons]
      rcases List.mem_cons.1 h with rfl | h
      · omega
      · have := ih h; omega
  have := this L hs
  omega
section
variable {α : Type} (w : α → α → Int) (gap : Int)
end
def the_ : ByteArray := ⟨#[116, 104, 101]⟩
def cat_ : ByteArray := ⟨#[99, 97, 116]⟩
def old_ : ByteArray := ⟨#[111, 108, 100]⟩
theorem aw10_w : wO 1 3 0 the_ the_ = 0 ∧ wO 1 3 0 the_ old_ = 3 ∧ wO 1 3 0 the_ cat_ = 3 ∧ wO 1 3 0 cat_ the_ = 3 ∧ wO 1 3 0 cat_ old_ = 3 ∧ wO 1 3 0 cat_ cat_ = 0 := by decide +kernel
theorem aw10_long : ¬ longL [the_, cat_] 0 ∧ ¬ longL [the_, old_, cat_] 0 := by decide +kernel
theorem aw10_path : pL (wO 1 3 0) 2 [the_, cat_] [the_, old_, cat_] 0 0 = [⟨0, 0⟩, ⟨-1, 1⟩, ⟨1, 2⟩] ∧ dL (wO 1 3 0) 2 [the_, cat_] [the_, old_, cat_] = 2 := by
  obtain ⟨h1, h2, h3, h4, h5, h6⟩ := aw10_w
  constructor
  · simp [pL, dL_cons, dL_nil, dL_nil', h1, h2, h3, h4, h5, h6, Int.min_def]
  · simp [dL_cons, dL_nil, dL_nil', h1, h2, h3, h4, h5, h6, Int.min_def]
theorem awake10 : Ev (fun k => siglumlaw10_awake.f k) true := by
  have hs1 : smallL [the_, cat_] := by intro s h; simp at h; rcases h with rfl | rfl <;> decide
  have hs2 : smallL [the_, old_, cat_] := by intro s h; simp at h; rcases h with rfl | rfl | rfl <;> decide
  have e : alignR [the_, cat_] [the_, old_, cat_] 2 1 3 0 = ([⟨0, 0⟩, ⟨-1, 1⟩, ⟨1, 2⟩], 2, 0) := by
    have hg : gridR [the_, cat_] [the_, old_, cat_] 2 1 3 0 = (gridP [the_, cat_] [the_, old_, cat_] 1 3 0, 0) := by
      unfold gridR; rw [if_pos (by decide), if_neg (fun h => h.elim aw10_long.1 aw10_long.2)]
    unfold alignR; rw [hg, if_pos rfl, aw10_path.1, aw10_path.2]
  have := align_eq [the_, cat_] [the_, old_, cat_] hs1 hs2 2 1 3 0; rw [e] at this; exact ev_bind (g := fun k => pair_Align.f k [the_, cat_] [the_, old_, cat_] 2 1 3 0) this (Ev.now _)
end Go.Proofs.YtcpbalnbgmjhjaaDoor.Pure
/-
  PairRights: the document's Right, in plain numbers, is the program's.
-/
namespace Go.Proofs.YtcpbalnbgmjhjaaDoor.Pure
open Go.RowKit Go.Proofs.YtcpbalnbgmjhjaaDoor.Q Go.Proofs.YtcpbalnbgmjhjaaDoorW.PrintWords Go.Proofs.YtcpbalnbgmjhjaaDoorW.PrintLast Go.Proofs.YtcpbalnbgmjhjaaDoorW.PrintMore
theorem refright_loop (n m : Int) (L : List S61) (hL : L.length < 4611686018427387904) : ∀ (d x i j : Nat), x + d = L.length → i ≤ x → j ≤ x →
    Ev (fun k => siglumref10_Right.l0 k n m L (i : Int) (j : Int) (x : Int)) (rightL n m (L.drop x) (i : Int) (j : Int)) := by
  intro d
  induction d with
  | zero =>
    intro x i j hd hi hj; rw [List.drop_of_length_le (by omega), rightL]; refine Ev.step (f := fun _ => some (decide ((i : Int) = n ∧ (j : Int) = m))) (fun k => ?_) (Ev.now _); rw [siglumref10_Right.l0, if_neg (by omega)]
    by_cases h : (i : Int) = n
    · rw [if_pos h]
      by_cases h2 : (j : Int) = m
      · rw [beq_iff_eq.2 h2, decide_eq_true ⟨h, h2⟩]
      · rw [beq_eq_false_iff_ne.2 h2, decide_eq_false (fun e => h2 e.2)]
    · rw [if_neg h, decide_eq_false (fun e => h e.1)]
  | succ d IH =>
    intro x i j hd hi hj; have hx : x < L.length := by omega
    rw [List.drop_eq_getElem_cons hx, rightL]; obtain ⟨p0, p1, hp⟩ : ∃ a b, L[x] = ⟨a, b⟩ := ⟨_, _, rfl⟩
    have e0 : rd_T61 L (x : Int) = ⟨p0, p1⟩ := by rw [rdP_nat L x hx, hp]
    rw [hp]; dsimp only; have wi := wsucc i (by omega); have wj := wsucc j (by omega); have wx := wsucc x (by omega); have ci : ((i : Int) + 1) = ((i + 1 : Nat) : Int) := by omega
    have cj : ((j : Int) + 1) = ((j + 1 : Nat) : Int) := by omega
    have stepT : ∀ r, Ev (fun k => siglumref10_Right.j2 k n m L (i : Int) (j : Int) (x : Int) (p0 == -1 && p1 == -1) p0 p1) r → Ev (fun k => siglumref10_Right.l0 k n m L (i : Int) (j : Int) (x : Int)) r := fun r h => by
      refine Ev.step (fun k => ?_) h; rw [siglumref10_Right.l0, if_pos (by omega), if_pos (by omega), e0]; dsimp only
      by_cases a : p0 = -1
      · rw [if_pos a, beq_iff_eq.2 a, Bool.true_and]
      · rw [if_neg a, beq_eq_false_iff_ne.2 a, Bool.false_and]
    refine stepT _ ?_
    by_cases a : p0 = -1
    · by_cases b : p1 = -1
      · rw [if_neg (by omega), if_neg (by omega), if_neg (by omega), beq_iff_eq.2 a, beq_iff_eq.2 b]
        exact Ev.step (f := fun _ => some false) (fun k => by rw [siglumref10_Right.j2, if_pos (by decide)]) (Ev.now _)
      · have bb : (p0 == -1 && p1 == -1) = false := by rw [beq_eq_false_iff_ne.2 b, Bool.and_false]
        rw [if_neg (by omega), if_neg (by omega), bb]; refine Ev.step (fun k => by rw [siglumref10_Right.j2, if_neg (by decide), if_pos a]) ?_
        by_cases c : p1 = (j : Int) ∧ (j : Int) < m
        · rw [if_pos ⟨a, c.1, c.2⟩, cj]
          exact Ev.step (fun k => by rw [siglumref10_Right.j3, if_neg b, if_pos c.1, if_neg (by omega), wj, wx]) (IH (x + 1) i (j + 1) (by omega) (by omega) (by omega))
        · rw [if_neg (fun h => c ⟨h.2.1, h.2.2⟩)]
          refine Ev.step (f := fun _ => some false) (fun k => ?_) (Ev.now _); rw [siglumref10_Right.j3, if_neg b]
          by_cases c1 : p1 = (j : Int)
          · rw [if_pos c1, if_pos (by omega)]
          · rw [if_neg c1]
    · have bb : (p0 == -1 && p1 == -1) = false := by rw [beq_eq_false_iff_ne.2 a, Bool.false_and]
      rw [bb]
      by_cases c : p0 = (i : Int) ∧ (i : Int) < n
      · refine Ev.step (f := fun k => siglumref10_Right.j3 k n m L ((i + 1 : Nat) : Int) (j : Int) (x : Int) p0 p1) (fun k => by rw [siglumref10_Right.j2, if_neg (by decide), if_neg a, if_pos c.1, if_neg (by omega), wi]) ?_
        by_cases b : p1 = -1
        · rw [if_neg (by omega), if_pos ⟨c.1, b, c.2⟩, ci]
          exact Ev.step (fun k => by rw [siglumref10_Right.j3, if_pos b, wx]) (IH (x + 1) (i + 1) j (by omega) (by omega) (by omega))
        · by_cases e : p1 = (j : Int) ∧ (j : Int) < m
          · rw [if_pos ⟨c.1, e.1, c.2, e.2⟩, ci, cj]
            exact Ev.step (fun k => by rw [siglumref10_Right.j3, if_neg b, if_pos e.1, if_neg (by omega), wj, wx]) (IH (x + 1) (i + 1) (j + 1) (by omega) (by omega) (by omega))
          · rw [if_neg (fun h => e ⟨h.2.1, h.2.2.2⟩), if_neg (fun h => b h.2.1), if_neg (fun h => a h.1)]
            refine Ev.step (f := fun _ => some false) (fun k => ?_) (Ev.now _); rw [siglumref10_Right.j3, if_neg b]
            by_cases e1 : p1 = (j : Int)
            · rw [if_pos e1, if_pos (by omega)]
            · rw [if_neg e1]
      · rw [if_neg (fun h => c ⟨h.1, h.2.2.1⟩), if_neg (fun h => c ⟨h.1, h.2.2⟩), if_neg (fun h => a h.1)]
        refine Ev.step (f := fun _ => some false) (fun k => ?_) (Ev.now _); rw [siglumref10_Right.j2, if_neg (by decide), if_neg a]
        by_cases c1 : p0 = (i : Int)
        · rw [if_pos c1, if_pos (by omega)]
        · rw [if_neg c1]
theorem rightL_neg (n m : Int) (h : n < 0 ∨ m < 0) : ∀ (l : List S61) (i j : Int), 0 ≤ i → 0 ≤ j → rightL n m l i j = false := by
  intro l
  induction l with
  | nil => intro i j hi hj; rw [rightL]; exact decide_eq_false (by omega)
  | cons p l IH =>
    intro i j hi hj; rw [rightL]
    by_cases h1 : p.f0 = i ∧ p.f1 = j ∧ i < n ∧ j < m
    · rw [if_pos h1]; exact IH _ _ (by omega) (by omega)
    · rw [if_neg h1]
      by_cases h2 : p.f0 = i ∧ p.f1 = -1 ∧ i < n
      · rw [if_pos h2]; exact IH _ _ (by omega) (by omega)
      · rw [if_neg h2]
        by_cases h3 : p.f0 = -1 ∧ p.f1 = j ∧ j < m
        · rw [if_pos h3]; exact IH _ _ (by omega) (by omega)
        · rw [if_neg h3]
theorem refright_eq (n m : Int) (L : List S61) (hL : L.length < 4611686018427387904) : Ev (fun k => siglumref10_Right.f k n m L) (rightL n m L 0 0) := by
  have hj : Ev (fun k => siglumref10_Right.j0 k n m L true) false := Ev.step (f := fun _ => some false) (fun k => by rw [siglumref10_Right.j0, if_pos rfl]) (Ev.now _)
  by_cases h1 : n < 0
  · rw [rightL_neg n m (Or.inl h1) L 0 0 (by omega) (by omega)]
    exact Ev.congr (fun k => by unfold siglumref10_Right.f; rw [if_pos h1]) hj
  · by_cases h2 : m < 0
    · rw [rightL_neg n m (Or.inr h2) L 0 0 (by omega) (by omega)]
      exact Ev.congr (fun k => by unfold siglumref10_Right.f; rw [if_neg h1, decide_eq_true h2]) hj
    · refine Ev.congr (f := fun k => siglumref10_Right.j0 k n m L false) (fun k => by unfold siglumref10_Right.f; rw [if_neg h1, decide_eq_false h2]) ?_
      exact Ev.step (fun k => by rw [siglumref10_Right.j0, if_neg (by decide)]; rfl) (refright_loop n m L hL L.length 0 0 0 (by omega) (Nat.le_refl _) (Nat.le_refl _))
end Go.Proofs.YtcpbalnbgmjhjaaDoor.Pure
namespace Go.Proofs.YtcpbalnbgmjhjaaDoor.Q
open Go.RowKit Go.Proofs.YtcpbalnbgmjhjaaDoorW.PrintWords Go.Proofs.YtcpbalnbgmjhjaaDoorW.PrintLast Go.Proofs.YtcpbalnbgmjhjaaDoorW.PrintMore
attribute [local go_sem] min2_int min_two min_three
set_option linter.unusedVariables false
set_option linter.unusedSimpArgs false
mutual
def siglumref10_Rests.l0 : Nat → List (List Int) → Int → Int → Int → List (List Int) → Int → Option ((List (List Int)))
 | 0, _, _, _, _, _, _ => none
 | k + 1, x0, x1, x2, x3, x9, x10 => if x10 ≥ 0 then (if 0 ≤ (wrap64 (x2 + 1)) then (if (wrap64 (x2 + 1) : Int).toNat ≤ 35184372088832 then (if 0 ≤ x10 then (if x10 < (x9.length : Int) then (siglumref10_Rests.l1 k x0 x1 x2 x3 (x9.set (x10 : Int).toNat (List.replicate (wrap64 (x2 + 1) : Int).toNat 0)) x10 x2) else (none)) else (none)) else (none)) else (none)) else (some x9)
def siglumref10_Rests.l1 : Nat → List (List Int) → Int → Int → Int → List (List Int) → Int → Int → Option ((List (List Int)))
 | 0, _, _, _, _, _, _, _ => none
 | k + 1, x0, x1, x2, x3, x9, x10, x11 => if x11 ≥ 0 then (if x10 = x1 then (if 0 ≤ x10 then (if x10 < (x9.length : Int) then (if 0 ≤ x11 then (if x11 < ((rd_L11 x9 x10).length : Int) then (siglumref10_Rests.l1 k x0 x1 x2 x3 (x9.set (x10 : Int).toNat ((rd_L11 x9 x10).set (x11 : Int).toNat (wrap64 ((wrap64 (x2 - x11)) * x3)))) x10 (wrap64 (x11 - 1))) else (none)) else (none)) else (none)) else (none)) else (if x11 = x2 then (if 0 ≤ x10 then (if x10 < (x9.length : Int) then (if 0 ≤ x11 then (if x11 < ((rd_L11 x9 x10).length : Int) then (siglumref10_Rests.l1 k x0 x1 x2 x3 (x9.set (x10 : Int).toNat ((rd_L11 x9 x10).set (x11 : Int).toNat (wrap64 ((wrap64 (x1 - x10)) * x3)))) x10 (wrap64 (x11 - 1))) else (none)) else (none)) else (none)) else (none)) else (if 0 ≤ x10 then (if x10 < (x9.length : Int) then (if 0 ≤ (wrap64 (x10 + 1)) then (if (wrap64 (x10 + 1)) < (x9.length : Int) then (if 0 ≤ (wrap64 (x11 + 1)) then (if (wrap64 (x11 + 1)) < ((rd_L11 x9 (wrap64 (x10 + 1))).length : Int) then (if x10 < (x0.length : Int) then (if 0 ≤ x11 then (if x11 < ((rd_L11 x0 x10).length : Int) then (if x11 < ((rd_L11 x9 (wrap64 (x10 + 1))).length : Int) then (if (wrap64 (x11 + 1)) < ((rd_L11 x9 x10).length : Int) then (if x11 < ((rd_L11 x9 x10).length : Int) then (siglumref10_Rests.l1 k x0 x1 x2 x3 (x9.set (x10 : Int).toNat ((rd_L11 x9 x10).set (x11 : Int).toNat (mn (mn (wrap64 ((rd (rd_L11 x9 (wrap64 (x10 + 1))) (wrap64 (x11 + 1))) + (rd (rd_L11 x0 x10) x11))) (wrap64 ((rd (rd_L11 x9 (wrap64 (x10 + 1))) x11) + x3))) (wrap64 ((rd (rd_L11 x9 x10) (wrap64 (x11 + 1))) + x3))))) x10 (wrap64 (x11 - 1))) else (none)) else (none)) else (none)) else (none)) else (none)) else (none)) else (none)) else (none)) else (none)) else (none)) else (none)) else (none)))) else (siglumref10_Rests.l0 k x0 x1 x2 x3 x9 (wrap64 (x10 - 1)))
end
def siglumref10_Rests.f (k : Nat) (l0 : List (List Int)) (a1 : Int) (a2 : Int) (a3 : Int) : Option ((List (List Int))) := if 0 ≤ (wrap64 (a1 + 1)) then (if (wrap64 (a1 + 1) : Int).toNat ≤ 11728124029610 then (siglumref10_Rests.l0 k l0 a1 a2 a3 (List.replicate (wrap64 (a1 + 1) : Int).toNat []) a1) else (none)) else (none)
def siglumref10_Rests.T9 : Bool × List (List Nat × List Nat) := (true,[([],[]),([],[]),([0,1],[0,1]),([2],[2]),([],[]),([],[]),([],[]),([6],[6]),([5,7],[5,7]),([8],[8]),([],[]),([10],[10]),([9,11],[9,11]),([12],[12]),([],[]),([],[]),([14,15],[14,15]),([16],[16]),([],[]),([17,18],[17,18]),([19],[19]),([13,20],[13,20]),([],[]),([],[]),([23],[23]),([22,24],[22,24]),([25],[25]),([],[]),([26,27],[26,27]),([28],[28]),([],[]),([29,30],[29,30]),([],[]),([],[]),([32,33],[32,33]),([34],[34]),([],[]),([36],[36]),([35,37],[35,37]),([38],[38]),([],[]),([39,40],[39,40]),([21,31,41],[21,31,41]),([3,4,0,1,2,3,4,5,6,7,8,9,10,11,12,13,14,15,16,17,18,19,20,21,22,23,24,25,26,27,28,29,30,31,32,33,34,35,36,37,38,39,40,41,42],[3,4]),([43,42,0,1,2,3,4,5,6,7,8,9,10,11,12,13,14,15,16,17,18,19,20,21,22,23,24,25,26,27,28,29,30,31,32,33,34,35,36,37,38,39,40,41,42],[42,43])])
def siglumref10_Rests.B9 : List Nat := [0,0,3,7,0,0,0,64,224,480,0,1024,4064,8160,0,0,49152,114688,0,507904,1032192,2097120,0,0,8388608,29360128,62914560,0,264241152,532676608,0,2143289344,0,0,12884901888,30064771072,0,68719476736,270582939648,545460846592,0,2194728288256,4398046511072,8796093022207,17592186044415]
mutual
def siglumref10_Walk.l0 : Nat → List (List Int) → Int → Int → Int → List (List Int) → List (S61) → Int → Int → Option ((List (S61)) × Int)
  | 0, _, _, _, _, _, _, _, _ => none
  | k + 1, x0, x1, x2, x3, x10, x11, x12, x13 => if x12 < x1 then (siglumref10_Walk.j1 k x0 x1 x2 x3 x10 x11 x12 x13 true) else (siglumref10_Walk.j1 k x0 x1 x2 x3 x10 x11 x12 x13 (decide (x13 < x2)))
def siglumref10_Walk.j1 : Nat → List (List Int) → Int → Int → Int → List (List Int) → List (S61) → Int → Int → Bool → Option ((List (S61)) × Int)
  | 0, _, _, _, _, _, _, _, _, _ => none
  | k + 1, x0, x1, x2, x3, x10, x11, x12, x13, x26 => if x26 = true then (if x12 < x1 then (if x13 < x2 then (if 0 ≤ x12 then (if x12 < (x10.length : Int) then (if 0 ≤ x13 then (if x13 < ((rd_L11 x10 x12).length : Int) then (if 0 ≤ (wrap64 (x12 + 1)) then (if (wrap64 (x12 + 1)) < (x10.length : Int) then (if 0 ≤ (wrap64 (x13 + 1)) then (if (wrap64 (x13 + 1)) < ((rd_L11 x10 (wrap64 (x12 + 1))).length : Int) then (if x12 < (x0.length : Int) then (if x13 < ((rd_L11 x0 x12).length : Int) then (siglumref10_Walk.j2 k x0 x1 x2 x3 x10 x11 x12 x13 ((rd (rd_L11 x10 x12) x13) == (wrap64 ((rd (rd_L11 x10 (wrap64 (x12 + 1))) (wrap64 (x13 + 1))) + (rd (rd_L11 x0 x12) x13))))) else (none)) else (none)) else (none)) else (none)) else (none)) else (none)) else (none)) else (none)) else (none)) else (none)) else (siglumref10_Walk.j2 k x0 x1 x2 x3 x10 x11 x12 x13 false)) else (siglumref10_Walk.j2 k x0 x1 x2 x3 x10 x11 x12 x13 false)) else (if 0 < (x10.length : Int) then (if 0 < ((rd_L11 x10 0).length : Int) then (some (x11, rd (rd_L11 x10 0) 0)) else (none)) else (none))
def siglumref10_Walk.j2 : Nat → List (List Int) → Int → Int → Int → List (List Int) → List (S61) → Int → Int → Bool → Option ((List (S61)) × Int)
  | 0, _, _, _, _, _, _, _, _, _ => none
  | k + 1, x0, x1, x2, x3, x10, x11, x12, x13, x34 => if x34 = true then (if x11.length < 8796093022208 then (siglumref10_Walk.l0 k x0 x1 x2 x3 x10 (x11 ++ [(⟨x12, x13⟩ : S61)]) (wrap64 (x12 + 1)) (wrap64 (x13 + 1))) else (none)) else (if x12 < x1 then (if 0 ≤ x12 then (if x12 < (x10.length : Int) then (if 0 ≤ x13 then (if x13 < ((rd_L11 x10 x12).length : Int) then (if 0 ≤ (wrap64 (x12 + 1)) then (if (wrap64 (x12 + 1)) < (x10.length : Int) then (if x13 < ((rd_L11 x10 (wrap64 (x12 + 1))).length : Int) then (if (rd (rd_L11 x10 x12) x13) = (wrap64 ((rd (rd_L11 x10 (wrap64 (x12 + 1))) x13) + x3)) then (if x11.length < 8796093022208 then (siglumref10_Walk.l0 k x0 x1 x2 x3 x10 (x11 ++ [(⟨x12, (-1)⟩ : S61)]) (wrap64 (x12 + 1)) x13) else (none)) else (if x11.length < 8796093022208 then (siglumref10_Walk.l0 k x0 x1 x2 x3 x10 (x11 ++ [(⟨(-1), x13⟩ : S61)]) x12 (wrap64 (x13 + 1))) else (none))) else (none)) else (none)) else (none)) else (none)) else (none)) else (none)) else (none)) else (if x11.length < 8796093022208 then (siglumref10_Walk.l0 k x0 x1 x2 x3 x10 (x11 ++ [(⟨(-1), x13⟩ : S61)]) x12 (wrap64 (x13 + 1))) else (none)))
end
def siglumref10_Walk.f (k : Nat) (l0 : List (List Int)) (a1 : Int) (a2 : Int) (a3 : Int) : Option ((List (S61)) × Int) := (siglumref10_Rests.f k l0 a1 a2 a3).bind fun tU1 => (siglumref10_Walk.l0 k l0 a1 a2 a3 tU1 ([] : List (S61)) 0 0)
def siglumref10_Align.f (k : Nat) (l0 : List ByteArray) (l1 : List ByteArray) (a2_0 : Int) (a2_1 : Int) (a2_2 : Int) (a2_3 : Int) : Option ((List (S61)) × Int × Int) := (siglumref09_Grid.f k l0 l1 a2_0 a2_1 a2_2 a2_3).bind fun btU2 => (if btU2.2 = 0 then ((siglumref10_Walk.f k btU2.1 (l0.length : Int) (l1.length : Int) a2_0).bind fun btU6 => (some (btU6.1, btU6.2, 0))) else (some (([] : List (S61)), 0, btU2.2)))
end Go.Proofs.YtcpbalnbgmjhjaaDoor.Q
namespace Go.Proofs.YtcpbalnbgmjhjaaDoor.Q
open Go.RowKit Go.Proofs.YtcpbalnbgmjhjaaDoorW.PrintWords Go.Proofs.YtcpbalnbgmjhjaaDoorW.PrintLast Go.Proofs.YtcpbalnbgmjhjaaDoorW.PrintMore
attribute [local go_sem] min2_int min_two min_three
set_option linter.unusedVariables false
set_option linter.unusedSimpArgs false
attribute [local go_sem high] eqA61
def siglumref10_Same.l0 : Nat → List (S61) → List (S61) → Int → Option (Bool)
  | 0, _, _, _ => none
  | k + 1, x0, x1, x5 => if x5 < (x0.length : Int) then (if 0 ≤ x5 then (if x5 < (x1.length : Int) then (if (!(((rd_T61 x0 x5).f0) == ((rd_T61 x1 x5).f0)) || (!(((rd_T61 x0 x5).f1) == ((rd_T61 x1 x5).f1)))) = true then (some false) else (siglumref10_Same.l0 k x0 x1 (wrap64 (x5 + 1)))) else (none)) else (none)) else (some true)
def siglumref10_Same.f (k : Nat) (l0 : List (S61)) (l1 : List (S61)) : Option (Bool) := if (l0.length : Int) = (l1.length : Int) then (siglumref10_Same.l0 k l0 l1 0) else (some false)
end Go.Proofs.YtcpbalnbgmjhjaaDoor.Q
/-
  The document's answers about two lists of words, in plain numbers: the grid, the least prices, the alignment, the price.
-/
namespace Go.Proofs.YtcpbalnbgmjhjaaDoor.Pure
open Go.RowKit Go.Proofs.YtcpbalnbgmjhjaaDoor.Q Go.Proofs.YtcpbalnbgmjhjaaDoorW.PrintWords Go.Proofs.YtcpbalnbgmjhjaaDoorW.PrintLast Go.Proofs.YtcpbalnbgmjhjaaDoorW.PrintMore
structure okD (X Y : List ByteArray) (g n f o : Int) (T : List (List Int)) (i j0 : Nat) : Prop where
  len : T.length = X.length + 1
  lens : ∀ p, i ≤ p → p ≤ X.length → (T.getD p []).length = Y.length + 1
  here : ∀ p q, p ≤ X.length → q ≤ Y.length → (i < p ∨ (i = p ∧ j0 ≤ q)) → at2 T p q = dR (wO n f o) g X Y p q
def tabD (X Y : List ByteArray) (g n f o : Int) : List (List Int) := (List.range (X.length + 1)).map fun p => (List.range (Y.length + 1)).map fun q => dR (wO n f o) g X Y p q
section
variable (X Y : List ByteArray) (g n f o : Int) (hg : 1 ≤ g ∧ g ≤ 1000) (hn : 1 ≤ n ∧ n ≤ 1000) (hf : 1 ≤ f ∧ f ≤ 1000) (hX : X.length ≤ 1024) (hY : Y.length ≤ 1024)
include hX hY hg hn hf
end
end Go.Proofs.YtcpbalnbgmjhjaaDoor.Pure
/-
  The document's price of an alignment is the program's.
-/
namespace Go.Proofs.YtcpbalnbgmjhjaaDoor.Pure
open Go.RowKit Go.Proofs.YtcpbalnbgmjhjaaDoor.Q Go.Proofs.YtcpbalnbgmjhjaaDoorW.PrintWords Go.Proofs.YtcpbalnbgmjhjaaDoorW.PrintLast Go.Proofs.YtcpbalnbgmjhjaaDoorW.PrintMore
section
variable (X Y : List ByteArray) (g n f o : Int) (hg : 1 ≤ g ∧ g ≤ 1000) (hn : 1 ≤ n ∧ n ≤ 1000) (hf : 1 ≤ f ∧ f ≤ 1000) (hX : X.length ≤ 1024) (hY : Y.length ≤ 1024)
include hg hn hf
theorem refprice_loop (L : List S61) (hL : L.length ≤ 4096) (hin : ∀ p ∈ L, (p.f0 = -1 ∧ 0 ≤ p.f1 ∧ p.f1 < Y.length) ∨ (p.f1 = -1 ∧ 0 ≤ p.f0 ∧ p.f0 < X.length) ∨ (0 ≤ p.f0 ∧ p.f0 < X.length ∧ 0 ≤ p.f1 ∧ p.f1 < Y.length)) : ∀ (d x : Nat) (s : Int), x + d = L.length → 0 ≤ s ∧ s ≤ 1000 * x →
    Ev (fun k => siglumref10_Price.l0 k L (gridP X Y n f o) s (x : Int) g n f o) (s + costL (gridP X Y n f o) g (L.drop x), 0) := by
  intro d
  induction d with
  | zero =>
    intro x s hd hs; rw [List.drop_of_length_le (by omega), costL, Int.add_zero]; exact Ev.step (f := fun _ => some (s, 0)) (fun k => by rw [siglumref10_Price.l0, if_neg (by omega)]) (Ev.now _)
  | succ d IH =>
    intro x s hd hs; have hx : x < L.length := by omega
    have hpi := hin L[x] (List.getElem_mem hx); have hr := costP_range X Y g n f o hg hn hf L[x] hpi; rw [List.drop_eq_getElem_cons hx, costL, ← Int.add_assoc]; have e0 : rd_T61 L (x : Int) = L[x] := rdP_nat L x hx; have wx := wsucc x (by omega); have eG := grid_len X Y n f o; have eR : ∀ i : Nat, i < X.length → (rd_L11 (gridP X Y n f o) (i : Int)).length = Y.length := fun i h => grid_rlen X Y n f o i h
    generalize gridP X Y n f o = G at hr eG eR IH ⊢; refine Ev.step (fun k => ?_) (IH (x + 1) (s + costP G g L[x]) (by omega) (by omega)); rw [siglumref10_Price.l0, if_pos (by omega), if_pos (by omega), e0, wx]; unfold costP at hr ⊢
    by_cases h1 : L[x].f0 = -1
    · rw [if_pos (Or.inl (by omega))] at hr ⊢
      rw [if_pos h1, ws (s + g) (by omega) (by omega)]
    · rw [if_neg h1]
      by_cases h2 : L[x].f1 = -1
      · rw [if_pos (Or.inr (by omega))] at hr ⊢
        rw [if_pos h2, ws (s + g) (by omega) (by omega)]
      · have h3 : ¬ (L[x].f0 < 0 ∨ L[x].f1 < 0) := by omega
        rw [if_neg h3] at hr ⊢; obtain ⟨i, hi⟩ : ∃ i : Nat, L[x].f0 = (i : Int) := ⟨L[x].f0.toNat, by omega⟩
        have el := eR i (by omega); rw [← hi] at el; have ev : rd (rd_L11 G L[x].f0) L[x].f1 = at2 G L[x].f0.toNat L[x].f1.toNat := rfl; generalize at2 G L[x].f0.toNat L[x].f1.toNat = v at hr ev ⊢; rw [if_neg h2, if_pos (by omega), if_pos (by omega), if_pos (by omega), if_pos (by omega), ev, ws (s + v) (by omega) (by omega)]
end
theorem refprice_eq (X Y : List ByteArray) (hX : smallL X) (hY : smallL Y) (L : List S61) (hL : L.length < 4611686018427387904) (g n f o : Int) : Ev (fun k => siglumref10_Price.f k X Y L g n f o) (priceR X Y L g n f o) := by
  unfold priceR; refine ev_bind (refgrid_eq X Y hX hY g n f o) ?_
  by_cases h : (gridR X Y g n f o).2 = 0
  · obtain ⟨e, hs, l1, l2⟩ := gridR_ok h
    unfold scaleOk at hs; rw [if_pos h, e]; refine Ev.congr (fun k => by rw [if_pos rfl]) (ev_bind (refright_eq X.length Y.length L hL) ?_)
    by_cases hr : rightL X.length Y.length L 0 0 = true
    · rw [if_pos hr]
      obtain ⟨a, b⟩ := rightL_in X.length Y.length L 0 0 (Nat.zero_le _) (Nat.zero_le _) hr; have := refprice_loop X Y g n f o hs.1 hs.2.1 hs.2.2.1 L (by omega) b L.length 0 0 (by omega) (by omega); rw [Int.zero_add] at this; exact Ev.congr (fun k => by rw [if_pos hr]; rfl) this
    · rw [if_neg hr]
      exact Ev.congr (f := fun _ => some (0, 2)) (fun k => by rw [if_neg hr]) (Ev.now _)
  · rw [if_neg h]
    exact Ev.congr (f := fun _ => some (0, (gridR X Y g n f o).2)) (fun k => by rw [if_neg h]) (Ev.now _)
theorem PairPricesP (A B : List ByteArray) (L : List S61) (g n f o : Int) (hA : smallL A) (hB : smallL B) (hL : L.length < 4611686018427387904) : ∃ k, siglumlaw10_PairPrices.f k A B L g n f o = some true := by
  refine Ev.rounds (ev_bind (f := fun k t => if t = true then (siglumref09_Light.f k A B).bind fun u => if u = true then (pair_Price.f k A B L g n f o).bind fun p => (siglumref10_Price.f k A B L g n f o).bind fun q => if p.1 = q.1 then some (p.2 == q.2) else some false else some true else some false) awake10 (Ev.congr (fun k => by rw [if_pos rfl]) ?_)); obtain ⟨r, hr⟩ := light_any A B hA hB; refine ev_bind hr ?_
  cases r with
  | false => exact Ev.congr (fun k => by rw [if_neg (by decide)]) (Ev.now _)
  | true =>
    refine Ev.congr (fun k => by rw [if_pos rfl]) (ev_bind (price_eq A B hA hB L hL g n f o) ?_); refine ev_bind (refprice_eq A B hA hB L hL g n f o) ?_; exact Ev.congr (f := fun _ => some true) (fun k => by rw [if_pos rfl, beq_self_eq_true]) (Ev.now _)
theorem sumPairs (L : List S61) : L.length ≤ (L.map fun _ => (1 + 1 + 1)).sum := by
  induction L with
  | nil => exact Nat.zero_le _
  | cons y L ih => rw [List.map_cons, List.sum_cons, List.length_cons]; omega
theorem PairPrices (A B : List ByteArray) (L : List S61) (g n f o : Int) (_ : ((∀ y ∈ A, (y.size ≤ maxLen)) ∧ A.length ≤ maxLen) ∧ ((∀ y ∈ B, (y.size ≤ maxLen)) ∧ B.length ≤ maxLen) ∧ ((∀ y ∈ L, (((Lit.int .i64 y.f0).wf = true) ∧ ((Lit.int .i64 y.f1).wf = true))) ∧ L.length ≤ maxLen) ∧ (((Lit.int .i64 g).wf = true) ∧ ((Lit.int .i64 n).wf = true) ∧ ((Lit.int .i64 f).wf = true) ∧ ((Lit.int .i64 o).wf = true))) (hb : (((A.map fun y => (y.size + 1)).sum + 1) + ((B.map fun y => (y.size + 1)).sum + 1) + ((L.map fun _ => (1 + 1 + 1)).sum + 1) + (1 + 1 + 1 + 1 + 1) + 1) ≤ 1048576) : ∃ k, siglumlaw10_PairPrices.f k A B L g n f o = some true := by
  have hl := sumPairs L; exact PairPricesP A B L g n f o (smallSum A (by omega)) (smallSum B (by omega)) (by omega)
end Go.Proofs.YtcpbalnbgmjhjaaDoor.Pure
