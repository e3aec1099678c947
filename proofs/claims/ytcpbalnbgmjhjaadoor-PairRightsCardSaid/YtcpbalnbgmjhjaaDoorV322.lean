import Derived.Test.YtcpbalnbgmjhjaaDoorV33
import Derived.Test.YtcpbalnbgmjhjaaDoorV35
import Derived.Test.YtcpbalnbgmjhjaaDoorV313
import Derived.Test.YtcpbalnbgmjhjaaDoorV317
namespace Go.Proofs.YtcpbalnbgmjhjaaDoor.G
open Go.RowKit Go.Proofs.YtcpbalnbgmjhjaaDoor.Mi Go.Proofs.YtcpbalnbgmjhjaaDoorW.PrintWords Go.Proofs.YtcpbalnbgmjhjaaDoorW.PrintLast Go.Proofs.YtcpbalnbgmjhjaaDoorW.PrintMore
attribute [local go_sem] min2_int min_two min_three   -- for this text's walks alone
set_option linter.unusedVariables false
set_option linter.unusedSimpArgs false
/-! ### siglumref10_Right: function 31 -/
mutual
def siglumref10_Right.j0 : Nat → Int → Int → List (S61) → Bool → Option (Bool)
 | 0, _, _, _, _ => none
 | k + 1, x0, x1, x2, x16 => if x16 = true then (some false) else (siglumref10_Right.l0 k x0 x1 x2 0 0 0)
def siglumref10_Right.l0 : Nat → Int → Int → List (S61) → Int → Int → Int → Option (Bool)
 | 0, _, _, _, _, _, _ => none
 | k + 1, x0, x1, x2, x7, x8, x9 => if x9 < (x2.length : Int) then (if 0 ≤ x9 then (if ((rd_T61 x2 x9).f0) = (-1) then (siglumref10_Right.j2 k x0 x1 x2 x7 x8 x9 (((rd_T61 x2 x9).f1) == (-1)) ((rd_T61 x2 x9).f0) ((rd_T61 x2 x9).f1)) else (siglumref10_Right.j2 k x0 x1 x2 x7 x8 x9 false ((rd_T61 x2 x9).f0) ((rd_T61 x2 x9).f1))) else (none)) else (if x7 = x0 then (some (x8 == x1)) else (some false))
def siglumref10_Right.j2 : Nat → Int → Int → List (S61) → Int → Int → Int → Bool → Int → Int → Option (Bool)
 | 0, _, _, _, _, _, _, _, _, _ => none
 | k + 1, x0, x1, x2, x7, x8, x9, x34, x31103000, x31103001 => if x34 = true then (some false) else (if x31103000 = (-1) then (siglumref10_Right.j3 k x0 x1 x2 x7 x8 x9 x31103000 x31103001) else (if x31103000 = x7 then (if x7 ≥ x0 then (some false) else (siglumref10_Right.j3 k x0 x1 x2 (wrap64 (x7 + 1)) x8 x9 x31103000 x31103001)) else (some false)))
def siglumref10_Right.j3 : Nat → Int → Int → List (S61) → Int → Int → Int → Int → Int → Option (Bool)
 | 0, _, _, _, _, _, _, _, _ => none
 | k + 1, x0, x1, x2, x7, x8, x9, x31103000, x31103001 => if x31103001 = (-1) then (siglumref10_Right.l0 k x0 x1 x2 x7 x8 (wrap64 (x9 + 1))) else (if x31103001 = x8 then (if x8 ≥ x1 then (some false) else (siglumref10_Right.l0 k x0 x1 x2 x7 (wrap64 (x8 + 1)) (wrap64 (x9 + 1)))) else (some false))
end
def siglumref10_Right.f (k : Nat) (a0 : Int) (a1 : Int) (l2 : List (S61)) : Option (Bool) := if a0 < 0 then (siglumref10_Right.j0 k a0 a1 l2 true) else (siglumref10_Right.j0 k a0 a1 l2 (decide (a1 < 0)))
set_option maxHeartbeats 8000000 in
set_option maxRecDepth 100000 in
theorem siglumref10_Right.calls (k : Nat) (a0 : Int) (a1 : Int) (A2 : Option Addr) (c2 : Nat) (l2 : List (S61)) (r : Bool) (w : World) (hr2 : Kd.C k61 w A2 l2.length l2) (hc2 : l2.length ≤ c2) (h : siglumref10_Right.f k a0 a1 l2 = some r) :
 Calls Tryd.prog 31 #[.int .i64 a0, .int .i64 a1, .slice A2 l2.length c2] w fun e w' => e = .returned (.bool r) ∧ Below w.heap.size w w' := by
 have hu61 := Tryd.underlying61; have HR2 := Aside0.mk hr2; have HC2 := Aside0.mk hc2; clear hr2 hc2; have HB := Aside0.mk (Below.refl w.heap.size w); have H : (if a0 < 0 then (siglumref10_Right.j0 k a0 a1 l2 true) else (siglumref10_Right.j0 k a0 a1 l2 (decide (a1 < 0)))) = some r := h; clear h; have HC4 := Aside0.mk H; clear H
 go_enter Tryd.func31, Tryd.ntmps31
 go_upto_region 1 with (fail)
 go_cut [16] (fun v16 wc => ∃ (kq : Nat) (x16_3 : Bool), v16 = .bool x16_3 ∧ Aside0 (siglumref10_Right.j0 kq a0 a1 l2 x16_3 = some r) ∧ Aside0 (kq ≤ k) ∧ Aside0 (Below w.heap.size w wc))
 case first =>
  have H := HC4.out; clear HC4
  by_cases c5 : a0 < 0
  ·
   rw [if_pos c5] at H; have c5b0 : decide (a0 < 0) = true := decide_eq_true c5; clear c5; (first | rw [c5b0] | (simp only [i64_w, i32_w]; rw [c5b0]) | (have ce_ := c5b0; rw [List.beq_nil_eq] at ce_; rw [ce_]) | skip); have H' := Aside0.mk H; clear H; go_wp2
   go_meet
   case rel => exact ⟨_, (true), (by first | rfl | (simp; done) | (simp [*]; done)), H', ⟨by first | omega | exact Nat.le_refl _⟩, ⟨bel⟩⟩
  ·
   rw [if_neg c5] at H; have c5b0 : decide (a0 < 0) = false := decide_eq_false c5; clear c5; (first | rw [c5b0] | (simp only [i64_w, i32_w]; rw [c5b0]) | (have ce_ := c5b0; rw [List.beq_nil_eq] at ce_; rw [ce_]) | skip); have H' := Aside0.mk H; clear H; go_wp2
   go_meet
   case rel => exact ⟨_, (decide (a1 < 0)), (by first | rfl | (simp; done) | (simp [*]; done)), H', ⟨by first | omega | exact Nat.le_refl _⟩, ⟨bel⟩⟩
 case rest =>
  clear HC4; (try clear c2); (try clear p2); (try clear c3); (try clear c5); (try clear c5b0); obtain ⟨kq, x16_3, rfl, HA, HJ3, HB⟩ := hcut
  cases kq with
  | zero => exact absurd HA.out (by simp [siglumref10_Right.j0])
  | succ kj3 =>
   have H := HA.out; clear HA; simp only [siglumref10_Right.j0] at H
   by_cases c6 : x16_3 = true
   ·
    subst c6; have H1 := H; rw [if_pos rfl] at H1; clear H; have H := H1; clear H1; obtain rfl := Option.some.inj H; go_wp2; go_ret; exact ⟨by first | rfl | (simp [errW_none, errW_some] <;> rfl) | (simp [*, errW_none, errW_some] <;> rfl), by exact bel⟩
   ·
    replace c6 := Bool.eq_false_iff.mpr c6; subst c6; have H1 := H; rw [if_neg (show ¬ (false = true) by decide)] at H1; clear H; have H := H1; clear H1; have H' := Aside0.mk H; clear H; go_wp2
    go_loopg [7, 8, 9] kj3 (fun kq v7 v8 v9 w' => ∃ (x7_2 : Int) (x8_2 : Int) (x9_2 : Int), v7 = .int .i64 x7_2 ∧ v8 = .int .i64 x8_2 ∧ v9 = .int .i64 x9_2 ∧ Aside0 (siglumref10_Right.l0 kq a0 a1 l2 x7_2 x8_2 x9_2 = some r) ∧ Aside0 (kq ≤ kj3) ∧ Aside0 (Below w.heap.size w w'))
    case atStart => exact ⟨(0), (0), (0), (by first | rfl | (simp; done) | (simp [*]; done)), (by first | rfl | (simp; done) | (simp [*]; done)), (by first | rfl | (simp; done) | (simp [*]; done)), H', ⟨Nat.le_refl _⟩, ⟨bel⟩⟩
    case round =>
     clear H'; (try clear c2); (try clear p2); (try clear c3); (try clear c5); (try clear c5b0); (try clear c6); obtain ⟨x7_2, x8_2, x9_2, rfl, rfl, rfl, HA, HK2, HB⟩ := hrel
     cases gk with
     | zero => exact absurd HA.out (by simp [siglumref10_Right.l0])
     | succ k2 =>
      have H := HA.out; clear HA; simp only [siglumref10_Right.l0] at H
      by_cases c7 : x9_2 < (l2.length : Int)
      ·
       rw [if_pos c7] at H; have c7b0 : decide (x9_2 < (l2.length : Int)) = true := decide_eq_true c7; clear c7
       by_cases c8 : 0 ≤ x9_2
       rotate_left
       · rw [if_neg c8] at H; exact absurd H (by simp)
       rw [if_pos c8] at H; have c8b0 : decide (0 ≤ x9_2) = true := decide_eq_true c8; clear c8; have HC9 := Aside0.mk H; clear H; have p31101 : 0 ≤ (x9_2 : Int) := oda; have q31101 : x9_2 < (l2.length : Int) := oda; obtain ⟨ad31101, e31101, hx31101_0, hx31101_1⟩ := at_T61 HR2.out x9_2 p31101 q31101; cases e31101; replace hx31101_0 := (HB.out.cell (World.block_lt_of_cell? w _ hx31101_0)).trans hx31101_0; replace hx31101_1 := (HB.out.cell (World.block_lt_of_cell? w _ hx31101_1)).trans hx31101_1; replace p31101 := eq_true p31101; replace q31101 := eq_true q31101
       go_upto_region 9 with (first | ((with_reducible refine gate_dst (N := 10) rfl ?_); refine box_event ?hg (N := 10) ?hd (cs := #[.int .i64 0, .int .i64 0]) (t := 61) ?hr ?_; (case hd => rfl); (case hg => rfl); (case hr => first | (go_simp; done) | (go_simp; rfl)); intro gb31102 hg w10 hbox hb; have n0_ := Aside0.mk (below_step bel hb); have n1_ := Aside0.mk (hbox); have n2_ := Aside0.mk ((by rw [hg]; exact (below_size bel) : w.heap.size ≤ gb31102)); have n3_ := Aside0.mk ((by rw [hg]; exact (below_size bel) : w.heap.size ≤ gb31102)); clear HB; have HB := n0_; have BK31102 := n1_; have GW31102 := n2_; have GE31102 := n3_; clear n0_ n1_ n2_ n3_; clear hb hbox hg; have hcz11_0 : w10.cell? ⟨gb31102, 0, none⟩ = some (.int .i64 0) := (blk_cell BK31102.out 0).trans rfl; have hcz11_1 : w10.cell? ⟨gb31102, 1, none⟩ = some (.int .i64 0) := (blk_cell BK31102.out 1).trans rfl; have hfz11_0 := blk_frozen BK31102.out 0; have hfz11_1 := blk_frozen BK31102.out 1))
       (try simp only [Act.put,za,zb,zc])
       go_cut [34] (fun v34 wc => ∃ (kq : Nat) (x34_8 : Bool), v34 = .bool x34_8 ∧ Aside0 (siglumref10_Right.j2 kq a0 a1 l2 x7_2 x8_2 x9_2 x34_8 ((rd_T61 l2 x9_2).f0) ((rd_T61 l2 x9_2).f1) = some r) ∧ Aside0 (kq ≤ k2) ∧ Aside0 (wc.heap[gb31102]? = some (.cells #[.int .i64 ((rd_T61 l2 x9_2).f0), .int .i64 ((rd_T61 l2 x9_2).f1)] 61 (0, 0))) ∧ Aside0 (Below w.heap.size w wc))
       case first =>
        have H := HC9.out; clear HC9
        by_cases c12 : ((rd_T61 l2 x9_2).f0) = (-1)
        ·
         rw [if_pos c12] at H; have c12b0 : (((rd_T61 l2 x9_2).f0) == (-1)) = true := beq_iff_eq.mpr c12; have c12b1 : (((rd_T61 l2 x9_2).f0) != (-1)) = false := bne_eq_false_iff_eq.mpr c12; clear c12; (first | rw [c12b0] | (simp only [i64_w, i32_w]; rw [c12b0]) | (have ce_ := c12b0; rw [List.beq_nil_eq] at ce_; rw [ce_]) | skip); have H' := Aside0.mk H; clear H; have hcz13_0 : w10.cell? ⟨gb31102, 0, none⟩ = some (.int .i64 0) := (blk_cell BK31102.out 0).trans rfl; have hcz13_1 : w10.cell? ⟨gb31102, 1, none⟩ = some (.int .i64 0) := (blk_cell BK31102.out 1).trans rfl; have hfz13_0 := blk_frozen BK31102.out 0; have hfz13_1 := blk_frozen BK31102.out 1; go_wp2
         go_meet
         case rel => exact ⟨_, ((((rd_T61 l2 x9_2).f1) == (-1))), (by first | rfl | (simp; done) | (simp [*]; done)), H', ⟨by have := HJ3.out; have := HK2.out; first | omega | exact Nat.le_refl _⟩, ⟨by (with_reducible repeat (first | refine blk_drewN ?_ _ | refine blk_drew ?_ | refine blk_alloc ?_ _)); refine blk_put (cs := #[.int .i64 ((rd_T61 l2 x9_2).f0), .int .i64 0]) ?_ 1 _ rfl; (with_reducible repeat (first | refine blk_drewN ?_ _ | refine blk_drew ?_ | refine blk_alloc ?_ _)); refine blk_put (cs := #[.int .i64 0, .int .i64 0]) ?_ 0 _ rfl; (with_reducible repeat (first | refine blk_drewN ?_ _ | refine blk_drew ?_ | refine blk_alloc ?_ _)); exact BK31102.out⟩, ⟨bel⟩⟩
        ·
         rw [if_neg c12] at H; have c12b0 : (((rd_T61 l2 x9_2).f0) == (-1)) = false := beq_eq_false_iff_ne.mpr c12; have c12b1 : (((rd_T61 l2 x9_2).f0) != (-1)) = true := bne_iff_ne.mpr c12; (first | rw [c12b0] | (simp only [i64_w, i32_w]; rw [c12b0]) | (have ce_ := c12b0; rw [List.beq_nil_eq] at ce_; rw [ce_]) | skip); have H' := Aside0.mk H; clear H; have hcz14_0 : w10.cell? ⟨gb31102, 0, none⟩ = some (.int .i64 0) := (blk_cell BK31102.out 0).trans rfl; have hcz14_1 : w10.cell? ⟨gb31102, 1, none⟩ = some (.int .i64 0) := (blk_cell BK31102.out 1).trans rfl; have hfz14_0 := blk_frozen BK31102.out 0; have hfz14_1 := blk_frozen BK31102.out 1; go_wp2
         go_meet
         case rel => exact ⟨_, (false), (by first | rfl | (simp; done) | (simp [*]; done)), H', ⟨by have := HJ3.out; have := HK2.out; first | omega | exact Nat.le_refl _⟩, ⟨by (with_reducible repeat (first | refine blk_drewN ?_ _ | refine blk_drew ?_ | refine blk_alloc ?_ _)); refine blk_put (cs := #[.int .i64 ((rd_T61 l2 x9_2).f0), .int .i64 0]) ?_ 1 _ rfl; (with_reducible repeat (first | refine blk_drewN ?_ _ | refine blk_drew ?_ | refine blk_alloc ?_ _)); refine blk_put (cs := #[.int .i64 0, .int .i64 0]) ?_ 0 _ rfl; (with_reducible repeat (first | refine blk_drewN ?_ _ | refine blk_drew ?_ | refine blk_alloc ?_ _)); exact BK31102.out⟩, ⟨bel⟩⟩
       case rest =>
        clear HC9; (try clear c1); (try clear c2); (try clear p2); (try clear c3); (try clear p3); (try clear q3); (try clear hx3); (try clear c5); (try clear c5b0); (try clear c6); (try clear c7); (try clear c7b0); (try clear c8); (try clear c8b0); (try clear c12); (try clear c12b0); (try clear c12b1); (try clear hcz11_0); (try clear hcz11_1); (try clear hcz13_0); (try clear hcz13_1); (try clear hcz14_0); (try clear hcz14_1); (try clear hfz11_0); (try clear hfz11_1); (try clear hfz13_0); (try clear hfz13_1); (try clear hfz14_0); (try clear hfz14_1); (try clear hx31101_0); (try clear hx31101_1); (try clear p31101); (try clear q31101); obtain ⟨kq, x34_8, rfl, HA, HJ8, BK31102, HB⟩ := hcut
        cases kq with
        | zero => exact absurd HA.out (by simp [siglumref10_Right.j2])
        | succ kj8 =>
         have H := HA.out; clear HA; simp only [siglumref10_Right.j2] at H
         by_cases c15 : x34_8 = true
         ·
          subst c15; have H1 := H; rw [if_pos rfl] at H1; clear H; have H := H1; clear H1; obtain rfl := Option.some.inj H; go_wp2; go_ret; exact ⟨by first | rfl | (simp [errW_none, errW_some] <;> rfl) | (simp [*, errW_none, errW_some] <;> rfl), by exact bel⟩
         ·
          replace c15 := Bool.eq_false_iff.mpr c15; subst c15; have H1 := H; rw [if_neg (show ¬ (false = true) by decide)] at H1; clear H; have H := H1; clear H1; have HC16 := Aside0.mk H; clear H; have hcz17_0 : wc.cell? ⟨gb31102, 0, none⟩ = some (.int .i64 ((rd_T61 l2 x9_2).f0)) := (blk_cell BK31102.out 0).trans rfl; have hcz17_1 : wc.cell? ⟨gb31102, 1, none⟩ = some (.int .i64 ((rd_T61 l2 x9_2).f1)) := (blk_cell BK31102.out 1).trans rfl; have hfz17_0 := blk_frozen BK31102.out 0; have hfz17_1 := blk_frozen BK31102.out 1
          go_upto_if 37 with (fail)
          go_cut [7] (fun v7 wc => ∃ (kq : Nat) (x7_15 : Int), v7 = .int .i64 x7_15 ∧ Aside0 (siglumref10_Right.j3 kq a0 a1 l2 x7_15 x8_2 x9_2 ((rd_T61 l2 x9_2).f0) ((rd_T61 l2 x9_2).f1) = some r) ∧ Aside0 (kq ≤ kj8) ∧ Aside0 (wc.heap[gb31102]? = some (.cells #[.int .i64 ((rd_T61 l2 x9_2).f0), .int .i64 ((rd_T61 l2 x9_2).f1)] 61 (0, 0))) ∧ Aside0 (Below w.heap.size w wc))
          case first =>
           have H := HC16.out; clear HC16
           by_cases c18 : ((rd_T61 l2 x9_2).f0) = (-1)
           ·
            rw [if_pos c18] at H; have c18b0 : (((rd_T61 l2 x9_2).f0) == (-1)) = true := beq_iff_eq.mpr c18; have c18b1 : (((rd_T61 l2 x9_2).f0) != (-1)) = false := bne_eq_false_iff_eq.mpr c18; clear c18; (first | rw [c18b0] | (simp only [i64_w, i32_w]; rw [c18b0]) | (have ce_ := c18b0; rw [List.beq_nil_eq] at ce_; rw [ce_]) | skip); have H' := Aside0.mk H; clear H; go_wp2
            go_meet
            case rel => exact ⟨_, (x7_2), (by first | rfl | (simp; done) | (simp [*]; done)), H', ⟨by have := HJ3.out; have := HK2.out; have := HJ8.out; first | omega | exact Nat.le_refl _⟩, ⟨bl BK31102⟩, ⟨bel⟩⟩
           ·
            rw [if_neg c18] at H; have c18b0 : (((rd_T61 l2 x9_2).f0) == (-1)) = false := beq_eq_false_iff_ne.mpr c18; have c18b1 : (((rd_T61 l2 x9_2).f0) != (-1)) = true := bne_iff_ne.mpr c18; (first | rw [c18b0] | (simp only [i64_w, i32_w]; rw [c18b0]) | (have ce_ := c18b0; rw [List.beq_nil_eq] at ce_; rw [ce_]) | skip)
            by_cases c19 : ((rd_T61 l2 x9_2).f0) = x7_2
            ·
             rw [if_pos c19] at H; have c19b0 : (((rd_T61 l2 x9_2).f0) == x7_2) = true := beq_iff_eq.mpr c19; have c19b1 : (((rd_T61 l2 x9_2).f0) != x7_2) = false := bne_eq_false_iff_eq.mpr c19; clear c19
             by_cases c20 : x7_2 ≥ a0
             ·
              rw [if_pos c20] at H; have c20b0 : decide (a0 ≤ x7_2) = true := decide_eq_true c20; clear c20; obtain rfl := Option.some.inj H; have hcz21_0 : wc.cell? ⟨gb31102, 0, none⟩ = some (.int .i64 ((rd_T61 l2 x9_2).f0)) := (blk_cell BK31102.out 0).trans rfl; have hcz21_1 : wc.cell? ⟨gb31102, 1, none⟩ = some (.int .i64 ((rd_T61 l2 x9_2).f1)) := (blk_cell BK31102.out 1).trans rfl; have hfz21_0 := blk_frozen BK31102.out 0; have hfz21_1 := blk_frozen BK31102.out 1; go_wp2; go_ret; exact ⟨by first | rfl | (simp [errW_none, errW_some] <;> rfl) | (simp [*, errW_none, errW_some] <;> rfl), by exact bel⟩
             ·
              rw [if_neg c20] at H; have c20b0 : decide (a0 ≤ x7_2) = false := decide_eq_false c20; clear c20; have H' := Aside0.mk H; clear H; have hcz22_0 : wc.cell? ⟨gb31102, 0, none⟩ = some (.int .i64 ((rd_T61 l2 x9_2).f0)) := (blk_cell BK31102.out 0).trans rfl; have hcz22_1 : wc.cell? ⟨gb31102, 1, none⟩ = some (.int .i64 ((rd_T61 l2 x9_2).f1)) := (blk_cell BK31102.out 1).trans rfl; have hfz22_0 := blk_frozen BK31102.out 0; have hfz22_1 := blk_frozen BK31102.out 1; go_wp2
              go_meet
              case rel => exact ⟨_, (wrap64 (x7_2 + 1)), (by first | rfl | (simp; done) | (simp [*]; done)), H', ⟨by have := HJ3.out; have := HK2.out; have := HJ8.out; first | omega | exact Nat.le_refl _⟩, ⟨bl BK31102⟩, ⟨bel⟩⟩
            ·
             rw [if_neg c19] at H; have c19b0 : (((rd_T61 l2 x9_2).f0) == x7_2) = false := beq_eq_false_iff_ne.mpr c19; have c19b1 : (((rd_T61 l2 x9_2).f0) != x7_2) = true := bne_iff_ne.mpr c19; obtain rfl := Option.some.inj H; have hcz23_0 : wc.cell? ⟨gb31102, 0, none⟩ = some (.int .i64 ((rd_T61 l2 x9_2).f0)) := (blk_cell BK31102.out 0).trans rfl; have hcz23_1 : wc.cell? ⟨gb31102, 1, none⟩ = some (.int .i64 ((rd_T61 l2 x9_2).f1)) := (blk_cell BK31102.out 1).trans rfl; have hfz23_0 := blk_frozen BK31102.out 0; have hfz23_1 := blk_frozen BK31102.out 1; go_wp2; go_ret; exact ⟨by first | rfl | (simp [errW_none, errW_some] <;> rfl) | (simp [*, errW_none, errW_some] <;> rfl), by exact bel⟩
          case rest =>
           clear HC16; (try clear c1); (try clear c2); (try clear p2); (try clear c3); (try clear p3); (try clear q3); (try clear hx3); (try clear c5); (try clear c5b0); (try clear c6); (try clear p6); (try clear c7); (try clear c7b0); (try clear c8); (try clear c8b0); (try clear c12); (try clear c12b0); (try clear c12b1); (try clear c15); (try clear c18); (try clear c18b0); (try clear c18b1); (try clear c19); (try clear c19b0); (try clear c19b1); (try clear c20); (try clear c20b0); (try clear hcz11_0); (try clear hcz11_1); (try clear hcz13_0); (try clear hcz13_1); (try clear hcz14_0); (try clear hcz14_1); (try clear hcz17_0); (try clear hcz17_1); (try clear hcz21_0); (try clear hcz21_1); (try clear hcz22_0); (try clear hcz22_1); (try clear hcz23_0); (try clear hcz23_1); (try clear hfz11_0); (try clear hfz11_1); (try clear hfz13_0); (try clear hfz13_1); (try clear hfz14_0); (try clear hfz14_1); (try clear hfz17_0); (try clear hfz17_1); (try clear hfz21_0); (try clear hfz21_1); (try clear hfz22_0); (try clear hfz22_1); (try clear hfz23_0); (try clear hfz23_1); (try clear hx31101_0); (try clear hx31101_1); (try clear p31101); (try clear q31101); obtain ⟨kq, x7_15, rfl, HA, HJ15, BK31102, HB⟩ := hcut
           cases kq with
           | zero => exact absurd HA.out (by simp [siglumref10_Right.j3])
           | succ kj15 =>
            have H := HA.out; clear HA; simp only [siglumref10_Right.j3] at H
            by_cases c24 : ((rd_T61 l2 x9_2).f1) = (-1)
            ·
             rw [if_pos c24] at H; have c24b0 : (((rd_T61 l2 x9_2).f1) == (-1)) = true := beq_iff_eq.mpr c24; have c24b1 : (((rd_T61 l2 x9_2).f1) != (-1)) = false := bne_eq_false_iff_eq.mpr c24; clear c24; have H' := Aside0.mk H; clear H; have hcz25_0 : wc.cell? ⟨gb31102, 0, none⟩ = some (.int .i64 ((rd_T61 l2 x9_2).f0)) := (blk_cell BK31102.out 0).trans rfl; have hcz25_1 : wc.cell? ⟨gb31102, 1, none⟩ = some (.int .i64 ((rd_T61 l2 x9_2).f1)) := (blk_cell BK31102.out 1).trans rfl; have hfz25_0 := blk_frozen BK31102.out 0; have hfz25_1 := blk_frozen BK31102.out 1; go_wp2
             go_roundg kj15
             case measure => have := HJ3.out; have := HK2.out; have := HJ8.out; have := HJ15.out; omega
             case rel => exact ⟨(x7_15), (x8_2), (wrap64 (x9_2 + 1)), (by first | rfl | (simp; done) | (simp [*]; done)), (by first | rfl | (simp; done) | (simp [*]; done)), (by first | rfl | (simp; done) | (simp [*]; done)), H', ⟨by have := HJ3.out; have := HK2.out; have := HJ8.out; have := HJ15.out; omega⟩, ⟨bel⟩⟩
            ·
             rw [if_neg c24] at H; have c24b0 : (((rd_T61 l2 x9_2).f1) == (-1)) = false := beq_eq_false_iff_ne.mpr c24; have c24b1 : (((rd_T61 l2 x9_2).f1) != (-1)) = true := bne_iff_ne.mpr c24
             by_cases c26 : ((rd_T61 l2 x9_2).f1) = x8_2
             ·
              rw [if_pos c26] at H; have c26b0 : (((rd_T61 l2 x9_2).f1) == x8_2) = true := beq_iff_eq.mpr c26; have c26b1 : (((rd_T61 l2 x9_2).f1) != x8_2) = false := bne_eq_false_iff_eq.mpr c26; clear c26
              by_cases c27 : x8_2 ≥ a1
              ·
               rw [if_pos c27] at H; have c27b0 : decide (a1 ≤ x8_2) = true := decide_eq_true c27; clear c27; obtain rfl := Option.some.inj H; have hcz28_0 : wc.cell? ⟨gb31102, 0, none⟩ = some (.int .i64 ((rd_T61 l2 x9_2).f0)) := (blk_cell BK31102.out 0).trans rfl; have hcz28_1 : wc.cell? ⟨gb31102, 1, none⟩ = some (.int .i64 ((rd_T61 l2 x9_2).f1)) := (blk_cell BK31102.out 1).trans rfl; have hfz28_0 := blk_frozen BK31102.out 0; have hfz28_1 := blk_frozen BK31102.out 1; go_wp2; go_ret; exact ⟨by first | rfl | (simp [errW_none, errW_some] <;> rfl) | (simp [*, errW_none, errW_some] <;> rfl), by exact bel⟩
              ·
               rw [if_neg c27] at H; have c27b0 : decide (a1 ≤ x8_2) = false := decide_eq_false c27; clear c27; have H' := Aside0.mk H; clear H; have hcz29_0 : wc.cell? ⟨gb31102, 0, none⟩ = some (.int .i64 ((rd_T61 l2 x9_2).f0)) := (blk_cell BK31102.out 0).trans rfl; have hcz29_1 : wc.cell? ⟨gb31102, 1, none⟩ = some (.int .i64 ((rd_T61 l2 x9_2).f1)) := (blk_cell BK31102.out 1).trans rfl; have hfz29_0 := blk_frozen BK31102.out 0; have hfz29_1 := blk_frozen BK31102.out 1; go_wp2
               go_roundg kj15
               case measure => have := HJ3.out; have := HK2.out; have := HJ8.out; have := HJ15.out; omega
               case rel => exact ⟨(x7_15), (wrap64 (x8_2 + 1)), (wrap64 (x9_2 + 1)), (by first | rfl | (simp; done) | (simp [*]; done)), (by first | rfl | (simp; done) | (simp [*]; done)), (by first | rfl | (simp; done) | (simp [*]; done)), H', ⟨by have := HJ3.out; have := HK2.out; have := HJ8.out; have := HJ15.out; omega⟩, ⟨bel⟩⟩
             ·
              rw [if_neg c26] at H; have c26b0 : (((rd_T61 l2 x9_2).f1) == x8_2) = false := beq_eq_false_iff_ne.mpr c26; have c26b1 : (((rd_T61 l2 x9_2).f1) != x8_2) = true := bne_iff_ne.mpr c26; obtain rfl := Option.some.inj H; have hcz30_0 : wc.cell? ⟨gb31102, 0, none⟩ = some (.int .i64 ((rd_T61 l2 x9_2).f0)) := (blk_cell BK31102.out 0).trans rfl; have hcz30_1 : wc.cell? ⟨gb31102, 1, none⟩ = some (.int .i64 ((rd_T61 l2 x9_2).f1)) := (blk_cell BK31102.out 1).trans rfl; have hfz30_0 := blk_frozen BK31102.out 0; have hfz30_1 := blk_frozen BK31102.out 1; go_wp2; go_ret; exact ⟨by first | rfl | (simp [errW_none, errW_some] <;> rfl) | (simp [*, errW_none, errW_some] <;> rfl), by exact bel⟩
      ·
       rw [if_neg c7] at H; have c7b0 : decide (x9_2 < (l2.length : Int)) = false := decide_eq_false c7; clear c7
       by_cases c31 : x7_2 = a0
       ·
        rw [if_pos c31] at H; have c31b0 : (x7_2 == a0) = true := beq_iff_eq.mpr c31; have c31b1 : (x7_2 != a0) = false := bne_eq_false_iff_eq.mpr c31; clear c31; obtain rfl := Option.some.inj H; go_wp2; go_ret; exact ⟨by first | rfl | (simp [errW_none, errW_some] <;> rfl) | (simp [*, errW_none, errW_some] <;> rfl), by exact bel⟩
       ·
        rw [if_neg c31] at H; have c31b0 : (x7_2 == a0) = false := beq_eq_false_iff_ne.mpr c31; have c31b1 : (x7_2 != a0) = true := bne_iff_ne.mpr c31; obtain rfl := Option.some.inj H; go_wp2; go_ret; exact ⟨by first | rfl | (simp [errW_none, errW_some] <;> rfl) | (simp [*, errW_none, errW_some] <;> rfl), by exact bel⟩
end Go.Proofs.YtcpbalnbgmjhjaaDoor.G
namespace Go.Proofs.YtcpbalnbgmjhjaaDoor.G
open Go.RowKit Go.Proofs.YtcpbalnbgmjhjaaDoor.Mi Go.Proofs.YtcpbalnbgmjhjaaDoorW.PrintWords Go.Proofs.YtcpbalnbgmjhjaaDoorW.PrintLast Go.Proofs.YtcpbalnbgmjhjaaDoorW.PrintMore
attribute [local go_sem] min2_int min_two min_three   -- for this text's walks alone
set_option linter.unusedVariables false
set_option linter.unusedSimpArgs false
/-! ### siglumlaw10_PairRights: function 11 -/
def siglumlaw10_PairRights.f (k : Nat) (a0 : Int) (a1 : Int) (l2 : List (S61)) : Option (Bool) := (siglumlaw10_awake.f k).bind fun t11101 => (if t11101 = true then ((pair_Right.f k a0 a1 l2).bind fun t11102 => ((siglumref10_Right.f k a0 a1 l2).bind fun t11103 => (some (t11102 == t11103)))) else (some false))
set_option maxHeartbeats 8000000 in
set_option maxRecDepth 100000 in
theorem siglumlaw10_PairRights.calls (k : Nat) (a0 : Int) (a1 : Int) (A2 : Option Addr) (c2 : Nat) (l2 : List (S61)) (r : Bool) (w : World) (hr2 : Kd.C k61 w A2 l2.length l2) (hc2 : l2.length ≤ c2) (hT : Utf.Tabs2 w) (h : siglumlaw10_PairRights.f k a0 a1 l2 = some r) :
 Calls Tryd.prog 11 #[.int .i64 a0, .int .i64 a1, .slice A2 l2.length c2] w fun e w' => e = .returned (.bool r) ∧ Below w.heap.size w w' := by
 have HR2 := Aside0.mk hr2; have HC2 := Aside0.mk hc2; clear hr2 hc2; have HT := Aside0.mk hT; clear hT; have HB := Aside0.mk (Below.refl w.heap.size w); have H : ((siglumlaw10_awake.f k).bind fun t11101 => (if t11101 = true then ((pair_Right.f k a0 a1 l2).bind fun t11102 => ((siglumref10_Right.f k a0 a1 l2).bind fun t11103 => (some (t11102 == t11103)))) else (some false))) = some r := h; clear h; replace H := Option.bind_eq_some_iff.mp H; obtain ⟨t11101, A40, H⟩ := H; (try dsimp only at H); have A4 := Aside0.mk A40; clear A40
 by_cases c5 : t11101 = true
 ·
  subst c5; have H1 := H; rw [if_pos rfl] at H1; clear H; have H := H1; clear H1; replace H := Option.bind_eq_some_iff.mp H; obtain ⟨t11102, A60, H⟩ := H; (try dsimp only at H); have A6 := Aside0.mk A60; clear A60; replace H := Option.bind_eq_some_iff.mp H; obtain ⟨t11103, A70, H⟩ := H; (try dsimp only at H); have A7 := Aside0.mk A70; clear A70; obtain rfl := Option.some.inj H
  go_enter Tryd.func11, Tryd.ntmps11
  go_wp2_with (first | ((with_reducible refine gate_callee (f := 26) rfl ?_); refine goesL_ (some 7) rfl rfl Tryd.func26 (by kernel_rfl) rfl #[] rfl (by (try simp only [List.map_toArray, List.map_cons, List.map_nil]); first | done | rfl | (simp only [List.length_drop, List.length_take]; rfl)) ?_; (with_reducible refine (siglumlaw10_awake.calls k  true _ ?side1 A4.out).mono ?_); (case side1 => exact Utf.tabs_step2 HT.out bel); rintro e w8 ⟨rfl, hb⟩; refine ⟨_, rfl, ?_⟩; replace HB := Aside0.mk (below_step bel hb); (try clear hb); (try clear hb2); (try clear hk); (try clear hi)) | ((with_reducible refine gate_callee (f := 30) rfl ?_); refine goesL_ (some 12) rfl rfl Tryd.func30 (by kernel_rfl) rfl #[.int .i64 a0, .int .i64 a1, .slice A2 l2.length c2] rfl (by (try simp only [List.map_toArray, List.map_cons, List.map_nil]); first | done | rfl | (simp only [List.length_drop, List.length_take]; rfl)) ?_; (with_reducible refine (pair_Right.calls k a0 a1 _ _ l2 t11102 _ ?side1 ?side2 A6.out).mono ?_); (case side1 => repeat (first | exact (Kd.C_below HR2.out HB.out) | (with_reducible refine Kd.C_alloc ?_ _) | (with_reducible refine Kd.C_drewN ?_ _) | (with_reducible refine Kd.C_drew ?_))); (case side2 => exact HC2.out); rintro e w9 ⟨rfl, hb⟩; refine ⟨_, rfl, ?_⟩; replace HB := Aside0.mk (below_step bel hb); (try clear hb); (try clear hb2); (try clear hk); (try clear hi)) | ((with_reducible refine gate_callee (f := 31) rfl ?_); refine goesL_ (some 16) rfl rfl Tryd.func31 (by kernel_rfl) rfl #[.int .i64 a0, .int .i64 a1, .slice A2 l2.length c2] rfl (by (try simp only [List.map_toArray, List.map_cons, List.map_nil]); first | done | rfl | (simp only [List.length_drop, List.length_take]; rfl)) ?_; (with_reducible refine (siglumref10_Right.calls k a0 a1 _ _ l2 t11103 _ ?side1 ?side2 A7.out).mono ?_); (case side1 => repeat (first | exact (Kd.C_below HR2.out HB.out) | (with_reducible refine Kd.C_alloc ?_ _) | (with_reducible refine Kd.C_drewN ?_ _) | (with_reducible refine Kd.C_drew ?_))); (case side2 => exact HC2.out); rintro e w10 ⟨rfl, hb⟩; refine ⟨_, rfl, ?_⟩; replace HB := Aside0.mk (below_step bel hb); (try clear hb); (try clear hb2); (try clear hk); (try clear hi)))
  go_ret; exact ⟨by first | rfl | (simp [errW_none, errW_some] <;> rfl) | (simp [*, errW_none, errW_some] <;> rfl), by exact bel⟩
 ·
  replace c5 := Bool.eq_false_iff.mpr c5; subst c5; have H1 := H; rw [if_neg (show ¬ (false = true) by decide)] at H1; clear H; have H := H1; clear H1; obtain rfl := Option.some.inj H
  go_enter Tryd.func11, Tryd.ntmps11
  go_wp2_with (first | ((with_reducible refine gate_callee (f := 26) rfl ?_); refine goesL_ (some 7) rfl rfl Tryd.func26 (by kernel_rfl) rfl #[] rfl (by (try simp only [List.map_toArray, List.map_cons, List.map_nil]); first | done | rfl | (simp only [List.length_drop, List.length_take]; rfl)) ?_; (with_reducible refine (siglumlaw10_awake.calls k  false _ ?side1 A4.out).mono ?_); (case side1 => exact Utf.tabs_step2 HT.out bel); rintro e w11 ⟨rfl, hb⟩; refine ⟨_, rfl, ?_⟩; replace HB := Aside0.mk (below_step bel hb); (try clear hb); (try clear hb2); (try clear hk); (try clear hi)))
  go_ret; exact ⟨by first | rfl | (simp [errW_none, errW_some] <;> rfl) | (simp [*, errW_none, errW_some] <;> rfl), by exact bel⟩
end Go.Proofs.YtcpbalnbgmjhjaaDoor.G
/-
  PairRights: the document's Right, in plain numbers, is the program's.
-/
namespace Go.Proofs.YtcpbalnbgmjhjaaDoor.Pure
open Go.RowKit Go.Proofs.YtcpbalnbgmjhjaaDoor.G Go.Proofs.YtcpbalnbgmjhjaaDoorW.PrintWords Go.Proofs.YtcpbalnbgmjhjaaDoorW.PrintLast Go.Proofs.YtcpbalnbgmjhjaaDoorW.PrintMore
theorem refright_loop (n m : Int) (L : List S61) (hL : L.length < 4611686018427387904) : ∀ (d x i j : Nat), x + d = L.length → i ≤ x → j ≤ x →
    Ev (fun k => siglumref10_Right.l0 k n m L (i : Int) (j : Int) (x : Int)) (rightL n m (L.drop x) (i : Int) (j : Int)) := by
  intro d
  induction d with
  | zero =>
    intro x i j hd hi hj
    rw [List.drop_of_length_le (by omega), rightL]
    refine Ev.step (f := fun _ => some (decide ((i : Int) = n ∧ (j : Int) = m))) (fun k => ?_) (Ev.now _)
    rw [siglumref10_Right.l0, if_neg (by omega)]
    by_cases h : (i : Int) = n
    · rw [if_pos h]
      by_cases h2 : (j : Int) = m
      · rw [beq_iff_eq.2 h2, decide_eq_true ⟨h, h2⟩]
      · rw [beq_eq_false_iff_ne.2 h2, decide_eq_false (fun e => h2 e.2)]
    · rw [if_neg h, decide_eq_false (fun e => h e.1)]
  | succ d IH =>
    intro x i j hd hi hj
    have hx : x < L.length := by omega
    rw [List.drop_eq_getElem_cons hx, rightL]
    obtain ⟨p0, p1, hp⟩ : ∃ a b, L[x] = ⟨a, b⟩ := ⟨_, _, rfl⟩
    have e0 : rd_T61 L (x : Int) = ⟨p0, p1⟩ := by rw [rdP_nat L x hx, hp]
    rw [hp]
    dsimp only
    have wi := wsucc i (by omega)
    have wj := wsucc j (by omega)
    have wx := wsucc x (by omega)
    have ci : ((i : Int) + 1) = ((i + 1 : Nat) : Int) := by omega
    have cj : ((j : Int) + 1) = ((j + 1 : Nat) : Int) := by omega
    have stepT : ∀ r, Ev (fun k => siglumref10_Right.j2 k n m L (i : Int) (j : Int) (x : Int) (p0 == -1 && p1 == -1) p0 p1) r → Ev (fun k => siglumref10_Right.l0 k n m L (i : Int) (j : Int) (x : Int)) r := fun r h => by
      refine Ev.step (fun k => ?_) h
      rw [siglumref10_Right.l0, if_pos (by omega), if_pos (by omega), e0]
      dsimp only
      by_cases a : p0 = -1
      · rw [if_pos a, beq_iff_eq.2 a, Bool.true_and]
      · rw [if_neg a, beq_eq_false_iff_ne.2 a, Bool.false_and]
    refine stepT _ ?_
    by_cases a : p0 = -1
    · by_cases b : p1 = -1
      · rw [if_neg (by omega), if_neg (by omega), if_neg (by omega), beq_iff_eq.2 a, beq_iff_eq.2 b]
        exact Ev.step (f := fun _ => some false) (fun k => by rw [siglumref10_Right.j2, if_pos (by decide)]) (Ev.now _)
      · have bb : (p0 == -1 && p1 == -1) = false := by rw [beq_eq_false_iff_ne.2 b, Bool.and_false]
        rw [if_neg (by omega), if_neg (by omega), bb]
        refine Ev.step (fun k => by rw [siglumref10_Right.j2, if_neg (by decide), if_pos a]) ?_
        by_cases c : p1 = (j : Int) ∧ (j : Int) < m
        · rw [if_pos ⟨a, c.1, c.2⟩, cj]
          exact Ev.step (fun k => by rw [siglumref10_Right.j3, if_neg b, if_pos c.1, if_neg (by omega), wj, wx]) (IH (x + 1) i (j + 1) (by omega) (by omega) (by omega))
        · rw [if_neg (fun h => c ⟨h.2.1, h.2.2⟩)]
          refine Ev.step (f := fun _ => some false) (fun k => ?_) (Ev.now _)
          rw [siglumref10_Right.j3, if_neg b]
          by_cases c1 : p1 = (j : Int)
          · rw [if_pos c1, if_pos (by omega)]
          · rw [if_neg c1]
    · have bb : (p0 == -1 && p1 == -1) = false := by rw [beq_eq_false_iff_ne.2 a, Bool.false_and]
      rw [bb]
      by_cases c : p0 = (i : Int) ∧ (i : Int) < n
      · refine Ev.step (f := fun k => siglumref10_Right.j3 k n m L ((i + 1 : Nat) : Int) (j : Int) (x : Int) p0 p1) (fun k => by rw [siglumref10_Right.j2, if_neg (by decide), if_neg a, if_pos c.1, if_neg (by omega), wi]) ?_
        by_cases b : p1 = -1
        · rw [if_neg (by omega), if_pos ⟨c.1, b, c.2⟩, ci]
          exact Ev.step (fun k => by rw [siglumref10_Right.j3, if_pos b, wx]) (IH (x + 1) (i + 1) j (by omega) (by omega) (by omega))
        · by_cases e : p1 = (j : Int) ∧ (j : Int) < m
          · rw [if_pos ⟨c.1, e.1, c.2, e.2⟩, ci, cj]
            exact Ev.step (fun k => by rw [siglumref10_Right.j3, if_neg b, if_pos e.1, if_neg (by omega), wj, wx]) (IH (x + 1) (i + 1) (j + 1) (by omega) (by omega) (by omega))
          · rw [if_neg (fun h => e ⟨h.2.1, h.2.2.2⟩), if_neg (fun h => b h.2.1), if_neg (fun h => a h.1)]
            refine Ev.step (f := fun _ => some false) (fun k => ?_) (Ev.now _)
            rw [siglumref10_Right.j3, if_neg b]
            by_cases e1 : p1 = (j : Int)
            · rw [if_pos e1, if_pos (by omega)]
            · rw [if_neg e1]
      · rw [if_neg (fun h => c ⟨h.1, h.2.2.1⟩), if_neg (fun h => c ⟨h.1, h.2.2⟩), if_neg (fun h => a h.1)]
        refine Ev.step (f := fun _ => some false) (fun k => ?_) (Ev.now _)
        rw [siglumref10_Right.j2, if_neg (by decide), if_neg a]
        by_cases c1 : p0 = (i : Int)
        · rw [if_pos c1, if_pos (by omega)]
        · rw [if_neg c1]
theorem rightL_neg (n m : Int) (h : n < 0 ∨ m < 0) : ∀ (l : List S61) (i j : Int), 0 ≤ i → 0 ≤ j → rightL n m l i j = false := by
  intro l
  induction l with
  | nil => intro i j hi hj; rw [rightL]; exact decide_eq_false (by omega)
  | cons p l IH =>
    intro i j hi hj
    rw [rightL]
    by_cases h1 : p.f0 = i ∧ p.f1 = j ∧ i < n ∧ j < m
    · rw [if_pos h1]; exact IH _ _ (by omega) (by omega)
    · rw [if_neg h1]
      by_cases h2 : p.f0 = i ∧ p.f1 = -1 ∧ i < n
      · rw [if_pos h2]; exact IH _ _ (by omega) (by omega)
      · rw [if_neg h2]
        by_cases h3 : p.f0 = -1 ∧ p.f1 = j ∧ j < m
        · rw [if_pos h3]; exact IH _ _ (by omega) (by omega)
        · rw [if_neg h3]
theorem refright_eq (n m : Int) (L : List S61) (hL : L.length < 4611686018427387904) : Ev (fun k => siglumref10_Right.f k n m L) (rightL n m L 0 0) := by
  have hj : Ev (fun k => siglumref10_Right.j0 k n m L true) false := Ev.step (f := fun _ => some false) (fun k => by rw [siglumref10_Right.j0, if_pos rfl]) (Ev.now _)
  by_cases h1 : n < 0
  · rw [rightL_neg n m (Or.inl h1) L 0 0 (by omega) (by omega)]
    exact Ev.congr (fun k => by unfold siglumref10_Right.f; rw [if_pos h1]) hj
  · by_cases h2 : m < 0
    · rw [rightL_neg n m (Or.inr h2) L 0 0 (by omega) (by omega)]
      exact Ev.congr (fun k => by unfold siglumref10_Right.f; rw [if_neg h1, decide_eq_true h2]) hj
    · refine Ev.congr (f := fun k => siglumref10_Right.j0 k n m L false) (fun k => by unfold siglumref10_Right.f; rw [if_neg h1, decide_eq_false h2]) ?_
      exact Ev.step (fun k => by rw [siglumref10_Right.j0, if_neg (by decide)]; rfl) (refright_loop n m L hL L.length 0 0 0 (by omega) (Nat.le_refl _) (Nat.le_refl _))
theorem PairRights (n m : Int) (L : List S61) (_ : (Lit.int .i64 n).wf = true) (_ : (Lit.int .i64 m).wf = true) (_ : (∀ x ∈ L, (Lit.int .i64 x.f0).wf = true ∧ (Lit.int .i64 x.f1).wf = true) ∧ L.length ≤ maxLen) (hl : L.length * 16 ≤ 140737488351232) : ∃ k, siglumlaw10_PairRights.f k n m L = some true := by
  refine Ev.rounds (ev_bind (f := fun k t => if t = true then (pair_Right.f k n m L).bind fun u => (siglumref10_Right.f k n m L).bind fun v => some (u == v) else some false) awake10 (Ev.congr (fun k => by rw [if_pos rfl]) (ev_bind (right_eq n m L (by omega)) (ev_bind (refright_eq n m L (by omega)) ?_))))
  exact Ev.congr (fun k => by rw [beq_self_eq_true]) (Ev.now _)
end Go.Proofs.YtcpbalnbgmjhjaaDoor.Pure
