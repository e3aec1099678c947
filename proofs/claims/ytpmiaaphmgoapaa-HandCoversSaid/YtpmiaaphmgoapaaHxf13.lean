-- Printed by hprint.py (this session's program over the kit's print) out of the translation; the parts 'by hand' are the session's own.
import Derived.Test.YtpmiaaphmgoapaaHx0
namespace Go.Proofs.Ytpmiaaphmgoapaa.H
open Go.RowKit Go.Proofs.YtpmiaaphmgoapaaW.PrintWords Go.Proofs.YtpmiaaphmgoapaaW.PrintLast Go.Proofs.YtpmiaaphmgoapaaW.PrintMore
attribute [local go_sem] max2_int min2_int max_two min_two max_three min_three max_four min_four   -- for this text's walks alone
set_option linter.unusedVariables false
set_option linter.unusedSimpArgs false

/-! ### siglumref05_Right: function 13 -/
mutual
def siglumref05_Right.l0 : Nat → List (S37) → Int → Option (Bool)
  | 0, _, _ => none
  | k + 1, x0, x3 => if x3 < (x0.length : Int) then (if 0 ≤ x3 then (if ((rd_T37 x0 x3).f0) = 1 then (siglumref05_Right.j1 k x0 x3 (((rd_T37 x0 x3).f1).length : Int) ((rd_T37 x0 x3).f0) (((rd_T37 x0 x3).f0) == 1) ((rd_T37 x0 x3).f0) ((rd_T37 x0 x3).f1) ((rd_T37 x0 x3).f2)) else (siglumref05_Right.j1 k x0 x3 (((rd_T37 x0 x3).f1).length : Int) ((rd_T37 x0 x3).f0) (((rd_T37 x0 x3).f0) == 4) ((rd_T37 x0 x3).f0) ((rd_T37 x0 x3).f1) ((rd_T37 x0 x3).f2))) else (none)) else (some true)
def siglumref05_Right.j1 : Nat → List (S37) → Int → Int → Int → Bool → Int → List ByteArray → Int → Option (Bool)
  | 0, _, _, _, _, _, _, _, _ => none
  | k + 1, x0, x3, x5, x20, x21, x13103000, x13103001, x13103002 => if x21 = true then (if x5 = 1 then (if 0 < (x13103001.length : Int) then (if (rdOf ByteArray.empty x13103001 0).toList = ([] : List UInt8) then (siglumref05_Right.j2 k x0 x3 true x13103000 x13103001 x13103002) else (siglumref05_Right.j2 k x0 x3 (x13103002 != 0) x13103000 x13103001 x13103002)) else (none)) else (siglumref05_Right.j2 k x0 x3 true x13103000 x13103001 x13103002)) else (if x20 = 2 then (if x5 = 0 then (if x13103002 < 1 then (some false) else (if x13103002 > 99 then (some false) else (siglumref05_Right.l0 k x0 (wrap64 (x3 + 1))))) else (some false)) else (if x20 = 3 then (if x5 < 2 then (some false) else (if x5 > 4 then (some false) else (if x13103002 = 0 then (siglumref05_Right.l0 k x0 (wrap64 (x3 + 1))) else (some false)))) else (some false)))
def siglumref05_Right.j2 : Nat → List (S37) → Int → Bool → Int → List ByteArray → Int → Option (Bool)
  | 0, _, _, _, _, _, _ => none
  | k + 1, x0, x3, x37, x13103000, x13103001, x13103002 => if x37 = true then (some false) else (if x13103000 = 1 then (if x3 > 0 then (if 0 ≤ (wrap64 (x3 - 1)) then (if (wrap64 (x3 - 1)) < (x0.length : Int) then (if ((rd_T37 x0 (wrap64 (x3 - 1))).f0) = 1 then (some false) else (siglumref05_Right.l0 k x0 (wrap64 (x3 + 1)))) else (none)) else (none)) else (siglumref05_Right.l0 k x0 (wrap64 (x3 + 1)))) else (siglumref05_Right.l0 k x0 (wrap64 (x3 + 1))))
end
def siglumref05_Right.f (k : Nat) (l0 : List (S37)) : Option (Bool) := siglumref05_Right.l0 k l0 0
theorem siglumref05_Right.mono_l : ∀ k, (∀ y0 y1, LeO (siglumref05_Right.l0 k y0 y1) (siglumref05_Right.l0 (k + 1) y0 y1)) ∧ (∀ y0 y1 y2 y3 y4 y5 y6 y7, LeO (siglumref05_Right.j1 k y0 y1 y2 y3 y4 y5 y6 y7) (siglumref05_Right.j1 (k + 1) y0 y1 y2 y3 y4 y5 y6 y7)) ∧ (∀ y0 y1 y2 y3 y4 y5, LeO (siglumref05_Right.j2 k y0 y1 y2 y3 y4 y5) (siglumref05_Right.j2 (k + 1) y0 y1 y2 y3 y4 y5))
  | 0 => ⟨fun _ _ r h => by simp [siglumref05_Right.l0] at h, fun _ _ _ _ _ _ _ _ r h => by simp [siglumref05_Right.j1] at h, fun _ _ _ _ _ _ r h => by simp [siglumref05_Right.j2] at h⟩
  | k + 1 => by
    obtain ⟨ih0, ih1, ih2⟩ := siglumref05_Right.mono_l k
    refine ⟨?_, ?_, ?_⟩
    · intro y0 y1
      unfold siglumref05_Right.l0
      repeat' first
      | (with_reducible exact ih0 _ _)
      | (with_reducible exact ih1 _ _ _ _ _ _ _ _)
      | (with_reducible exact ih2 _ _ _ _ _ _)
      | (with_reducible exact LeO.refl _)
      | (with_reducible exact LeO.none _)
      | (with_reducible refine LeO.ite ?_ ?_)
      | (with_reducible refine LeO.bind ?_ (fun _ => ?_))
      | exact ih0 _ _
      | exact ih1 _ _ _ _ _ _ _ _
      | exact ih2 _ _ _ _ _ _
      | exact LeO.none _
      | refine LeO.ite ?_ ?_
      | refine LeO.bind ?_ (fun _ => ?_)
    · intro y0 y1 y2 y3 y4 y5 y6 y7
      unfold siglumref05_Right.j1
      repeat' first
      | (with_reducible exact ih0 _ _)
      | (with_reducible exact ih1 _ _ _ _ _ _ _ _)
      | (with_reducible exact ih2 _ _ _ _ _ _)
      | (with_reducible exact LeO.refl _)
      | (with_reducible exact LeO.none _)
      | (with_reducible refine LeO.ite ?_ ?_)
      | (with_reducible refine LeO.bind ?_ (fun _ => ?_))
      | exact ih0 _ _
      | exact ih1 _ _ _ _ _ _ _ _
      | exact ih2 _ _ _ _ _ _
      | exact LeO.none _
      | refine LeO.ite ?_ ?_
      | refine LeO.bind ?_ (fun _ => ?_)
    · intro y0 y1 y2 y3 y4 y5
      unfold siglumref05_Right.j2
      repeat' first
      | (with_reducible exact ih0 _ _)
      | (with_reducible exact ih1 _ _ _ _ _ _ _ _)
      | (with_reducible exact ih2 _ _ _ _ _ _)
      | (with_reducible exact LeO.refl _)
      | (with_reducible exact LeO.none _)
      | (with_reducible refine LeO.ite ?_ ?_)
      | (with_reducible refine LeO.bind ?_ (fun _ => ?_))
      | exact ih0 _ _
      | exact ih1 _ _ _ _ _ _ _ _
      | exact ih2 _ _ _ _ _ _
      | exact LeO.none _
      | refine LeO.ite ?_ ?_
      | refine LeO.bind ?_ (fun _ => ?_)
theorem siglumref05_Right.mono : ∀ a0 k, LeO (siglumref05_Right.f k a0) (siglumref05_Right.f (k + 1) a0) := by
  intro a0 k
  obtain ⟨ih0, ih1, ih2⟩ := siglumref05_Right.mono_l k
  unfold siglumref05_Right.f
  repeat' first
      | (with_reducible exact ih0 _ _)
      | (with_reducible exact ih1 _ _ _ _ _ _ _ _)
      | (with_reducible exact ih2 _ _ _ _ _ _)
      | (with_reducible exact LeO.refl _)
      | (with_reducible exact LeO.none _)
      | (with_reducible refine LeO.ite ?_ ?_)
      | (with_reducible refine LeO.bind ?_ (fun _ => ?_))
      | exact ih0 _ _
      | exact ih1 _ _ _ _ _ _ _ _
      | exact ih2 _ _ _ _ _ _
      | exact LeO.none _
      | refine LeO.ite ?_ ?_
      | refine LeO.bind ?_ (fun _ => ?_)
set_option maxHeartbeats 8000000 in
set_option maxRecDepth 100000 in
theorem siglumref05_Right.calls (k : Nat) (A0 : Option Addr) (c0 : Nat) (l0 : List (S37)) (r : Bool) (w : World) (hr0 : Kd.C k37 w A0 l0.length l0) (hc0 : l0.length ≤ c0) (h : siglumref05_Right.f k l0 = some r) :
    Calls Try.prog 13 #[.slice A0 l0.length c0] w fun e w' => e = .returned (.bool r) ∧ Below w.heap.size w w' := by
  have hu37 := Try.underlying37
  have HR0 := Aside0.mk hr0
  have HC0 := Aside0.mk hc0
  clear hr0 hc0
  have HB := Aside0.mk (Below.refl w.heap.size w)
  have H : (siglumref05_Right.l0 k l0 0) = some r := h
  clear h
  have H' := Aside0.mk H
  clear H
  go_enter Try.func13, Try.ntmps13
  go_wp2
  go_loopg [3] k (fun kq v3 w' => ∃ (x3_1 : Int), v3 = .int .i64 x3_1 ∧ Aside0 (siglumref05_Right.l0 kq l0 x3_1 = some r) ∧ Aside0 (kq ≤ k) ∧ Aside0 (Below w.heap.size w w'))
  case atStart => exact ⟨(0), (by first | rfl | (simp; done) | (simp [*]; done)), H', ⟨Nat.le_refl _⟩, ⟨by repeat (first | (with_reducible first | exact HB.out | apply below_alloc | apply pw_below_drewN | apply below_drew1) | exact HB.out)⟩⟩
  case round =>
    clear H'
    try clear c1
    obtain ⟨x3_1, rfl, HA, HK1, HB⟩ := hrel
    cases gk with
    | zero => exact absurd HA.out (by simp [siglumref05_Right.l0])
    | succ k1 =>
      have H := HA.out
      clear HA
      simp only [siglumref05_Right.l0] at H
      by_cases c2 : x3_1 < (l0.length : Int)
      · rw [if_pos c2] at H
        have c2b0 : decide (x3_1 < (l0.length : Int)) = true := decide_eq_true c2
        clear c2
        by_cases c3 : 0 ≤ x3_1
        · rw [if_pos c3] at H
          have c3b0 : decide (0 ≤ x3_1) = true := decide_eq_true c3
          clear c3
          have HC4 := Aside0.mk H
          clear H
          have p13101 : 0 ≤ (x3_1 : Int) := of_decide_eq_true (by first | (with_reducible assumption) | assumption)
          have q13101 : x3_1 < (l0.length : Int) := of_decide_eq_true (by first | (with_reducible assumption) | assumption)
          obtain ⟨ad13101, A13101_1, c13101_1, e13101, hx13101_0, hx13101_1, hx13101_2, hl13101_1, hi13101_1⟩ := at_T37 HR0.out x3_1 p13101 q13101
          cases e13101
          replace hx13101_0 := (HB.out.cell (World.block_lt_of_cell? w _ hx13101_0)).trans hx13101_0
          replace hx13101_1 := (HB.out.cell (World.block_lt_of_cell? w _ hx13101_1)).trans hx13101_1
          replace hx13101_2 := (HB.out.cell (World.block_lt_of_cell? w _ hx13101_2)).trans hx13101_2
          have HR13101_1 := Aside0.mk hi13101_1
          have HC13101_1 := Aside0.mk hl13101_1
          clear hi13101_1 hl13101_1
          replace p13101 := eq_true p13101
          replace q13101 := eq_true q13101
          go_upto_if 21 with (first | ((with_reducible refine gate_dst (N := 4) rfl ?_); refine box_event ?hg (N := 4) ?hd (cs := #[.int .i64 0, .slice none 0 0, .int .i64 0]) (t := 37) ?hr ?_; (case hd => rfl); (case hg => rfl); (case hr => first | (go_simp; done) | (go_simp; rfl)); intro gb13102 hg w5 hbox hb; have n0_ := Aside0.mk (below_step (by repeat (first | (with_reducible first | exact HB.out | apply below_alloc | apply pw_below_drewN | apply below_drew1) | exact HB.out)) hb); have n1_ := Aside0.mk (hbox); have n2_ := Aside0.mk ((by rw [hg]; exact (below_size (by repeat (first | (with_reducible first | exact HB.out | apply below_alloc | apply pw_below_drewN | apply below_drew1) | exact HB.out))) : w.heap.size ≤ gb13102)); have n3_ := Aside0.mk ((by rw [hg]; exact (below_size (by repeat (first | (with_reducible first | exact HB.out | apply below_alloc | apply pw_below_drewN | apply below_drew1) | exact HB.out))) : w.heap.size ≤ gb13102)); clear HB; have HB := n0_; have BK13102 := n1_; have GW13102 := n2_; have GE13102 := n3_; clear n0_ n1_ n2_ n3_; clear hb hbox hg; have hcz6_0 : w5.cell? ⟨gb13102, 0, none⟩ = some (.int .i64 0) := (blk_cell BK13102.out 0).trans rfl; have hcz6_1 : w5.cell? ⟨gb13102, 1, none⟩ = some (.slice none 0 0) := (blk_cell BK13102.out 1).trans rfl; have hcz6_2 : w5.cell? ⟨gb13102, 2, none⟩ = some (.int .i64 0) := (blk_cell BK13102.out 2).trans rfl; have hfz6_0 := blk_frozen BK13102.out 0; have hfz6_1 := blk_frozen BK13102.out 1; have hfz6_2 := blk_frozen BK13102.out 2))
          (try simp only [Act.put, List.setIfInBounds_toArray, List.set_cons_zero, List.set_cons_succ])
          go_cut [21] (fun v21 wc => ∃ (kq : Nat) (x21_3 : Bool), v21 = .bool x21_3 ∧ Aside0 (siglumref05_Right.j1 kq l0 x3_1 (((rd_T37 l0 x3_1).f1).length : Int) ((rd_T37 l0 x3_1).f0) x21_3 ((rd_T37 l0 x3_1).f0) ((rd_T37 l0 x3_1).f1) ((rd_T37 l0 x3_1).f2) = some r) ∧ Aside0 (kq ≤ k1) ∧ Aside0 (wc.heap[gb13102]? = some (.cells #[.int .i64 ((rd_T37 l0 x3_1).f0), (.slice A13101_1 ((rd_T37 l0 x3_1).f1).length c13101_1), .int .i64 ((rd_T37 l0 x3_1).f2)] 37 (0, 0))) ∧ Aside0 (Below w.heap.size w wc))
          case first =>
            have H := HC4.out
            clear HC4
            by_cases c7 : ((rd_T37 l0 x3_1).f0) = 1
            · rw [if_pos c7] at H
              have c7b0 : (((rd_T37 l0 x3_1).f0) == 1) = true := beq_iff_eq.mpr c7
              have c7b1 : (((rd_T37 l0 x3_1).f0) != 1) = false := bne_eq_false_iff_eq.mpr c7
              clear c7
              (first | rw [c7b0] | (simp only [i64_w, i32_w]; rw [c7b0]) | (have ce_ := c7b0; rw [List.beq_nil_eq] at ce_; rw [ce_]) | skip)
              have H' := Aside0.mk H
              clear H
              go_wp2
              go_meet
              case rel => exact ⟨_, ((((rd_T37 l0 x3_1).f0) == 1)), (by first | rfl | (simp; done) | (simp [*]; done)), H', ⟨by have := HK1.out; first | omega | exact Nat.le_refl _⟩, ⟨by (with_reducible repeat (first | refine blk_drewN ?_ _ | refine blk_drew ?_ | refine blk_alloc ?_ _)); refine blk_put (cs := #[.int .i64 ((rd_T37 l0 x3_1).f0), .slice A13101_1 ((rd_T37 l0 x3_1).f1).length c13101_1, .int .i64 0]) ?_ 2 _ rfl; (with_reducible repeat (first | refine blk_drewN ?_ _ | refine blk_drew ?_ | refine blk_alloc ?_ _)); refine blk_put (cs := #[.int .i64 ((rd_T37 l0 x3_1).f0), .slice none 0 0, .int .i64 0]) ?_ 1 _ rfl; (with_reducible repeat (first | refine blk_drewN ?_ _ | refine blk_drew ?_ | refine blk_alloc ?_ _)); refine blk_put (cs := #[.int .i64 0, .slice none 0 0, .int .i64 0]) ?_ 0 _ rfl; (with_reducible repeat (first | refine blk_drewN ?_ _ | refine blk_drew ?_ | refine blk_alloc ?_ _)); exact BK13102.out⟩, ⟨by repeat (first | (with_reducible first | exact HB.out | apply below_alloc | apply pw_below_drewN | apply below_drew1 | refine below_set ?_ GE13102.out) | exact HB.out)⟩⟩
            · rw [if_neg c7] at H
              have c7b0 : (((rd_T37 l0 x3_1).f0) == 1) = false := beq_eq_false_iff_ne.mpr c7
              have c7b1 : (((rd_T37 l0 x3_1).f0) != 1) = true := bne_iff_ne.mpr c7
              (first | rw [c7b0] | (simp only [i64_w, i32_w]; rw [c7b0]) | (have ce_ := c7b0; rw [List.beq_nil_eq] at ce_; rw [ce_]) | skip)
              have H' := Aside0.mk H
              clear H
              go_wp2
              go_meet
              case rel => exact ⟨_, ((((rd_T37 l0 x3_1).f0) == 4)), (by first | rfl | (simp; done) | (simp [*]; done)), H', ⟨by have := HK1.out; first | omega | exact Nat.le_refl _⟩, ⟨by (with_reducible repeat (first | refine blk_drewN ?_ _ | refine blk_drew ?_ | refine blk_alloc ?_ _)); refine blk_put (cs := #[.int .i64 ((rd_T37 l0 x3_1).f0), .slice A13101_1 ((rd_T37 l0 x3_1).f1).length c13101_1, .int .i64 0]) ?_ 2 _ rfl; (with_reducible repeat (first | refine blk_drewN ?_ _ | refine blk_drew ?_ | refine blk_alloc ?_ _)); refine blk_put (cs := #[.int .i64 ((rd_T37 l0 x3_1).f0), .slice none 0 0, .int .i64 0]) ?_ 1 _ rfl; (with_reducible repeat (first | refine blk_drewN ?_ _ | refine blk_drew ?_ | refine blk_alloc ?_ _)); refine blk_put (cs := #[.int .i64 0, .slice none 0 0, .int .i64 0]) ?_ 0 _ rfl; (with_reducible repeat (first | refine blk_drewN ?_ _ | refine blk_drew ?_ | refine blk_alloc ?_ _)); exact BK13102.out⟩, ⟨by repeat (first | (with_reducible first | exact HB.out | apply below_alloc | apply pw_below_drewN | apply below_drew1 | refine below_set ?_ GE13102.out) | exact HB.out)⟩⟩
          case rest =>
            clear HC4
            try clear c1
            try clear p1
            try clear q1
            try clear hx1
            try clear c2
            try clear c2b0
            try clear p2
            try clear c3
            try clear c3b0
            try clear c7
            try clear c7b0
            try clear c7b1
            try clear hcz6_0
            try clear hcz6_1
            try clear hcz6_2
            try clear hfz6_0
            try clear hfz6_1
            try clear hfz6_2
            try clear hx13101_0
            try clear hx13101_1
            try clear hx13101_2
            try clear p13101
            try clear q13101
            obtain ⟨kq, x21_3, rfl, HA, HJ3, BK13102, HB⟩ := hcut
            cases kq with
            | zero => exact absurd HA.out (by simp [siglumref05_Right.j1])
            | succ kj3 =>
              have H := HA.out
              clear HA
              simp only [siglumref05_Right.j1] at H
              by_cases c8 : x21_3 = true
              · subst c8
                have H1 : (if (((rd_T37 l0 x3_1).f1).length : Int) = 1 then (if 0 < (((rd_T37 l0 x3_1).f1).length : Int) then (if (rdOf ByteArray.empty ((rd_T37 l0 x3_1).f1) 0).toList = ([] : List UInt8) then (siglumref05_Right.j2 kj3 l0 x3_1 true ((rd_T37 l0 x3_1).f0) ((rd_T37 l0 x3_1).f1) ((rd_T37 l0 x3_1).f2)) else (siglumref05_Right.j2 kj3 l0 x3_1 (((rd_T37 l0 x3_1).f2) != 0) ((rd_T37 l0 x3_1).f0) ((rd_T37 l0 x3_1).f1) ((rd_T37 l0 x3_1).f2))) else (none)) else (siglumref05_Right.j2 kj3 l0 x3_1 true ((rd_T37 l0 x3_1).f0) ((rd_T37 l0 x3_1).f1) ((rd_T37 l0 x3_1).f2))) = some r := by rw [if_pos rfl] at H; exact H
                clear H
                have H := H1
                clear H1
                have HC9 := Aside0.mk H
                clear H
                go_upto_region 10 with (fail)
                go_cut [37] (fun v37 wc => ∃ (kq : Nat) (x37_8 : Bool), v37 = .bool x37_8 ∧ Aside0 (siglumref05_Right.j2 kq l0 x3_1 x37_8 ((rd_T37 l0 x3_1).f0) ((rd_T37 l0 x3_1).f1) ((rd_T37 l0 x3_1).f2) = some r) ∧ Aside0 (kq ≤ kj3) ∧ Aside0 (wc.heap[gb13102]? = some (.cells #[.int .i64 ((rd_T37 l0 x3_1).f0), (.slice A13101_1 ((rd_T37 l0 x3_1).f1).length c13101_1), .int .i64 ((rd_T37 l0 x3_1).f2)] 37 (0, 0))) ∧ Aside0 (Below w.heap.size w wc))
                case first =>
                  have H := HC9.out
                  clear HC9
                  by_cases c10 : (((rd_T37 l0 x3_1).f1).length : Int) = 1
                  · rw [if_pos c10] at H
                    have c10b0 : ((((rd_T37 l0 x3_1).f1).length : Int) == 1) = true := beq_iff_eq.mpr c10
                    have c10b1 : ((((rd_T37 l0 x3_1).f1).length : Int) != 1) = false := bne_eq_false_iff_eq.mpr c10
                    clear c10
                    (first | rw [c10b0] | (simp only [i64_w, i32_w]; rw [c10b0]) | (have ce_ := c10b0; rw [List.beq_nil_eq] at ce_; rw [ce_]) | skip)
                    by_cases c11 : 0 < (((rd_T37 l0 x3_1).f1).length : Int)
                    · rw [if_pos c11] at H
                      have c11b0 : decide (0 < (((rd_T37 l0 x3_1).f1).length : Int)) = true := decide_eq_true c11
                      have c11b1 : decide (0 < ((rd_T37 l0 x3_1).f1).length) = true := decide_eq_true (by omega)
                      clear c11
                      by_cases c12 : (rdOf ByteArray.empty ((rd_T37 l0 x3_1).f1) 0).toList = ([] : List UInt8)
                      · rw [if_pos c12] at H
                        have c12b0 : ((rdOf ByteArray.empty ((rd_T37 l0 x3_1).f1) 0).toList == ([] : List UInt8)) = true := beq_iff_eq.mpr c12
                        have c12b1 : ((rdOf ByteArray.empty ((rd_T37 l0 x3_1).f1) 0).toList != ([] : List UInt8)) = false := bne_eq_false_iff_eq.mpr c12
                        clear c12
                        have H' := Aside0.mk H
                        clear H
                        have hcz13_0 : wc.cell? ⟨gb13102, 0, none⟩ = some (.int .i64 ((rd_T37 l0 x3_1).f0)) := (blk_cell BK13102.out 0).trans rfl
                        have hcz13_1 : wc.cell? ⟨gb13102, 1, none⟩ = some (.slice A13101_1 ((rd_T37 l0 x3_1).f1).length c13101_1) := (blk_cell BK13102.out 1).trans rfl
                        have hcz13_2 : wc.cell? ⟨gb13102, 2, none⟩ = some (.int .i64 ((rd_T37 l0 x3_1).f2)) := (blk_cell BK13102.out 2).trans rfl
                        have hfz13_0 := blk_frozen BK13102.out 0
                        have hfz13_1 := blk_frozen BK13102.out 1
                        have hfz13_2 := blk_frozen BK13102.out 2
                        have p13103 : 0 ≤ (0 : Int) := (by omega)
                        have q13103 : 0 < (((rd_T37 l0 x3_1).f1).length : Int) := of_decide_eq_true (by first | (with_reducible assumption) | assumption)
                        obtain ⟨ad13103, e13103, hx13103_0⟩ := Kd.at_string HR13101_1.out 0 p13103 q13103
                        cases e13103
                        have qi13103 : (0 < ((rd_T37 l0 x3_1).f1).length) = True := eq_true (by omega)
                        (try rw [show ((0 : Int)).toNat = 0 from rfl] at hx13103_0)
                        (try rw [Addr.add_zero'] at hx13103_0)
                        replace hx13103_0 := (HB.out.cell (World.block_lt_of_cell? w _ hx13103_0)).trans hx13103_0
                        replace p13103 := eq_true p13103
                        replace q13103 := eq_true q13103
                        go_wp2
                        go_meet
                        case rel => exact ⟨_, (true), (by first | rfl | (simp; done) | (simp [*]; done)), H', ⟨by have := HK1.out; have := HJ3.out; first | omega | exact Nat.le_refl _⟩, ⟨by (with_reducible repeat (first | refine blk_drewN ?_ _ | refine blk_drew ?_ | refine blk_alloc ?_ _)); exact BK13102.out⟩, ⟨by repeat (first | (with_reducible first | exact HB.out | apply below_alloc | apply pw_below_drewN | apply below_drew1 | refine below_set ?_ GE13102.out) | exact HB.out)⟩⟩
                      · rw [if_neg c12] at H
                        have c12b0 : ((rdOf ByteArray.empty ((rd_T37 l0 x3_1).f1) 0).toList == ([] : List UInt8)) = false := beq_eq_false_iff_ne.mpr c12
                        have c12b1 : ((rdOf ByteArray.empty ((rd_T37 l0 x3_1).f1) 0).toList != ([] : List UInt8)) = true := bne_iff_ne.mpr c12
                        have H' := Aside0.mk H
                        clear H
                        have hcz14_0 : wc.cell? ⟨gb13102, 0, none⟩ = some (.int .i64 ((rd_T37 l0 x3_1).f0)) := (blk_cell BK13102.out 0).trans rfl
                        have hcz14_1 : wc.cell? ⟨gb13102, 1, none⟩ = some (.slice A13101_1 ((rd_T37 l0 x3_1).f1).length c13101_1) := (blk_cell BK13102.out 1).trans rfl
                        have hcz14_2 : wc.cell? ⟨gb13102, 2, none⟩ = some (.int .i64 ((rd_T37 l0 x3_1).f2)) := (blk_cell BK13102.out 2).trans rfl
                        have hfz14_0 := blk_frozen BK13102.out 0
                        have hfz14_1 := blk_frozen BK13102.out 1
                        have hfz14_2 := blk_frozen BK13102.out 2
                        have p13103 : 0 ≤ (0 : Int) := (by omega)
                        have q13103 : 0 < (((rd_T37 l0 x3_1).f1).length : Int) := of_decide_eq_true (by first | (with_reducible assumption) | assumption)
                        obtain ⟨ad13103, e13103, hx13103_0⟩ := Kd.at_string HR13101_1.out 0 p13103 q13103
                        cases e13103
                        have qi13103 : (0 < ((rd_T37 l0 x3_1).f1).length) = True := eq_true (by omega)
                        (try rw [show ((0 : Int)).toNat = 0 from rfl] at hx13103_0)
                        (try rw [Addr.add_zero'] at hx13103_0)
                        replace hx13103_0 := (HB.out.cell (World.block_lt_of_cell? w _ hx13103_0)).trans hx13103_0
                        replace p13103 := eq_true p13103
                        replace q13103 := eq_true q13103
                        go_wp2
                        go_meet
                        case rel => exact ⟨_, ((((rd_T37 l0 x3_1).f2) != 0)), (by first | rfl | (simp; done) | (simp [*]; done)), H', ⟨by have := HK1.out; have := HJ3.out; first | omega | exact Nat.le_refl _⟩, ⟨by (with_reducible repeat (first | refine blk_drewN ?_ _ | refine blk_drew ?_ | refine blk_alloc ?_ _)); exact BK13102.out⟩, ⟨by repeat (first | (with_reducible first | exact HB.out | apply below_alloc | apply pw_below_drewN | apply below_drew1 | refine below_set ?_ GE13102.out) | exact HB.out)⟩⟩
                    · rw [if_neg c11] at H
                      exact absurd H (by simp)
                  · rw [if_neg c10] at H
                    have c10b0 : ((((rd_T37 l0 x3_1).f1).length : Int) == 1) = false := beq_eq_false_iff_ne.mpr c10
                    have c10b1 : ((((rd_T37 l0 x3_1).f1).length : Int) != 1) = true := bne_iff_ne.mpr c10
                    (first | rw [c10b0] | (simp only [i64_w, i32_w]; rw [c10b0]) | (have ce_ := c10b0; rw [List.beq_nil_eq] at ce_; rw [ce_]) | skip)
                    have H' := Aside0.mk H
                    clear H
                    go_wp2
                    go_meet
                    case rel => exact ⟨_, (true), (by first | rfl | (simp; done) | (simp [*]; done)), H', ⟨by have := HK1.out; have := HJ3.out; first | omega | exact Nat.le_refl _⟩, ⟨by (with_reducible repeat (first | refine blk_drewN ?_ _ | refine blk_drew ?_ | refine blk_alloc ?_ _)); exact BK13102.out⟩, ⟨by repeat (first | (with_reducible first | exact HB.out | apply below_alloc | apply pw_below_drewN | apply below_drew1 | refine below_set ?_ GE13102.out) | exact HB.out)⟩⟩
                case rest =>
                  clear HC9
                  try clear c1
                  try clear p1
                  try clear q1
                  try clear hx1
                  try clear qi1
                  try clear c2
                  try clear c2b0
                  try clear p2
                  try clear c3
                  try clear c3b0
                  try clear c7
                  try clear c7b0
                  try clear c7b1
                  try clear c8
                  try clear c10
                  try clear c10b0
                  try clear c10b1
                  try clear c11
                  try clear c11b0
                  try clear c11b1
                  try clear c12
                  try clear c12b0
                  try clear c12b1
                  try clear c13
                  try clear p13
                  try clear q13
                  try clear hx13
                  try clear qi13
                  try clear hcz13_0
                  try clear hcz13_1
                  try clear hcz13_2
                  try clear hcz14_0
                  try clear hcz14_1
                  try clear hcz14_2
                  try clear hcz6_0
                  try clear hcz6_1
                  try clear hcz6_2
                  try clear hfz13_0
                  try clear hfz13_1
                  try clear hfz13_2
                  try clear hfz14_0
                  try clear hfz14_1
                  try clear hfz14_2
                  try clear hfz6_0
                  try clear hfz6_1
                  try clear hfz6_2
                  try clear hx13101_0
                  try clear hx13101_1
                  try clear hx13101_2
                  try clear hx13103_0
                  try clear p1
                  try clear p13101
                  try clear p13103
                  try clear p2
                  try clear q1
                  try clear q13101
                  try clear q13103
                  obtain ⟨kq, x37_8, rfl, HA, HJ8, BK13102, HB⟩ := hcut
                  cases kq with
                  | zero => exact absurd HA.out (by simp [siglumref05_Right.j2])
                  | succ kj8 =>
                    have H := HA.out
                    clear HA
                    simp only [siglumref05_Right.j2] at H
                    by_cases c15 : x37_8 = true
                    · subst c15
                      have H1 : (some false) = some r := by rw [if_pos rfl] at H; exact H
                      clear H
                      have H := H1
                      clear H1
                      obtain rfl := Option.some.inj H
                      go_wp2
                      go_ret
                      exact ⟨by first | rfl | (simp [errW_none, errW_some] <;> rfl) | (simp [*, errW_none, errW_some] <;> rfl), by repeat (first | (with_reducible first | exact HB.out | apply below_alloc | apply pw_below_drewN | apply below_drew1 | refine below_set ?_ GE13102.out) | exact HB.out)⟩
                    · replace c15 := Bool.eq_false_iff.mpr c15
                      subst c15
                      have H1 : (if ((rd_T37 l0 x3_1).f0) = 1 then (if x3_1 > 0 then (if 0 ≤ (wrap64 (x3_1 - 1)) then (if (wrap64 (x3_1 - 1)) < (l0.length : Int) then (if ((rd_T37 l0 (wrap64 (x3_1 - 1))).f0) = 1 then (some false) else (siglumref05_Right.l0 kj8 l0 (wrap64 (x3_1 + 1)))) else (none)) else (none)) else (siglumref05_Right.l0 kj8 l0 (wrap64 (x3_1 + 1)))) else (siglumref05_Right.l0 kj8 l0 (wrap64 (x3_1 + 1)))) = some r := by rw [if_neg (show ¬ (false = true) by decide)] at H; exact H
                      clear H
                      have H := H1
                      clear H1
                      by_cases c16 : ((rd_T37 l0 x3_1).f0) = 1
                      · rw [if_pos c16] at H
                        have c16b0 : (((rd_T37 l0 x3_1).f0) == 1) = true := beq_iff_eq.mpr c16
                        have c16b1 : (((rd_T37 l0 x3_1).f0) != 1) = false := bne_eq_false_iff_eq.mpr c16
                        clear c16
                        by_cases c17 : x3_1 > 0
                        · rw [if_pos c17] at H
                          have c17b0 : decide (0 < x3_1) = true := decide_eq_true c17
                          clear c17
                          obtain ⟨ji18, hji18⟩ : ∃ j_ : Int, (wrap64 (x3_1 - 1)) = j_ := ⟨_, rfl⟩
                          replace H : (if 0 ≤ (ji18) then (if (ji18) < (l0.length : Int) then (if ((rd_T37 l0 (ji18)).f0) = 1 then (some false) else (siglumref05_Right.l0 kj8 l0 (wrap64 (x3_1 + 1)))) else (none)) else (none)) = some r := by first | (rw [hji18] at H; exact H) | (simp only [hji18] at H ⊢; exact H)
                          have hji18w : (IntKind.i64.wrap (x3_1 - 1)) = ji18 := (i64_w _).trans hji18
                          by_cases c19 : 0 ≤ (ji18)
                          · rw [if_pos c19] at H
                            have c19b0 : decide (0 ≤ (ji18)) = true := decide_eq_true c19
                            clear c19
                            by_cases c20 : (ji18) < (l0.length : Int)
                            · rw [if_pos c20] at H
                              have c20b0 : decide ((ji18) < (l0.length : Int)) = true := decide_eq_true c20
                              clear c20
                              by_cases c21 : ((rd_T37 l0 (ji18)).f0) = 1
                              · rw [if_pos c21] at H
                                have c21b0 : (((rd_T37 l0 (ji18)).f0) == 1) = true := beq_iff_eq.mpr c21
                                have c21b1 : (((rd_T37 l0 (ji18)).f0) != 1) = false := bne_eq_false_iff_eq.mpr c21
                                clear c21
                                obtain rfl := Option.some.inj H
                                have hcz22_0 : wc.cell? ⟨gb13102, 0, none⟩ = some (.int .i64 ((rd_T37 l0 x3_1).f0)) := (blk_cell BK13102.out 0).trans rfl
                                have hcz22_1 : wc.cell? ⟨gb13102, 1, none⟩ = some (.slice A13101_1 ((rd_T37 l0 x3_1).f1).length c13101_1) := (blk_cell BK13102.out 1).trans rfl
                                have hcz22_2 : wc.cell? ⟨gb13102, 2, none⟩ = some (.int .i64 ((rd_T37 l0 x3_1).f2)) := (blk_cell BK13102.out 2).trans rfl
                                have hfz22_0 := blk_frozen BK13102.out 0
                                have hfz22_1 := blk_frozen BK13102.out 1
                                have hfz22_2 := blk_frozen BK13102.out 2
                                have p13104 : 0 ≤ ((ji18) : Int) := of_decide_eq_true (by first | (with_reducible assumption) | assumption)
                                have q13104 : (ji18) < (l0.length : Int) := of_decide_eq_true (by first | (with_reducible assumption) | assumption)
                                obtain ⟨ad13104, A13104_1, c13104_1, e13104, hx13104_0, hx13104_1, hx13104_2, hl13104_1, hi13104_1⟩ := at_T37 HR0.out (ji18) p13104 q13104
                                obtain rfl : ad13101 = ad13104 := (by injection e13104)
                                replace hx13104_0 := (HB.out.cell (World.block_lt_of_cell? w _ hx13104_0)).trans hx13104_0
                                replace hx13104_1 := (HB.out.cell (World.block_lt_of_cell? w _ hx13104_1)).trans hx13104_1
                                replace hx13104_2 := (HB.out.cell (World.block_lt_of_cell? w _ hx13104_2)).trans hx13104_2
                                have HR13104_1 := Aside0.mk hi13104_1
                                have HC13104_1 := Aside0.mk hl13104_1
                                clear hi13104_1 hl13104_1
                                replace p13104 := eq_true p13104
                                replace q13104 := eq_true q13104
                                go_wp2
                                go_ret
                                exact ⟨by first | rfl | (simp [errW_none, errW_some] <;> rfl) | (simp only [← hji18]; first | rfl | (simp [errW_none, errW_some] <;> rfl)) | (simp [*, errW_none, errW_some] <;> rfl), by repeat (first | (with_reducible first | exact HB.out | apply below_alloc | apply pw_below_drewN | apply below_drew1 | refine below_set ?_ GE13102.out) | exact HB.out)⟩
                              · rw [if_neg c21] at H
                                have c21b0 : (((rd_T37 l0 (ji18)).f0) == 1) = false := beq_eq_false_iff_ne.mpr c21
                                have c21b1 : (((rd_T37 l0 (ji18)).f0) != 1) = true := bne_iff_ne.mpr c21
                                have H' := Aside0.mk H
                                clear H
                                have hcz23_0 : wc.cell? ⟨gb13102, 0, none⟩ = some (.int .i64 ((rd_T37 l0 x3_1).f0)) := (blk_cell BK13102.out 0).trans rfl
                                have hcz23_1 : wc.cell? ⟨gb13102, 1, none⟩ = some (.slice A13101_1 ((rd_T37 l0 x3_1).f1).length c13101_1) := (blk_cell BK13102.out 1).trans rfl
                                have hcz23_2 : wc.cell? ⟨gb13102, 2, none⟩ = some (.int .i64 ((rd_T37 l0 x3_1).f2)) := (blk_cell BK13102.out 2).trans rfl
                                have hfz23_0 := blk_frozen BK13102.out 0
                                have hfz23_1 := blk_frozen BK13102.out 1
                                have hfz23_2 := blk_frozen BK13102.out 2
                                have p13104 : 0 ≤ ((ji18) : Int) := of_decide_eq_true (by first | (with_reducible assumption) | assumption)
                                have q13104 : (ji18) < (l0.length : Int) := of_decide_eq_true (by first | (with_reducible assumption) | assumption)
                                obtain ⟨ad13104, A13104_1, c13104_1, e13104, hx13104_0, hx13104_1, hx13104_2, hl13104_1, hi13104_1⟩ := at_T37 HR0.out (ji18) p13104 q13104
                                obtain rfl : ad13101 = ad13104 := (by injection e13104)
                                replace hx13104_0 := (HB.out.cell (World.block_lt_of_cell? w _ hx13104_0)).trans hx13104_0
                                replace hx13104_1 := (HB.out.cell (World.block_lt_of_cell? w _ hx13104_1)).trans hx13104_1
                                replace hx13104_2 := (HB.out.cell (World.block_lt_of_cell? w _ hx13104_2)).trans hx13104_2
                                have HR13104_1 := Aside0.mk hi13104_1
                                have HC13104_1 := Aside0.mk hl13104_1
                                clear hi13104_1 hl13104_1
                                replace p13104 := eq_true p13104
                                replace q13104 := eq_true q13104
                                go_wp2
                                go_roundg kj8
                                case measure => have := HK1.out; have := HJ3.out; have := HJ8.out; omega
                                case rel => exact ⟨(wrap64 (x3_1 + 1)), (by first | rfl | (simp; done) | (simp [*]; done)), H', ⟨by have := HK1.out; have := HJ3.out; have := HJ8.out; omega⟩, ⟨by repeat (first | (with_reducible first | exact HB.out | apply below_alloc | apply pw_below_drewN | apply below_drew1 | refine below_set ?_ GE13102.out) | exact HB.out)⟩⟩
                            · rw [if_neg c20] at H
                              exact absurd H (by simp)
                          · rw [if_neg c19] at H
                            exact absurd H (by simp)
                        · rw [if_neg c17] at H
                          have c17b0 : decide (0 < x3_1) = false := decide_eq_false c17
                          clear c17
                          have H' := Aside0.mk H
                          clear H
                          have hcz24_0 : wc.cell? ⟨gb13102, 0, none⟩ = some (.int .i64 ((rd_T37 l0 x3_1).f0)) := (blk_cell BK13102.out 0).trans rfl
                          have hcz24_1 : wc.cell? ⟨gb13102, 1, none⟩ = some (.slice A13101_1 ((rd_T37 l0 x3_1).f1).length c13101_1) := (blk_cell BK13102.out 1).trans rfl
                          have hcz24_2 : wc.cell? ⟨gb13102, 2, none⟩ = some (.int .i64 ((rd_T37 l0 x3_1).f2)) := (blk_cell BK13102.out 2).trans rfl
                          have hfz24_0 := blk_frozen BK13102.out 0
                          have hfz24_1 := blk_frozen BK13102.out 1
                          have hfz24_2 := blk_frozen BK13102.out 2
                          go_wp2
                          go_roundg kj8
                          case measure => have := HK1.out; have := HJ3.out; have := HJ8.out; omega
                          case rel => exact ⟨(wrap64 (x3_1 + 1)), (by first | rfl | (simp; done) | (simp [*]; done)), H', ⟨by have := HK1.out; have := HJ3.out; have := HJ8.out; omega⟩, ⟨by repeat (first | (with_reducible first | exact HB.out | apply below_alloc | apply pw_below_drewN | apply below_drew1 | refine below_set ?_ GE13102.out) | exact HB.out)⟩⟩
                      · rw [if_neg c16] at H
                        have c16b0 : (((rd_T37 l0 x3_1).f0) == 1) = false := beq_eq_false_iff_ne.mpr c16
                        have c16b1 : (((rd_T37 l0 x3_1).f0) != 1) = true := bne_iff_ne.mpr c16
                        have H' := Aside0.mk H
                        clear H
                        have hcz25_0 : wc.cell? ⟨gb13102, 0, none⟩ = some (.int .i64 ((rd_T37 l0 x3_1).f0)) := (blk_cell BK13102.out 0).trans rfl
                        have hcz25_1 : wc.cell? ⟨gb13102, 1, none⟩ = some (.slice A13101_1 ((rd_T37 l0 x3_1).f1).length c13101_1) := (blk_cell BK13102.out 1).trans rfl
                        have hcz25_2 : wc.cell? ⟨gb13102, 2, none⟩ = some (.int .i64 ((rd_T37 l0 x3_1).f2)) := (blk_cell BK13102.out 2).trans rfl
                        have hfz25_0 := blk_frozen BK13102.out 0
                        have hfz25_1 := blk_frozen BK13102.out 1
                        have hfz25_2 := blk_frozen BK13102.out 2
                        go_wp2
                        go_roundg kj8
                        case measure => have := HK1.out; have := HJ3.out; have := HJ8.out; omega
                        case rel => exact ⟨(wrap64 (x3_1 + 1)), (by first | rfl | (simp; done) | (simp [*]; done)), H', ⟨by have := HK1.out; have := HJ3.out; have := HJ8.out; omega⟩, ⟨by repeat (first | (with_reducible first | exact HB.out | apply below_alloc | apply pw_below_drewN | apply below_drew1 | refine below_set ?_ GE13102.out) | exact HB.out)⟩⟩
              · replace c8 := Bool.eq_false_iff.mpr c8
                subst c8
                have H1 : (if ((rd_T37 l0 x3_1).f0) = 2 then (if (((rd_T37 l0 x3_1).f1).length : Int) = 0 then (if ((rd_T37 l0 x3_1).f2) < 1 then (some false) else (if ((rd_T37 l0 x3_1).f2) > 99 then (some false) else (siglumref05_Right.l0 kj3 l0 (wrap64 (x3_1 + 1))))) else (some false)) else (if ((rd_T37 l0 x3_1).f0) = 3 then (if (((rd_T37 l0 x3_1).f1).length : Int) < 2 then (some false) else (if (((rd_T37 l0 x3_1).f1).length : Int) > 4 then (some false) else (if ((rd_T37 l0 x3_1).f2) = 0 then (siglumref05_Right.l0 kj3 l0 (wrap64 (x3_1 + 1))) else (some false)))) else (some false))) = some r := by rw [if_neg (show ¬ (false = true) by decide)] at H; exact H
                clear H
                have H := H1
                clear H1
                by_cases c26 : ((rd_T37 l0 x3_1).f0) = 2
                · rw [if_pos c26] at H
                  have c26b0 : (((rd_T37 l0 x3_1).f0) == 2) = true := beq_iff_eq.mpr c26
                  have c26b1 : (((rd_T37 l0 x3_1).f0) != 2) = false := bne_eq_false_iff_eq.mpr c26
                  clear c26
                  by_cases c27 : (((rd_T37 l0 x3_1).f1).length : Int) = 0
                  · rw [if_pos c27] at H
                    have c27b0 : ((((rd_T37 l0 x3_1).f1).length : Int) == 0) = true := beq_iff_eq.mpr c27
                    have c27b1 : ((((rd_T37 l0 x3_1).f1).length : Int) != 0) = false := bne_eq_false_iff_eq.mpr c27
                    clear c27
                    by_cases c28 : ((rd_T37 l0 x3_1).f2) < 1
                    · rw [if_pos c28] at H
                      have c28b0 : decide (((rd_T37 l0 x3_1).f2) < 1) = true := decide_eq_true c28
                      clear c28
                      obtain rfl := Option.some.inj H
                      have hcz29_0 : wc.cell? ⟨gb13102, 0, none⟩ = some (.int .i64 ((rd_T37 l0 x3_1).f0)) := (blk_cell BK13102.out 0).trans rfl
                      have hcz29_1 : wc.cell? ⟨gb13102, 1, none⟩ = some (.slice A13101_1 ((rd_T37 l0 x3_1).f1).length c13101_1) := (blk_cell BK13102.out 1).trans rfl
                      have hcz29_2 : wc.cell? ⟨gb13102, 2, none⟩ = some (.int .i64 ((rd_T37 l0 x3_1).f2)) := (blk_cell BK13102.out 2).trans rfl
                      have hfz29_0 := blk_frozen BK13102.out 0
                      have hfz29_1 := blk_frozen BK13102.out 1
                      have hfz29_2 := blk_frozen BK13102.out 2
                      go_wp2
                      go_ret
                      exact ⟨by first | rfl | (simp [errW_none, errW_some] <;> rfl) | (simp [*, errW_none, errW_some] <;> rfl), by repeat (first | (with_reducible first | exact HB.out | apply below_alloc | apply pw_below_drewN | apply below_drew1 | refine below_set ?_ GE13102.out) | exact HB.out)⟩
                    · rw [if_neg c28] at H
                      have c28b0 : decide (((rd_T37 l0 x3_1).f2) < 1) = false := decide_eq_false c28
                      clear c28
                      by_cases c30 : ((rd_T37 l0 x3_1).f2) > 99
                      · rw [if_pos c30] at H
                        have c30b0 : decide (99 < ((rd_T37 l0 x3_1).f2)) = true := decide_eq_true c30
                        clear c30
                        obtain rfl := Option.some.inj H
                        have hcz31_0 : wc.cell? ⟨gb13102, 0, none⟩ = some (.int .i64 ((rd_T37 l0 x3_1).f0)) := (blk_cell BK13102.out 0).trans rfl
                        have hcz31_1 : wc.cell? ⟨gb13102, 1, none⟩ = some (.slice A13101_1 ((rd_T37 l0 x3_1).f1).length c13101_1) := (blk_cell BK13102.out 1).trans rfl
                        have hcz31_2 : wc.cell? ⟨gb13102, 2, none⟩ = some (.int .i64 ((rd_T37 l0 x3_1).f2)) := (blk_cell BK13102.out 2).trans rfl
                        have hfz31_0 := blk_frozen BK13102.out 0
                        have hfz31_1 := blk_frozen BK13102.out 1
                        have hfz31_2 := blk_frozen BK13102.out 2
                        go_wp2
                        go_ret
                        exact ⟨by first | rfl | (simp [errW_none, errW_some] <;> rfl) | (simp [*, errW_none, errW_some] <;> rfl), by repeat (first | (with_reducible first | exact HB.out | apply below_alloc | apply pw_below_drewN | apply below_drew1 | refine below_set ?_ GE13102.out) | exact HB.out)⟩
                      · rw [if_neg c30] at H
                        have c30b0 : decide (99 < ((rd_T37 l0 x3_1).f2)) = false := decide_eq_false c30
                        clear c30
                        have H' := Aside0.mk H
                        clear H
                        have hcz32_0 : wc.cell? ⟨gb13102, 0, none⟩ = some (.int .i64 ((rd_T37 l0 x3_1).f0)) := (blk_cell BK13102.out 0).trans rfl
                        have hcz32_1 : wc.cell? ⟨gb13102, 1, none⟩ = some (.slice A13101_1 ((rd_T37 l0 x3_1).f1).length c13101_1) := (blk_cell BK13102.out 1).trans rfl
                        have hcz32_2 : wc.cell? ⟨gb13102, 2, none⟩ = some (.int .i64 ((rd_T37 l0 x3_1).f2)) := (blk_cell BK13102.out 2).trans rfl
                        have hfz32_0 := blk_frozen BK13102.out 0
                        have hfz32_1 := blk_frozen BK13102.out 1
                        have hfz32_2 := blk_frozen BK13102.out 2
                        go_wp2
                        go_roundg kj3
                        case measure => have := HK1.out; have := HJ3.out; omega
                        case rel => exact ⟨(wrap64 (x3_1 + 1)), (by first | rfl | (simp; done) | (simp [*]; done)), H', ⟨by have := HK1.out; have := HJ3.out; omega⟩, ⟨by repeat (first | (with_reducible first | exact HB.out | apply below_alloc | apply pw_below_drewN | apply below_drew1 | refine below_set ?_ GE13102.out) | exact HB.out)⟩⟩
                  · rw [if_neg c27] at H
                    have c27b0 : ((((rd_T37 l0 x3_1).f1).length : Int) == 0) = false := beq_eq_false_iff_ne.mpr c27
                    have c27b1 : ((((rd_T37 l0 x3_1).f1).length : Int) != 0) = true := bne_iff_ne.mpr c27
                    have c27b2 : ¬ (((rd_T37 l0 x3_1).f1) = []) := fun h_ => c27 (by rw [h_]; rfl)
                    obtain rfl := Option.some.inj H
                    go_wp2
                    go_ret
                    exact ⟨by first | rfl | (simp [errW_none, errW_some] <;> rfl) | (simp [*, errW_none, errW_some] <;> rfl), by repeat (first | (with_reducible first | exact HB.out | apply below_alloc | apply pw_below_drewN | apply below_drew1 | refine below_set ?_ GE13102.out) | exact HB.out)⟩
                · rw [if_neg c26] at H
                  have c26b0 : (((rd_T37 l0 x3_1).f0) == 2) = false := beq_eq_false_iff_ne.mpr c26
                  have c26b1 : (((rd_T37 l0 x3_1).f0) != 2) = true := bne_iff_ne.mpr c26
                  by_cases c33 : ((rd_T37 l0 x3_1).f0) = 3
                  · rw [if_pos c33] at H
                    have c33b0 : (((rd_T37 l0 x3_1).f0) == 3) = true := beq_iff_eq.mpr c33
                    have c33b1 : (((rd_T37 l0 x3_1).f0) != 3) = false := bne_eq_false_iff_eq.mpr c33
                    clear c33
                    by_cases c34 : (((rd_T37 l0 x3_1).f1).length : Int) < 2
                    · rw [if_pos c34] at H
                      have c34b0 : decide ((((rd_T37 l0 x3_1).f1).length : Int) < 2) = true := decide_eq_true c34
                      have c34b1 : decide (((rd_T37 l0 x3_1).f1).length < 2) = true := decide_eq_true (by omega)
                      clear c34
                      obtain rfl := Option.some.inj H
                      go_wp2
                      go_ret
                      exact ⟨by first | rfl | (simp [errW_none, errW_some] <;> rfl) | (simp [*, errW_none, errW_some] <;> rfl), by repeat (first | (with_reducible first | exact HB.out | apply below_alloc | apply pw_below_drewN | apply below_drew1 | refine below_set ?_ GE13102.out) | exact HB.out)⟩
                    · rw [if_neg c34] at H
                      have c34b0 : decide ((((rd_T37 l0 x3_1).f1).length : Int) < 2) = false := decide_eq_false c34
                      have c34b1 : decide (((rd_T37 l0 x3_1).f1).length < 2) = false := decide_eq_false (by omega)
                      clear c34
                      by_cases c35 : (((rd_T37 l0 x3_1).f1).length : Int) > 4
                      · rw [if_pos c35] at H
                        have c35b0 : decide (4 < (((rd_T37 l0 x3_1).f1).length : Int)) = true := decide_eq_true c35
                        have c35b1 : decide (4 < ((rd_T37 l0 x3_1).f1).length) = true := decide_eq_true (by omega)
                        clear c35
                        obtain rfl := Option.some.inj H
                        go_wp2
                        go_ret
                        exact ⟨by first | rfl | (simp [errW_none, errW_some] <;> rfl) | (simp [*, errW_none, errW_some] <;> rfl), by repeat (first | (with_reducible first | exact HB.out | apply below_alloc | apply pw_below_drewN | apply below_drew1 | refine below_set ?_ GE13102.out) | exact HB.out)⟩
                      · rw [if_neg c35] at H
                        have c35b0 : decide (4 < (((rd_T37 l0 x3_1).f1).length : Int)) = false := decide_eq_false c35
                        have c35b1 : decide (4 < ((rd_T37 l0 x3_1).f1).length) = false := decide_eq_false (by omega)
                        clear c35
                        by_cases c36 : ((rd_T37 l0 x3_1).f2) = 0
                        · rw [if_pos c36] at H
                          have c36b0 : (((rd_T37 l0 x3_1).f2) == 0) = true := beq_iff_eq.mpr c36
                          have c36b1 : (((rd_T37 l0 x3_1).f2) != 0) = false := bne_eq_false_iff_eq.mpr c36
                          clear c36
                          have H' := Aside0.mk H
                          clear H
                          have hcz37_0 : wc.cell? ⟨gb13102, 0, none⟩ = some (.int .i64 ((rd_T37 l0 x3_1).f0)) := (blk_cell BK13102.out 0).trans rfl
                          have hcz37_1 : wc.cell? ⟨gb13102, 1, none⟩ = some (.slice A13101_1 ((rd_T37 l0 x3_1).f1).length c13101_1) := (blk_cell BK13102.out 1).trans rfl
                          have hcz37_2 : wc.cell? ⟨gb13102, 2, none⟩ = some (.int .i64 ((rd_T37 l0 x3_1).f2)) := (blk_cell BK13102.out 2).trans rfl
                          have hfz37_0 := blk_frozen BK13102.out 0
                          have hfz37_1 := blk_frozen BK13102.out 1
                          have hfz37_2 := blk_frozen BK13102.out 2
                          go_wp2
                          go_roundg kj3
                          case measure => have := HK1.out; have := HJ3.out; omega
                          case rel => exact ⟨(wrap64 (x3_1 + 1)), (by first | rfl | (simp; done) | (simp [*]; done)), H', ⟨by have := HK1.out; have := HJ3.out; omega⟩, ⟨by repeat (first | (with_reducible first | exact HB.out | apply below_alloc | apply pw_below_drewN | apply below_drew1 | refine below_set ?_ GE13102.out) | exact HB.out)⟩⟩
                        · rw [if_neg c36] at H
                          have c36b0 : (((rd_T37 l0 x3_1).f2) == 0) = false := beq_eq_false_iff_ne.mpr c36
                          have c36b1 : (((rd_T37 l0 x3_1).f2) != 0) = true := bne_iff_ne.mpr c36
                          obtain rfl := Option.some.inj H
                          have hcz38_0 : wc.cell? ⟨gb13102, 0, none⟩ = some (.int .i64 ((rd_T37 l0 x3_1).f0)) := (blk_cell BK13102.out 0).trans rfl
                          have hcz38_1 : wc.cell? ⟨gb13102, 1, none⟩ = some (.slice A13101_1 ((rd_T37 l0 x3_1).f1).length c13101_1) := (blk_cell BK13102.out 1).trans rfl
                          have hcz38_2 : wc.cell? ⟨gb13102, 2, none⟩ = some (.int .i64 ((rd_T37 l0 x3_1).f2)) := (blk_cell BK13102.out 2).trans rfl
                          have hfz38_0 := blk_frozen BK13102.out 0
                          have hfz38_1 := blk_frozen BK13102.out 1
                          have hfz38_2 := blk_frozen BK13102.out 2
                          go_wp2
                          go_ret
                          exact ⟨by first | rfl | (simp [errW_none, errW_some] <;> rfl) | (simp [*, errW_none, errW_some] <;> rfl), by repeat (first | (with_reducible first | exact HB.out | apply below_alloc | apply pw_below_drewN | apply below_drew1 | refine below_set ?_ GE13102.out) | exact HB.out)⟩
                  · rw [if_neg c33] at H
                    have c33b0 : (((rd_T37 l0 x3_1).f0) == 3) = false := beq_eq_false_iff_ne.mpr c33
                    have c33b1 : (((rd_T37 l0 x3_1).f0) != 3) = true := bne_iff_ne.mpr c33
                    obtain rfl := Option.some.inj H
                    go_wp2
                    go_ret
                    exact ⟨by first | rfl | (simp [errW_none, errW_some] <;> rfl) | (simp [*, errW_none, errW_some] <;> rfl), by repeat (first | (with_reducible first | exact HB.out | apply below_alloc | apply pw_below_drewN | apply below_drew1 | refine below_set ?_ GE13102.out) | exact HB.out)⟩
        · rw [if_neg c3] at H
          exact absurd H (by simp)
      · rw [if_neg c2] at H
        have c2b0 : decide (x3_1 < (l0.length : Int)) = false := decide_eq_false c2
        clear c2
        obtain rfl := Option.some.inj H
        go_wp2
        go_ret
        exact ⟨by first | rfl | (simp [errW_none, errW_some] <;> rfl) | (simp [*, errW_none, errW_some] <;> rfl), by repeat (first | (with_reducible first | exact HB.out | apply below_alloc | apply pw_below_drewN | apply below_drew1) | exact HB.out)⟩

end Go.Proofs.Ytpmiaaphmgoapaa.H
