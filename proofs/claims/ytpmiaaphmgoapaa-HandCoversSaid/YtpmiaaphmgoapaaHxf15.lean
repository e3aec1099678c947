-- Printed by hprint.py (this session's program over the kit's print) out of the translation; the parts 'by hand' are the session's own.
import Derived.Test.YtpmiaaphmgoapaaHx0
import Derived.Test.YtpmiaaphmgoapaaHxf19
namespace Go.Proofs.Ytpmiaaphmgoapaa.H
open Go.RowKit Go.Proofs.YtpmiaaphmgoapaaW.PrintWords Go.Proofs.YtpmiaaphmgoapaaW.PrintLast Go.Proofs.YtpmiaaphmgoapaaW.PrintMore
attribute [local go_sem] max2_int min2_int max_two min_two max_three min_three max_four min_four   -- for this text's walks alone
set_option linter.unusedVariables false
set_option linter.unusedSimpArgs false

/-! ### hand_Lost: function 15 -/
def hand_Lost.l0 : Nat → Int → List (S37) → Int → Int → Option (Int × Int)
  | 0, _, _, _, _ => none
  | k + 1, x6, x17, x18, x19 => if x19 < x18 then (if 0 ≤ x19 then (if x19 < (x17.length : Int) then (if ((rd_T37 x17 x19).f0) = 2 then (hand_Lost.l0 k (wrap64 (x6 + ((rd_T37 x17 x19).f2))) x17 x18 (wrap64 (x19 + 1))) else (hand_Lost.l0 k x6 x17 x18 (wrap64 (x19 + 1)))) else (none)) else (none)) else (some (x6, 0))
def hand_Lost.f (k : Nat) (l0 : List (S37)) : Option (Int × Int) := (mark_Hands.f k l0).bind fun bt15101 => (if bt15101.2 = 0 then (hand_Lost.l0 k 0 l0 (l0.length : Int) 0) else (some (0, bt15101.2)))
theorem hand_Lost.mono_l : ∀ k, (∀ y0 y1 y2 y3, LeO (hand_Lost.l0 k y0 y1 y2 y3) (hand_Lost.l0 (k + 1) y0 y1 y2 y3))
  | 0 => fun _ _ _ _ r h => by simp [hand_Lost.l0] at h
  | k + 1 => by
    have ih0 := hand_Lost.mono_l k
    · intro y0 y1 y2 y3
      unfold hand_Lost.l0
      repeat' first
      | (with_reducible exact ih0 _ _ _ _)
      | (with_reducible exact mark_Hands.mono _ _)
      | (with_reducible exact LeO.refl _)
      | (with_reducible exact LeO.none _)
      | (with_reducible refine LeO.ite ?_ ?_)
      | (with_reducible refine LeO.bind ?_ (fun _ => ?_))
      | exact ih0 _ _ _ _
      | exact mark_Hands.mono _ _
      | exact LeO.none _
      | refine LeO.ite ?_ ?_
      | refine LeO.bind ?_ (fun _ => ?_)
theorem hand_Lost.mono : ∀ a0 k, LeO (hand_Lost.f k a0) (hand_Lost.f (k + 1) a0) := by
  intro a0 k
  have ih0 := hand_Lost.mono_l k
  unfold hand_Lost.f
  repeat' first
      | (with_reducible exact ih0 _ _ _ _)
      | (with_reducible exact mark_Hands.mono _ _)
      | (with_reducible exact LeO.refl _)
      | (with_reducible exact LeO.none _)
      | (with_reducible refine LeO.ite ?_ ?_)
      | (with_reducible refine LeO.bind ?_ (fun _ => ?_))
      | exact ih0 _ _ _ _
      | exact mark_Hands.mono _ _
      | exact LeO.none _
      | refine LeO.ite ?_ ?_
      | refine LeO.bind ?_ (fun _ => ?_)
set_option maxHeartbeats 8000000 in
set_option maxRecDepth 100000 in
theorem hand_Lost.calls (k : Nat) (A0 : Option Addr) (c0 : Nat) (l0 : List (S37)) (r1 : Int) (r2 : Int) (w : World) (hr0 : Kd.C k37 w A0 l0.length l0) (hc0 : l0.length ≤ c0) (h : hand_Lost.f k l0 = some (r1, r2)) :
    Calls Try.prog 15 #[.slice A0 l0.length c0] w fun e w' => e = .returned (.tuple #[.int .i64 r1, .int .i64 r2]) ∧ Below w.heap.size w w' := by
  have hu37 := Try.underlying37
  have HR0 := Aside0.mk hr0
  have HC0 := Aside0.mk hc0
  clear hr0 hc0
  have HB := Aside0.mk (Below.refl w.heap.size w)
  have H : ((mark_Hands.f k l0).bind fun bt15101 => (if bt15101.2 = 0 then (hand_Lost.l0 k 0 l0 (l0.length : Int) 0) else (some (0, bt15101.2)))) = some (r1, r2) := h
  clear h
  replace H := Option.bind_eq_some_iff.mp H
  obtain ⟨⟨t15101, t15102⟩, A20, H⟩ := H
  replace H : (if t15102 = 0 then (hand_Lost.l0 k 0 l0 (l0.length : Int) 0) else (some (0, t15102))) = some (r1, r2) := H
  have A2 := Aside0.mk A20
  clear A20
  by_cases c3 : t15102 = 0
  · rw [if_pos c3] at H
    have c3b0 : (t15102 == 0) = true := beq_iff_eq.mpr c3
    have c3b1 : (t15102 != 0) = false := bne_eq_false_iff_eq.mpr c3
    clear c3
    have H' := Aside0.mk H
    clear H
    go_enter Try.func15, Try.ntmps15
    go_wp2_with (first | ((with_reducible refine gate_callee (f := 19) rfl ?_); refine goesL_ (some 11) rfl rfl Try.func19 (by kernel_rfl) rfl #[.slice A0 l0.length c0] rfl (by (try simp only [List.map_toArray, List.map_cons, List.map_nil]); first | done | rfl | (simp only [List.length_drop, List.length_take]; rfl)) ?_; (with_reducible refine (mark_Hands.calls k _ _ l0 t15101 t15102 _ ?side1 ?side2 A2.out).mono ?_); (case side1 => repeat (first | exact HR0.out | (with_reducible refine Kd.C_alloc ?_ _) | (with_reducible refine Kd.C_drewN ?_ _) | (with_reducible refine Kd.C_drew ?_))); (case side2 => exact HC0.out); rintro e w4 ⟨rfl, hb⟩; refine ⟨_, rfl, ?_⟩; have n0_ := Aside0.mk (below_step (by repeat (first | (with_reducible first | exact HB.out | apply below_alloc | apply pw_below_drewN | apply below_drew1) | exact HB.out)) hb); clear HB; have HB := n0_; clear n0_; (try clear hb); (try clear hb2); (try clear hk); (try clear hi)))
    go_loopg [6, 19] k (fun kq v6 v19 w' => ∃ (x6_1 : Int) (x19_1 : Int), v6 = .int .i64 x6_1 ∧ v19 = .int .i64 x19_1 ∧ Aside0 (hand_Lost.l0 kq x6_1 l0 (l0.length : Int) x19_1 = some (r1, r2)) ∧ Aside0 (kq ≤ k) ∧ Aside0 (Below w.heap.size w w'))
    case atStart => exact ⟨(0), (0), (by first | rfl | (simp; done) | (simp [*]; done)), (by first | rfl | (simp; done) | (simp [*]; done)), H', ⟨Nat.le_refl _⟩, ⟨by repeat (first | (with_reducible first | exact HB.out | apply below_alloc | apply pw_below_drewN | apply below_drew1) | exact HB.out)⟩⟩
    case round =>
      clear H'
      try clear c1
      try clear p2
      try clear c3
      try clear c3b0
      try clear c3b1
      obtain ⟨x6_1, x19_1, rfl, rfl, HA, HK1, HB⟩ := hrel
      cases gk with
      | zero => exact absurd HA.out (by simp [hand_Lost.l0])
      | succ k1 =>
        have H := HA.out
        clear HA
        simp only [hand_Lost.l0] at H
        by_cases c5 : x19_1 < (l0.length : Int)
        · rw [if_pos c5] at H
          have c5b0 : decide (x19_1 < (l0.length : Int)) = true := decide_eq_true c5
          clear c5
          by_cases c6 : 0 ≤ x19_1
          · rw [if_pos c6] at H
            have c6b0 : decide (0 ≤ x19_1) = true := decide_eq_true c6
            clear c6
            by_cases c7 : x19_1 < (l0.length : Int)
            · rw [if_pos c7] at H
              have c7b0 : decide (x19_1 < (l0.length : Int)) = true := decide_eq_true c7
              clear c7
              by_cases c8 : ((rd_T37 l0 x19_1).f0) = 2
              · rw [if_pos c8] at H
                have c8b0 : (((rd_T37 l0 x19_1).f0) == 2) = true := beq_iff_eq.mpr c8
                have c8b1 : (((rd_T37 l0 x19_1).f0) != 2) = false := bne_eq_false_iff_eq.mpr c8
                clear c8
                have H' := Aside0.mk H
                clear H
                have p15103 : 0 ≤ (x19_1 : Int) := of_decide_eq_true (by first | (with_reducible assumption) | assumption)
                have q15103 : x19_1 < (l0.length : Int) := of_decide_eq_true (by first | (with_reducible assumption) | assumption)
                obtain ⟨ad15103, A15103_1, c15103_1, e15103, hx15103_0, hx15103_1, hx15103_2, hl15103_1, hi15103_1⟩ := at_T37 HR0.out x19_1 p15103 q15103
                cases e15103
                replace hx15103_0 := (HB.out.cell (World.block_lt_of_cell? w _ hx15103_0)).trans hx15103_0
                replace hx15103_1 := (HB.out.cell (World.block_lt_of_cell? w _ hx15103_1)).trans hx15103_1
                replace hx15103_2 := (HB.out.cell (World.block_lt_of_cell? w _ hx15103_2)).trans hx15103_2
                have HR15103_1 := Aside0.mk hi15103_1
                have HC15103_1 := Aside0.mk hl15103_1
                clear hi15103_1 hl15103_1
                replace p15103 := eq_true p15103
                replace q15103 := eq_true q15103
                go_wp2_with (first | ((with_reducible refine gate_dst (N := 8) rfl ?_); refine box_event ?hg (N := 8) ?hd (cs := #[.int .i64 0, .slice none 0 0, .int .i64 0]) (t := 37) ?hr ?_; (case hd => rfl); (case hg => rfl); (case hr => first | (go_simp; done) | (go_simp; rfl)); intro gb15104 hg w9 hbox hb; have n0_ := Aside0.mk (below_step (by repeat (first | (with_reducible first | exact HB.out | apply below_alloc | apply pw_below_drewN | apply below_drew1) | exact HB.out)) hb); have n1_ := Aside0.mk (hbox); have n2_ := Aside0.mk ((by rw [hg]; exact (below_size (by repeat (first | (with_reducible first | exact HB.out | apply below_alloc | apply pw_below_drewN | apply below_drew1) | exact HB.out))) : w.heap.size ≤ gb15104)); have n3_ := Aside0.mk ((by rw [hg]; exact (below_size (by repeat (first | (with_reducible first | exact HB.out | apply below_alloc | apply pw_below_drewN | apply below_drew1) | exact HB.out))) : w.heap.size ≤ gb15104)); clear HB; have HB := n0_; have BK15104 := n1_; have GW15104 := n2_; have GE15104 := n3_; clear n0_ n1_ n2_ n3_; clear hb hbox hg; have hcz10_0 : w9.cell? ⟨gb15104, 0, none⟩ = some (.int .i64 0) := (blk_cell BK15104.out 0).trans rfl; have hcz10_1 : w9.cell? ⟨gb15104, 1, none⟩ = some (.slice none 0 0) := (blk_cell BK15104.out 1).trans rfl; have hcz10_2 : w9.cell? ⟨gb15104, 2, none⟩ = some (.int .i64 0) := (blk_cell BK15104.out 2).trans rfl; have hfz10_0 := blk_frozen BK15104.out 0; have hfz10_1 := blk_frozen BK15104.out 1; have hfz10_2 := blk_frozen BK15104.out 2))
                go_roundg k1
                case measure => have := HK1.out; omega
                case rel => exact ⟨(wrap64 (x6_1 + ((rd_T37 l0 x19_1).f2))), (wrap64 (x19_1 + 1)), (by first | rfl | (simp; done) | (simp [*]; done)), (by first | rfl | (simp; done) | (simp [*]; done)), H', ⟨by have := HK1.out; omega⟩, ⟨by repeat (first | (with_reducible first | exact HB.out | apply below_alloc | apply pw_below_drewN | apply below_drew1 | refine below_set ?_ GE15104.out) | exact HB.out)⟩⟩
              · rw [if_neg c8] at H
                have c8b0 : (((rd_T37 l0 x19_1).f0) == 2) = false := beq_eq_false_iff_ne.mpr c8
                have c8b1 : (((rd_T37 l0 x19_1).f0) != 2) = true := bne_iff_ne.mpr c8
                have H' := Aside0.mk H
                clear H
                have p15103 : 0 ≤ (x19_1 : Int) := of_decide_eq_true (by first | (with_reducible assumption) | assumption)
                have q15103 : x19_1 < (l0.length : Int) := of_decide_eq_true (by first | (with_reducible assumption) | assumption)
                obtain ⟨ad15103, A15103_1, c15103_1, e15103, hx15103_0, hx15103_1, hx15103_2, hl15103_1, hi15103_1⟩ := at_T37 HR0.out x19_1 p15103 q15103
                cases e15103
                replace hx15103_0 := (HB.out.cell (World.block_lt_of_cell? w _ hx15103_0)).trans hx15103_0
                replace hx15103_1 := (HB.out.cell (World.block_lt_of_cell? w _ hx15103_1)).trans hx15103_1
                replace hx15103_2 := (HB.out.cell (World.block_lt_of_cell? w _ hx15103_2)).trans hx15103_2
                have HR15103_1 := Aside0.mk hi15103_1
                have HC15103_1 := Aside0.mk hl15103_1
                clear hi15103_1 hl15103_1
                replace p15103 := eq_true p15103
                replace q15103 := eq_true q15103
                go_wp2_with (first | ((with_reducible refine gate_dst (N := 8) rfl ?_); refine box_event ?hg (N := 8) ?hd (cs := #[.int .i64 0, .slice none 0 0, .int .i64 0]) (t := 37) ?hr ?_; (case hd => rfl); (case hg => rfl); (case hr => first | (go_simp; done) | (go_simp; rfl)); intro gb15104 hg w11 hbox hb; have n0_ := Aside0.mk (below_step (by repeat (first | (with_reducible first | exact HB.out | apply below_alloc | apply pw_below_drewN | apply below_drew1) | exact HB.out)) hb); have n1_ := Aside0.mk (hbox); have n2_ := Aside0.mk ((by rw [hg]; exact (below_size (by repeat (first | (with_reducible first | exact HB.out | apply below_alloc | apply pw_below_drewN | apply below_drew1) | exact HB.out))) : w.heap.size ≤ gb15104)); have n3_ := Aside0.mk ((by rw [hg]; exact (below_size (by repeat (first | (with_reducible first | exact HB.out | apply below_alloc | apply pw_below_drewN | apply below_drew1) | exact HB.out))) : w.heap.size ≤ gb15104)); clear HB; have HB := n0_; have BK15104 := n1_; have GW15104 := n2_; have GE15104 := n3_; clear n0_ n1_ n2_ n3_; clear hb hbox hg; have hcz12_0 : w11.cell? ⟨gb15104, 0, none⟩ = some (.int .i64 0) := (blk_cell BK15104.out 0).trans rfl; have hcz12_1 : w11.cell? ⟨gb15104, 1, none⟩ = some (.slice none 0 0) := (blk_cell BK15104.out 1).trans rfl; have hcz12_2 : w11.cell? ⟨gb15104, 2, none⟩ = some (.int .i64 0) := (blk_cell BK15104.out 2).trans rfl; have hfz12_0 := blk_frozen BK15104.out 0; have hfz12_1 := blk_frozen BK15104.out 1; have hfz12_2 := blk_frozen BK15104.out 2))
                go_roundg k1
                case measure => have := HK1.out; omega
                case rel => exact ⟨(x6_1), (wrap64 (x19_1 + 1)), (by first | rfl | (simp; done) | (simp [*]; done)), (by first | rfl | (simp; done) | (simp [*]; done)), H', ⟨by have := HK1.out; omega⟩, ⟨by repeat (first | (with_reducible first | exact HB.out | apply below_alloc | apply pw_below_drewN | apply below_drew1 | refine below_set ?_ GE15104.out) | exact HB.out)⟩⟩
            · rw [if_neg c7] at H
              exact absurd H (by simp)
          · rw [if_neg c6] at H
            exact absurd H (by simp)
        · rw [if_neg c5] at H
          have c5b0 : decide (x19_1 < (l0.length : Int)) = false := decide_eq_false c5
          clear c5
          simp only [Option.some.injEq, Prod.mk.injEq] at H
          obtain ⟨rfl, rfl⟩ := H
          go_wp2
          go_ret2
          exact ⟨by first | rfl | (simp [errW_none, errW_some] <;> rfl) | (simp [*, errW_none, errW_some] <;> rfl), by repeat (first | (with_reducible first | exact HB.out | apply below_alloc | apply pw_below_drewN | apply below_drew1) | exact HB.out)⟩
  · rw [if_neg c3] at H
    have c3b0 : (t15102 == 0) = false := beq_eq_false_iff_ne.mpr c3
    have c3b1 : (t15102 != 0) = true := bne_iff_ne.mpr c3
    simp only [Option.some.injEq, Prod.mk.injEq] at H
    obtain ⟨rfl, rfl⟩ := H
    go_enter Try.func15, Try.ntmps15
    go_wp2_with (first | ((with_reducible refine gate_callee (f := 19) rfl ?_); refine goesL_ (some 11) rfl rfl Try.func19 (by kernel_rfl) rfl #[.slice A0 l0.length c0] rfl (by (try simp only [List.map_toArray, List.map_cons, List.map_nil]); first | done | rfl | (simp only [List.length_drop, List.length_take]; rfl)) ?_; (with_reducible refine (mark_Hands.calls k _ _ l0 t15101 t15102 _ ?side1 ?side2 A2.out).mono ?_); (case side1 => repeat (first | exact HR0.out | (with_reducible refine Kd.C_alloc ?_ _) | (with_reducible refine Kd.C_drewN ?_ _) | (with_reducible refine Kd.C_drew ?_))); (case side2 => exact HC0.out); rintro e w13 ⟨rfl, hb⟩; refine ⟨_, rfl, ?_⟩; have n0_ := Aside0.mk (below_step (by repeat (first | (with_reducible first | exact HB.out | apply below_alloc | apply pw_below_drewN | apply below_drew1) | exact HB.out)) hb); clear HB; have HB := n0_; clear n0_; (try clear hb); (try clear hb2); (try clear hk); (try clear hi)))
    go_ret2
    exact ⟨by first | rfl | (simp [errW_none, errW_some] <;> rfl) | (simp [*, errW_none, errW_some] <;> rfl), by repeat (first | (with_reducible first | exact HB.out | apply below_alloc | apply pw_below_drewN | apply below_drew1) | exact HB.out)⟩

end Go.Proofs.Ytpmiaaphmgoapaa.H
