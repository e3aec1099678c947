-- Printed by hprint.py (this session's program over the kit's print) out of the translation; the parts 'by hand' are the session's own.
import Derived.Test.YtpmiaaphmgoapaaHx0
namespace Go.Proofs.Ytpmiaaphmgoapaa.H
open Go.RowKit Go.Proofs.YtpmiaaphmgoapaaW.PrintWords Go.Proofs.YtpmiaaphmgoapaaW.PrintLast Go.Proofs.YtpmiaaphmgoapaaW.PrintMore
attribute [local go_sem] max2_int min2_int max_two min_two max_three min_three max_four min_four   -- for this text's walks alone
set_option linter.unusedVariables false
set_option linter.unusedSimpArgs false

/-! ### siglumref06_gives: function 22 -/
def siglumref06_gives.l0 : Nat → ByteArray → Int → Int → List ByteArray → Int → Option (ByteArray)
  | 0, _, _, _, _, _ => none
  | k + 1, x5, x6, x22102000, x22102001, x22102002 => if x6 < x22102002 then (if x5.size + 4 ≤ 9223372036854775807 then (siglumref06_gives.l0 k (x5 ++ (⟨#[226, 151, 140, 32]⟩ : ByteArray)) (wrap64 (x6 + 1)) x22102000 x22102001 x22102002) else (none)) else (some x5)
def siglumref06_gives.f (k : Nat) (a0_0 : Int) (l0_1 : List ByteArray) (a0_2 : Int) (a1 : Int) : Option (ByteArray) := if a0_0 = 2 then (siglumref06_gives.l0 k (⟨#[]⟩ : ByteArray) 0 a0_0 l0_1 a0_2) else (if a0_0 = 3 then (if a1 < (l0_1.length : Int) then (if 0 ≤ a1 then (some (rdOf ByteArray.empty l0_1 a1)) else (none)) else (if 0 ≤ (wrap64 ((l0_1.length : Int) - 1)) then (if (wrap64 ((l0_1.length : Int) - 1)) < (l0_1.length : Int) then (some (rdOf ByteArray.empty l0_1 (wrap64 ((l0_1.length : Int) - 1)))) else (none)) else (none))) else (if 0 < (l0_1.length : Int) then (some (rdOf ByteArray.empty l0_1 0)) else (none)))
theorem siglumref06_gives.mono_l : ∀ k, (∀ y0 y1 y2 y3 y4, LeO (siglumref06_gives.l0 k y0 y1 y2 y3 y4) (siglumref06_gives.l0 (k + 1) y0 y1 y2 y3 y4))
  | 0 => fun _ _ _ _ _ r h => by simp [siglumref06_gives.l0] at h
  | k + 1 => by
    have ih0 := siglumref06_gives.mono_l k
    · intro y0 y1 y2 y3 y4
      unfold siglumref06_gives.l0
      repeat' first
      | (with_reducible exact ih0 _ _ _ _ _)
      | (with_reducible exact LeO.refl _)
      | (with_reducible exact LeO.none _)
      | (with_reducible refine LeO.ite ?_ ?_)
      | (with_reducible refine LeO.bind ?_ (fun _ => ?_))
      | exact ih0 _ _ _ _ _
      | exact LeO.none _
      | refine LeO.ite ?_ ?_
      | refine LeO.bind ?_ (fun _ => ?_)
theorem siglumref06_gives.mono : ∀ a0 a1 a2 a3 k, LeO (siglumref06_gives.f k a0 a1 a2 a3) (siglumref06_gives.f (k + 1) a0 a1 a2 a3) := by
  intro a0 a1 a2 a3 k
  have ih0 := siglumref06_gives.mono_l k
  unfold siglumref06_gives.f
  repeat' first
      | (with_reducible exact ih0 _ _ _ _ _)
      | (with_reducible exact LeO.refl _)
      | (with_reducible exact LeO.none _)
      | (with_reducible refine LeO.ite ?_ ?_)
      | (with_reducible refine LeO.bind ?_ (fun _ => ?_))
      | exact ih0 _ _ _ _ _
      | exact LeO.none _
      | refine LeO.ite ?_ ?_
      | refine LeO.bind ?_ (fun _ => ?_)
set_option maxHeartbeats 8000000 in
set_option maxRecDepth 100000 in
theorem siglumref06_gives.calls (k : Nat) (a0_0 : Int) (A0_1 : Option Addr) (c0_1 : Nat) (l0_1 : List ByteArray) (a0_2 : Int) (a1 : Int) (r : ByteArray) (w : World) (hr0_1 : Kd.C Kd.string w A0_1 l0_1.length l0_1) (hc0_1 : l0_1.length ≤ c0_1) (h : siglumref06_gives.f k a0_0 l0_1 a0_2 a1 = some r) :
    Calls Try.prog 22 #[.agg #[.int .i64 a0_0, .slice A0_1 l0_1.length c0_1, .int .i64 a0_2], .int .i64 a1] w fun e w' => e = .returned (.string r) ∧ Below w.heap.size w w' := by
  have hu37 := Try.underlying37
  have HR0_1 := Aside0.mk hr0_1
  have HC0_1 := Aside0.mk hc0_1
  clear hr0_1 hc0_1
  have HB := Aside0.mk (Below.refl w.heap.size w)
  have H : (if a0_0 = 2 then (siglumref06_gives.l0 k (⟨#[]⟩ : ByteArray) 0 a0_0 l0_1 a0_2) else (if a0_0 = 3 then (if a1 < (l0_1.length : Int) then (if 0 ≤ a1 then (some (rdOf ByteArray.empty l0_1 a1)) else (none)) else (if 0 ≤ (wrap64 ((l0_1.length : Int) - 1)) then (if (wrap64 ((l0_1.length : Int) - 1)) < (l0_1.length : Int) then (some (rdOf ByteArray.empty l0_1 (wrap64 ((l0_1.length : Int) - 1)))) else (none)) else (none))) else (if 0 < (l0_1.length : Int) then (some (rdOf ByteArray.empty l0_1 0)) else (none)))) = some r := h
  clear h
  by_cases c3 : a0_0 = 2
  · rw [if_pos c3] at H
    have c3b0 : (a0_0 == 2) = true := beq_iff_eq.mpr c3
    have c3b1 : (a0_0 != 2) = false := bne_eq_false_iff_eq.mpr c3
    clear c3
    have H' := Aside0.mk H
    clear H
    go_enter Try.func22, Try.ntmps22
    go_wp2_with (first | ((with_reducible refine gate_dst (N := 2) rfl ?_); refine box_event ?hg (N := 2) ?hd (cs := #[.int .i64 a0_0, .slice A0_1 l0_1.length c0_1, .int .i64 a0_2]) (t := 37) ?hr ?_; (case hd => rfl); (case hg => rfl); (case hr => first | (go_simp; done) | (go_simp; rfl)); intro gb22101 hg w4 hbox hb; have n0_ := Aside0.mk (below_step (by repeat (first | (with_reducible first | exact HB.out | apply below_alloc | apply pw_below_drewN | apply below_drew1) | exact HB.out)) hb); have n1_ := Aside0.mk (hbox); have n2_ := Aside0.mk ((by rw [hg]; exact (below_size (by repeat (first | (with_reducible first | exact HB.out | apply below_alloc | apply pw_below_drewN | apply below_drew1) | exact HB.out))) : w.heap.size ≤ gb22101)); have n3_ := Aside0.mk ((by rw [hg]; exact (below_size (by repeat (first | (with_reducible first | exact HB.out | apply below_alloc | apply pw_below_drewN | apply below_drew1) | exact HB.out))) : w.heap.size ≤ gb22101)); clear HB; have HB := n0_; have BK22101 := n1_; have GW22101 := n2_; have GE22101 := n3_; clear n0_ n1_ n2_ n3_; clear hb hbox hg; have hcz5_0 : w4.cell? ⟨gb22101, 0, none⟩ = some (.int .i64 a0_0) := (blk_cell BK22101.out 0).trans rfl; have hcz5_1 : w4.cell? ⟨gb22101, 1, none⟩ = some (.slice A0_1 l0_1.length c0_1) := (blk_cell BK22101.out 1).trans rfl; have hcz5_2 : w4.cell? ⟨gb22101, 2, none⟩ = some (.int .i64 a0_2) := (blk_cell BK22101.out 2).trans rfl; have hfz5_0 := blk_frozen BK22101.out 0; have hfz5_1 := blk_frozen BK22101.out 1; have hfz5_2 := blk_frozen BK22101.out 2))
    go_loopg [5, 6] k (fun kq v5 v6 w' => ∃ (x5_1 : ByteArray) (x6_1 : Int), v5 = .string x5_1 ∧ v6 = .int .i64 x6_1 ∧ Aside0 (siglumref06_gives.l0 kq x5_1 x6_1 a0_0 l0_1 a0_2 = some r) ∧ Aside0 (kq ≤ k) ∧ Aside0 (w'.heap[gb22101]? = some (.cells #[.int .i64 a0_0, (.slice A0_1 l0_1.length c0_1), .int .i64 a0_2] 37 (0, 0))) ∧ Aside0 (Below w.heap.size w w'))
    case atStart => exact ⟨((⟨#[]⟩ : ByteArray)), (0), (by first | rfl | (simp; done) | (simp [*]; done)), (by first | rfl | (simp; done) | (simp [*]; done)), H', ⟨Nat.le_refl _⟩, ⟨by (with_reducible repeat (first | refine blk_drewN ?_ _ | refine blk_drew ?_ | refine blk_alloc ?_ _)); exact BK22101.out⟩, ⟨by repeat (first | (with_reducible first | exact HB.out | apply below_alloc | apply pw_below_drewN | apply below_drew1 | refine below_set ?_ GE22101.out) | exact HB.out)⟩⟩
    case round =>
      clear H'
      try clear c2
      try clear p2
      try clear c3
      try clear c3b0
      try clear c3b1
      try clear hcz5_0
      try clear hcz5_1
      try clear hcz5_2
      try clear hfz5_0
      try clear hfz5_1
      try clear hfz5_2
      obtain ⟨x5_1, x6_1, rfl, rfl, HA, HK1, BK22101, HB⟩ := hrel
      cases gk with
      | zero => exact absurd HA.out (by simp [siglumref06_gives.l0])
      | succ k1 =>
        have H := HA.out
        clear HA
        simp only [siglumref06_gives.l0] at H
        by_cases c6 : x6_1 < a0_2
        · rw [if_pos c6] at H
          have c6b0 : decide (x6_1 < a0_2) = true := decide_eq_true c6
          clear c6
          by_cases c7 : x5_1.size + 4 ≤ 9223372036854775807
          · rw [if_pos c7] at H
            have c7b0 := eq_true c7
            have c7b1 : decide (x5_1.size + 4 ≤ 9223372036854775807) = true := decide_eq_true c7
            try have c7b2 : (9223372036854775807 < x5_1.size + 4) = False := eq_false (Nat.not_lt.2 c7)
            have H' := Aside0.mk H
            clear H
            have hcz8_0 : wr.cell? ⟨gb22101, 0, none⟩ = some (.int .i64 a0_0) := (blk_cell BK22101.out 0).trans rfl
            have hcz8_1 : wr.cell? ⟨gb22101, 1, none⟩ = some (.slice A0_1 l0_1.length c0_1) := (blk_cell BK22101.out 1).trans rfl
            have hcz8_2 : wr.cell? ⟨gb22101, 2, none⟩ = some (.int .i64 a0_2) := (blk_cell BK22101.out 2).trans rfl
            have hfz8_0 := blk_frozen BK22101.out 0
            have hfz8_1 := blk_frozen BK22101.out 1
            have hfz8_2 := blk_frozen BK22101.out 2
            go_wp2
            go_roundg k1
            case measure => have := HK1.out; omega
            case rel => exact ⟨(x5_1 ++ (⟨#[226, 151, 140, 32]⟩ : ByteArray)), (wrap64 (x6_1 + 1)), (by first | rfl | (simp; done) | (simp [*]; done)), (by first | rfl | (simp; done) | (simp [*]; done)), H', ⟨by have := HK1.out; omega⟩, ⟨by (with_reducible repeat (first | refine blk_drewN ?_ _ | refine blk_drew ?_ | refine blk_alloc ?_ _)); exact BK22101.out⟩, ⟨by repeat (first | (with_reducible first | exact HB.out | apply below_alloc | apply pw_below_drewN | apply below_drew1 | refine below_set ?_ GE22101.out) | exact HB.out)⟩⟩
          · rw [if_neg c7] at H
            exact absurd H (by simp)
        · rw [if_neg c6] at H
          have c6b0 : decide (x6_1 < a0_2) = false := decide_eq_false c6
          clear c6
          obtain rfl := Option.some.inj H
          have hcz9_0 : wr.cell? ⟨gb22101, 0, none⟩ = some (.int .i64 a0_0) := (blk_cell BK22101.out 0).trans rfl
          have hcz9_1 : wr.cell? ⟨gb22101, 1, none⟩ = some (.slice A0_1 l0_1.length c0_1) := (blk_cell BK22101.out 1).trans rfl
          have hcz9_2 : wr.cell? ⟨gb22101, 2, none⟩ = some (.int .i64 a0_2) := (blk_cell BK22101.out 2).trans rfl
          have hfz9_0 := blk_frozen BK22101.out 0
          have hfz9_1 := blk_frozen BK22101.out 1
          have hfz9_2 := blk_frozen BK22101.out 2
          go_wp2
          go_ret
          exact ⟨by first | rfl | (simp [errW_none, errW_some] <;> rfl) | (simp [*, errW_none, errW_some] <;> rfl), by repeat (first | (with_reducible first | exact HB.out | apply below_alloc | apply pw_below_drewN | apply below_drew1 | refine below_set ?_ GE22101.out) | exact HB.out)⟩
  · rw [if_neg c3] at H
    have c3b0 : (a0_0 == 2) = false := beq_eq_false_iff_ne.mpr c3
    have c3b1 : (a0_0 != 2) = true := bne_iff_ne.mpr c3
    by_cases c10 : a0_0 = 3
    · rw [if_pos c10] at H
      have c10b0 : (a0_0 == 3) = true := beq_iff_eq.mpr c10
      have c10b1 : (a0_0 != 3) = false := bne_eq_false_iff_eq.mpr c10
      clear c10
      by_cases c11 : a1 < (l0_1.length : Int)
      · rw [if_pos c11] at H
        have c11b0 : decide (a1 < (l0_1.length : Int)) = true := decide_eq_true c11
        clear c11
        by_cases c12 : 0 ≤ a1
        · rw [if_pos c12] at H
          have c12b0 : decide (0 ≤ a1) = true := decide_eq_true c12
          clear c12
          obtain rfl := Option.some.inj H
          go_enter Try.func22, Try.ntmps22
          go_wp2_with (first | ((with_reducible refine gate_dst (N := 2) rfl ?_); refine box_event ?hg (N := 2) ?hd (cs := #[.int .i64 a0_0, .slice A0_1 l0_1.length c0_1, .int .i64 a0_2]) (t := 37) ?hr ?_; (case hd => rfl); (case hg => rfl); (case hr => first | (go_simp; done) | (go_simp; rfl)); intro gb22101 hg w13 hbox hb; have n0_ := Aside0.mk (below_step (by repeat (first | (with_reducible first | exact HB.out | apply below_alloc | apply pw_below_drewN | apply below_drew1) | exact HB.out)) hb); have n1_ := Aside0.mk (hbox); have n2_ := Aside0.mk ((by rw [hg]; exact (below_size (by repeat (first | (with_reducible first | exact HB.out | apply below_alloc | apply pw_below_drewN | apply below_drew1) | exact HB.out))) : w.heap.size ≤ gb22101)); have n3_ := Aside0.mk ((by rw [hg]; exact (below_size (by repeat (first | (with_reducible first | exact HB.out | apply below_alloc | apply pw_below_drewN | apply below_drew1) | exact HB.out))) : w.heap.size ≤ gb22101)); clear HB; have HB := n0_; have BK22101 := n1_; have GW22101 := n2_; have GE22101 := n3_; clear n0_ n1_ n2_ n3_; clear hb hbox hg; have hcz14_0 : w13.cell? ⟨gb22101, 0, none⟩ = some (.int .i64 a0_0) := (blk_cell BK22101.out 0).trans rfl; have hcz14_1 : w13.cell? ⟨gb22101, 1, none⟩ = some (.slice A0_1 l0_1.length c0_1) := (blk_cell BK22101.out 1).trans rfl; have hcz14_2 : w13.cell? ⟨gb22101, 2, none⟩ = some (.int .i64 a0_2) := (blk_cell BK22101.out 2).trans rfl; have hfz14_0 := blk_frozen BK22101.out 0; have hfz14_1 := blk_frozen BK22101.out 1; have hfz14_2 := blk_frozen BK22101.out 2; have p22102 : 0 ≤ (a1 : Int) := of_decide_eq_true (by first | (with_reducible assumption) | assumption); have q22102 : a1 < (l0_1.length : Int) := of_decide_eq_true (by first | (with_reducible assumption) | assumption); obtain ⟨ad22102, e22102, hx22102_0⟩ := Kd.at_string HR0_1.out a1 p22102 q22102; cases e22102; replace hx22102_0 := (HB.out.cell (World.block_lt_of_cell? w _ hx22102_0)).trans hx22102_0; replace p22102 := eq_true p22102; replace q22102 := eq_true q22102))
          go_ret
          exact ⟨by first | rfl | (simp [errW_none, errW_some] <;> rfl) | (simp [*, errW_none, errW_some] <;> rfl), by repeat (first | (with_reducible first | exact HB.out | apply below_alloc | apply pw_below_drewN | apply below_drew1 | refine below_set ?_ GE22101.out) | exact HB.out)⟩
        · rw [if_neg c12] at H
          exact absurd H (by simp)
      · rw [if_neg c11] at H
        have c11b0 : decide (a1 < (l0_1.length : Int)) = false := decide_eq_false c11
        clear c11
        obtain ⟨ji15, hji15⟩ : ∃ j_ : Int, (wrap64 ((l0_1.length : Int) - 1)) = j_ := ⟨_, rfl⟩
        replace H : (if 0 ≤ (ji15) then (if (ji15) < (l0_1.length : Int) then (some (rdOf ByteArray.empty l0_1 (ji15))) else (none)) else (none)) = some r := by first | (rw [hji15] at H; exact H) | (simp only [hji15] at H ⊢; exact H)
        have hji15w : (IntKind.i64.wrap ((l0_1.length : Int) - 1)) = ji15 := (i64_w _).trans hji15
        by_cases c16 : 0 ≤ (ji15)
        · rw [if_pos c16] at H
          have c16b0 : decide (0 ≤ (ji15)) = true := decide_eq_true c16
          clear c16
          by_cases c17 : (ji15) < (l0_1.length : Int)
          · rw [if_pos c17] at H
            have c17b0 : decide ((ji15) < (l0_1.length : Int)) = true := decide_eq_true c17
            clear c17
            obtain rfl := Option.some.inj H
            go_enter Try.func22, Try.ntmps22
            go_wp2_with (first | ((with_reducible refine gate_dst (N := 2) rfl ?_); refine box_event ?hg (N := 2) ?hd (cs := #[.int .i64 a0_0, .slice A0_1 l0_1.length c0_1, .int .i64 a0_2]) (t := 37) ?hr ?_; (case hd => rfl); (case hg => rfl); (case hr => first | (go_simp; done) | (go_simp; rfl)); intro gb22101 hg w18 hbox hb; have n0_ := Aside0.mk (below_step (by repeat (first | (with_reducible first | exact HB.out | apply below_alloc | apply pw_below_drewN | apply below_drew1) | exact HB.out)) hb); have n1_ := Aside0.mk (hbox); have n2_ := Aside0.mk ((by rw [hg]; exact (below_size (by repeat (first | (with_reducible first | exact HB.out | apply below_alloc | apply pw_below_drewN | apply below_drew1) | exact HB.out))) : w.heap.size ≤ gb22101)); have n3_ := Aside0.mk ((by rw [hg]; exact (below_size (by repeat (first | (with_reducible first | exact HB.out | apply below_alloc | apply pw_below_drewN | apply below_drew1) | exact HB.out))) : w.heap.size ≤ gb22101)); clear HB; have HB := n0_; have BK22101 := n1_; have GW22101 := n2_; have GE22101 := n3_; clear n0_ n1_ n2_ n3_; clear hb hbox hg; have hcz19_0 : w18.cell? ⟨gb22101, 0, none⟩ = some (.int .i64 a0_0) := (blk_cell BK22101.out 0).trans rfl; have hcz19_1 : w18.cell? ⟨gb22101, 1, none⟩ = some (.slice A0_1 l0_1.length c0_1) := (blk_cell BK22101.out 1).trans rfl; have hcz19_2 : w18.cell? ⟨gb22101, 2, none⟩ = some (.int .i64 a0_2) := (blk_cell BK22101.out 2).trans rfl; have hfz19_0 := blk_frozen BK22101.out 0; have hfz19_1 := blk_frozen BK22101.out 1; have hfz19_2 := blk_frozen BK22101.out 2; have p22103 : 0 ≤ ((ji15) : Int) := of_decide_eq_true (by first | (with_reducible assumption) | assumption); have q22103 : (ji15) < (l0_1.length : Int) := of_decide_eq_true (by first | (with_reducible assumption) | assumption); obtain ⟨ad22103, e22103, hx22103_0⟩ := Kd.at_string HR0_1.out (ji15) p22103 q22103; cases e22103; replace hx22103_0 := (HB.out.cell (World.block_lt_of_cell? w _ hx22103_0)).trans hx22103_0; replace p22103 := eq_true p22103; replace q22103 := eq_true q22103))
            go_ret
            exact ⟨by first | rfl | (simp [errW_none, errW_some] <;> rfl) | (simp only [← hji15]; first | rfl | (simp [errW_none, errW_some] <;> rfl)) | (simp [*, errW_none, errW_some] <;> rfl), by repeat (first | (with_reducible first | exact HB.out | apply below_alloc | apply pw_below_drewN | apply below_drew1 | refine below_set ?_ GE22101.out) | exact HB.out)⟩
          · rw [if_neg c17] at H
            exact absurd H (by simp)
        · rw [if_neg c16] at H
          exact absurd H (by simp)
    · rw [if_neg c10] at H
      have c10b0 : (a0_0 == 3) = false := beq_eq_false_iff_ne.mpr c10
      have c10b1 : (a0_0 != 3) = true := bne_iff_ne.mpr c10
      by_cases c20 : 0 < (l0_1.length : Int)
      · rw [if_pos c20] at H
        have c20b0 : decide (0 < (l0_1.length : Int)) = true := decide_eq_true c20
        have c20b1 : decide (0 < l0_1.length) = true := decide_eq_true (by omega)
        clear c20
        obtain rfl := Option.some.inj H
        go_enter Try.func22, Try.ntmps22
        go_wp2_with (first | ((with_reducible refine gate_dst (N := 2) rfl ?_); refine box_event ?hg (N := 2) ?hd (cs := #[.int .i64 a0_0, .slice A0_1 l0_1.length c0_1, .int .i64 a0_2]) (t := 37) ?hr ?_; (case hd => rfl); (case hg => rfl); (case hr => first | (go_simp; done) | (go_simp; rfl)); intro gb22101 hg w21 hbox hb; have n0_ := Aside0.mk (below_step (by repeat (first | (with_reducible first | exact HB.out | apply below_alloc | apply pw_below_drewN | apply below_drew1) | exact HB.out)) hb); have n1_ := Aside0.mk (hbox); have n2_ := Aside0.mk ((by rw [hg]; exact (below_size (by repeat (first | (with_reducible first | exact HB.out | apply below_alloc | apply pw_below_drewN | apply below_drew1) | exact HB.out))) : w.heap.size ≤ gb22101)); have n3_ := Aside0.mk ((by rw [hg]; exact (below_size (by repeat (first | (with_reducible first | exact HB.out | apply below_alloc | apply pw_below_drewN | apply below_drew1) | exact HB.out))) : w.heap.size ≤ gb22101)); clear HB; have HB := n0_; have BK22101 := n1_; have GW22101 := n2_; have GE22101 := n3_; clear n0_ n1_ n2_ n3_; clear hb hbox hg; have hcz22_0 : w21.cell? ⟨gb22101, 0, none⟩ = some (.int .i64 a0_0) := (blk_cell BK22101.out 0).trans rfl; have hcz22_1 : w21.cell? ⟨gb22101, 1, none⟩ = some (.slice A0_1 l0_1.length c0_1) := (blk_cell BK22101.out 1).trans rfl; have hcz22_2 : w21.cell? ⟨gb22101, 2, none⟩ = some (.int .i64 a0_2) := (blk_cell BK22101.out 2).trans rfl; have hfz22_0 := blk_frozen BK22101.out 0; have hfz22_1 := blk_frozen BK22101.out 1; have hfz22_2 := blk_frozen BK22101.out 2; have p22104 : 0 ≤ (0 : Int) := (by omega); have q22104 : 0 < (l0_1.length : Int) := of_decide_eq_true (by first | (with_reducible assumption) | assumption); obtain ⟨ad22104, e22104, hx22104_0⟩ := Kd.at_string HR0_1.out 0 p22104 q22104; cases e22104; have qi22104 : (0 < l0_1.length) = True := eq_true (by omega); (try rw [show ((0 : Int)).toNat = 0 from rfl] at hx22104_0); (try rw [Addr.add_zero'] at hx22104_0); replace hx22104_0 := (HB.out.cell (World.block_lt_of_cell? w _ hx22104_0)).trans hx22104_0; replace p22104 := eq_true p22104; replace q22104 := eq_true q22104))
        go_ret
        exact ⟨by first | rfl | (simp [errW_none, errW_some] <;> rfl) | (simp [*, errW_none, errW_some] <;> rfl), by repeat (first | (with_reducible first | exact HB.out | apply below_alloc | apply pw_below_drewN | apply below_drew1 | refine below_set ?_ GE22101.out) | exact HB.out)⟩
      · rw [if_neg c20] at H
        exact absurd H (by simp)

end Go.Proofs.Ytpmiaaphmgoapaa.H
