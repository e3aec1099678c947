-- Printed by hprint.py (this session's program over the kit's print) out of the translation; the parts 'by hand' are the session's own.
import Derived.Test.YtcpbalnbgmjhjaaDoorEx0
import Derived.Test.YtcpbalnbgmjhjaaDoorEx5
import Derived.Test.YtcpbalnbgmjhjaaDoorEx9
import Derived.Test.YtcpbalnbgmjhjaaDoorEx10
namespace Go.Proofs.YtcpbalnbgmjhjaaDoor.E
open Go.RowKit Go.Proofs.YtcpbalnbgmjhjaaDoorW.PrintWords Go.Proofs.YtcpbalnbgmjhjaaDoorW.PrintLast Go.Proofs.YtcpbalnbgmjhjaaDoorW.PrintMore
attribute [local go_sem] max2_int min2_int max_two min_two max_three min_three max_four min_four   -- for this text's walks alone
set_option linter.unusedVariables false
set_option linter.unusedSimpArgs false

/-! ### cost_folded: function 35 -/
def cost_folded.l0 : Nat → List (S73) → List ByteArray → Int → Int → Int → Int → Int → Int → Option ((List (S73)) × Int)
  | 0, _, _, _, _, _, _, _, _ => none
  | k + 1, x6, x14, x15, x16, x123000, x123001, x123002, x123003 => if x16 < x15 then (if 0 ≤ x16 then (if x16 < (x14.length : Int) then ((fold_Text.f (rdOf ByteArray.empty x14 x16) x123003).bind fun bt124 => ((glyph_Count.f bt124.1).bind fun t126 => (if t126 > 256 then (some (([] : List (S73)), 1)) else (if x6.length < 4398046511104 then (cost_folded.l0 k (x6 ++ [(⟨rdOf ByteArray.empty x14 x16, bt124.1⟩ : S73)]) x14 x15 (wrap64 (x16 + 1)) x123000 x123001 x123002 x123003) else (none))))) else (none)) else (none)) else (some (x6, 0))
def cost_folded.f (k : Nat) (l0 : List ByteArray) (a1_0 : Int) (a1_1 : Int) (a1_2 : Int) (a1_3 : Int) : Option ((List (S73)) × Int) := if (l0.length : Int) > 1024 then (some (([] : List (S73)), 1)) else (cost_folded.l0 k ([] : List (S73)) l0 (l0.length : Int) 0 a1_0 a1_1 a1_2 a1_3)
theorem cost_folded.mono_l : ∀ k, (∀ y0 y1 y2 y3 y4 y5 y6 y7, LeO (cost_folded.l0 k y0 y1 y2 y3 y4 y5 y6 y7) (cost_folded.l0 (k + 1) y0 y1 y2 y3 y4 y5 y6 y7))
  | 0 => fun _ _ _ _ _ _ _ _ r h => by simp [cost_folded.l0] at h
  | k + 1 => by
    have ih0 := cost_folded.mono_l k
    · intro y0 y1 y2 y3 y4 y5 y6 y7
      unfold cost_folded.l0
      repeat' first
      | (with_reducible exact ih0 _ _ _ _ _ _ _ _)
      | (with_reducible exact LeO.refl _)
      | (with_reducible exact LeO.none _)
      | (with_reducible refine LeO.ite ?_ ?_)
      | (with_reducible refine LeO.bind ?_ (fun _ => ?_))
      | exact ih0 _ _ _ _ _ _ _ _
      | exact LeO.none _
      | refine LeO.ite ?_ ?_
      | refine LeO.bind ?_ (fun _ => ?_)
theorem cost_folded.mono : ∀ a0 a1 a2 a3 a4 k, LeO (cost_folded.f k a0 a1 a2 a3 a4) (cost_folded.f (k + 1) a0 a1 a2 a3 a4) := by
  intro a0 a1 a2 a3 a4 k
  have ih0 := cost_folded.mono_l k
  unfold cost_folded.f
  repeat' first
      | (with_reducible exact ih0 _ _ _ _ _ _ _ _)
      | (with_reducible exact LeO.refl _)
      | (with_reducible exact LeO.none _)
      | (with_reducible refine LeO.ite ?_ ?_)
      | (with_reducible refine LeO.bind ?_ (fun _ => ?_))
      | exact ih0 _ _ _ _ _ _ _ _
      | exact LeO.none _
      | refine LeO.ite ?_ ?_
      | refine LeO.bind ?_ (fun _ => ?_)
set_option maxHeartbeats 8000000 in
set_option maxRecDepth 100000 in
theorem cost_folded.calls (k : Nat) (A0 : Option Addr) (c0 : Nat) (l0 : List ByteArray) (a1_0 : Int) (a1_1 : Int) (a1_2 : Int) (a1_3 : Int) (r1 : List (S73)) (r2 : Int) (w : World) (hr0 : Kd.C Kd.string w A0 l0.length l0) (hc0 : l0.length ≤ c0) (hT : Utf.Tabs2 w) (h : cost_folded.f k l0 a1_0 a1_1 a1_2 a1_3 = some (r1, r2)) :
    Calls Tryd.prog 35 #[.slice A0 l0.length c0, .agg #[.int .i64 a1_0, .int .i64 a1_1, .int .i64 a1_2, .int .i64 a1_3]] w fun e w' => ∃ v0_ : Value, e = .returned (.tuple #[v0_, .int .i64 r2]) ∧ Kd.R k73 73 w' w.heap.size (fun _ => True) v0_ r1 ∧ Below w.heap.size w w' := by
  have hu23 := Tryd.underlying23
  have hu73 := Tryd.underlying73
  have HR0 := Aside0.mk hr0
  have HC0 := Aside0.mk hc0
  clear hr0 hc0
  have HT := Aside0.mk hT
  clear hT
  have HB := Aside0.mk (Below.refl w.heap.size w)
  have H : (if (l0.length : Int) > 1024 then (some (([] : List (S73)), 1)) else (cost_folded.l0 k ([] : List (S73)) l0 (l0.length : Int) 0 a1_0 a1_1 a1_2 a1_3)) = some (r1, r2) := h
  clear h
  by_cases c3 : (l0.length : Int) > 1024
  · rw [if_pos c3] at H
    have c3b0 : decide (1024 < (l0.length : Int)) = true := decide_eq_true c3
    have c3b1 : decide (1024 < l0.length) = true := decide_eq_true (by omega)
    clear c3
    simp only [Option.some.injEq, Prod.mk.injEq] at H
    obtain ⟨rfl, rfl⟩ := H
    go_enter Tryd.func35, Tryd.ntmps35
    go_wp2_with (first | ((with_reducible refine gate_dst (N := 3) rfl ?_); refine box_event ?hg (N := 3) ?hd (cs := #[.int .i64 a1_0, .int .i64 a1_1, .int .i64 a1_2, .int .i64 a1_3]) (t := 23) ?hr ?_; (case hd => rfl); (case hg => rfl); (case hr => first | (go_simp; done) | (go_simp; rfl)); intro gb122 hg w4 hbox hb; have n0_ := Aside0.mk (below_step (by repeat (first | (with_reducible first | exact HB.out | apply below_alloc | apply pw_below_drewN | apply below_drew1) | exact HB.out)) hb); have n1_ := Aside0.mk (hbox); have n2_ := Aside0.mk ((by rw [hg]; exact (below_size (by repeat (first | (with_reducible first | exact HB.out | apply below_alloc | apply pw_below_drewN | apply below_drew1) | exact HB.out))) : w.heap.size ≤ gb122)); have n3_ := Aside0.mk ((by rw [hg]; exact (below_size (by repeat (first | (with_reducible first | exact HB.out | apply below_alloc | apply pw_below_drewN | apply below_drew1) | exact HB.out))) : w.heap.size ≤ gb122)); clear HB; have HB := n0_; have BK122 := n1_; have GW122 := n2_; have GE122 := n3_; clear n0_ n1_ n2_ n3_; clear hb hbox hg))
    go_ret2
    exact ⟨_, by first | rfl | (simp [errW_none, errW_some] <;> rfl) | (simp [*, errW_none, errW_some] <;> rfl), by first | exact Kd.R_nil _ _ _ _ _ | exact Kd.N_nil _ _ _ _ _ | exact Kd.V_nil _ _ _ _ _ | exact Kd.Q_nil _ _ _ _ _ | exact Kd.S_nil _ _ _ _ _, by repeat (first | (with_reducible first | exact HB.out | apply below_alloc | apply pw_below_drewN | apply below_drew1 | refine below_set ?_ GE122.out) | exact HB.out)⟩
  · rw [if_neg c3] at H
    have c3b0 : decide (1024 < (l0.length : Int)) = false := decide_eq_false c3
    have c3b1 : decide (1024 < l0.length) = false := decide_eq_false (by omega)
    clear c3
    have H' := Aside0.mk H
    clear H
    go_enter Tryd.func35, Tryd.ntmps35
    go_wp2_with (first | ((with_reducible refine gate_dst (N := 3) rfl ?_); refine box_event ?hg (N := 3) ?hd (cs := #[.int .i64 a1_0, .int .i64 a1_1, .int .i64 a1_2, .int .i64 a1_3]) (t := 23) ?hr ?_; (case hd => rfl); (case hg => rfl); (case hr => first | (go_simp; done) | (go_simp; rfl)); intro gb122 hg w5 hbox hb; have n0_ := Aside0.mk (below_step (by repeat (first | (with_reducible first | exact HB.out | apply below_alloc | apply pw_below_drewN | apply below_drew1) | exact HB.out)) hb); have n1_ := Aside0.mk (hbox); have n2_ := Aside0.mk ((by rw [hg]; exact (below_size (by repeat (first | (with_reducible first | exact HB.out | apply below_alloc | apply pw_below_drewN | apply below_drew1) | exact HB.out))) : w.heap.size ≤ gb122)); have n3_ := Aside0.mk ((by rw [hg]; exact (below_size (by repeat (first | (with_reducible first | exact HB.out | apply below_alloc | apply pw_below_drewN | apply below_drew1) | exact HB.out))) : w.heap.size ≤ gb122)); clear HB; have HB := n0_; have BK122 := n1_; have GW122 := n2_; have GE122 := n3_; clear n0_ n1_ n2_ n3_; clear hb hbox hg))
    go_loopg [6, 16] k (fun kq v6 v16 w' => ∃ (x6_1 : List (S73)) (x16_1 : Int), v16 = .int .i64 x16_1 ∧ Aside0 (cost_folded.l0 kq x6_1 l0 (l0.length : Int) x16_1 a1_0 a1_1 a1_2 a1_3 = some (r1, r2)) ∧ Aside0 (kq ≤ k) ∧ Aside0 (Kd.R k73 73 w' w.heap.size (fun _ => True) v6 x6_1) ∧ Aside0 (w'.heap[gb122]? = some (.cells #[.int .i64 a1_0, .int .i64 a1_1, .int .i64 a1_2, .int .i64 a1_3] 23 (0, 0))) ∧ Aside0 (Below w.heap.size w w'))
    case atStart => exact ⟨(([] : List (S73))), (0), (by first | rfl | (simp; done) | (simp [*]; done)), H', ⟨Nat.le_refl _⟩, ⟨by first | exact Kd.R_nil _ _ _ _ _ | exact Kd.N_nil _ _ _ _ _ | exact Kd.V_nil _ _ _ _ _ | exact Kd.Q_nil _ _ _ _ _ | exact Kd.S_nil _ _ _ _ _⟩, ⟨by (with_reducible repeat (first | refine blk_drewN ?_ _ | refine blk_drew ?_ | refine blk_alloc ?_ _)); exact BK122.out⟩, ⟨by repeat (first | (with_reducible first | exact HB.out | apply below_alloc | apply pw_below_drewN | apply below_drew1 | refine below_set ?_ GE122.out) | exact HB.out)⟩⟩
    case round =>
      clear H'
      try clear p2
      try clear c3
      try clear c3b0
      try clear c3b1
      obtain ⟨x6_1, x16_1, rfl, HA, HK1, HO_6, BK122, HB⟩ := hrel
      cases gk with
      | zero => exact absurd HA.out (by simp [cost_folded.l0])
      | succ k1 =>
        have H := HA.out
        clear HA
        simp only [cost_folded.l0] at H
        by_cases c6 : x16_1 < (l0.length : Int)
        · rw [if_pos c6] at H
          have c6b0 : decide (x16_1 < (l0.length : Int)) = true := decide_eq_true c6
          clear c6
          by_cases c7 : 0 ≤ x16_1
          · rw [if_pos c7] at H
            have c7b0 : decide (0 ≤ x16_1) = true := decide_eq_true c7
            clear c7
            by_cases c8 : x16_1 < (l0.length : Int)
            · rw [if_pos c8] at H
              have c8b0 : decide (x16_1 < (l0.length : Int)) = true := decide_eq_true c8
              clear c8
              replace H := Option.bind_eq_some_iff.mp H
              obtain ⟨⟨t124, t125⟩, A90, H⟩ := H
              replace H : ((glyph_Count.f t124).bind fun t126 => (if t126 > 256 then (some (([] : List (S73)), 1)) else (if x6_1.length < 4398046511104 then (cost_folded.l0 k1 (x6_1 ++ [(⟨rdOf ByteArray.empty l0 x16_1, t124⟩ : S73)]) l0 (l0.length : Int) (wrap64 (x16_1 + 1)) a1_0 a1_1 a1_2 a1_3) else (none)))) = some (r1, r2) := H
              have A9 := Aside0.mk A90
              clear A90
              replace H := Option.bind_eq_some_iff.mp H
              obtain ⟨t126, A100, H⟩ := H
              replace H : (if t126 > 256 then (some (([] : List (S73)), 1)) else (if x6_1.length < 4398046511104 then (cost_folded.l0 k1 (x6_1 ++ [(⟨rdOf ByteArray.empty l0 x16_1, t124⟩ : S73)]) l0 (l0.length : Int) (wrap64 (x16_1 + 1)) a1_0 a1_1 a1_2 a1_3) else (none))) = some (r1, r2) := H
              have A10 := Aside0.mk A100
              clear A100
              by_cases c11 : t126 > 256
              · rw [if_pos c11] at H
                have c11b0 : decide (256 < t126) = true := decide_eq_true c11
                clear c11
                simp only [Option.some.injEq, Prod.mk.injEq] at H
                obtain ⟨rfl, rfl⟩ := H
                have p123 : 0 ≤ (x16_1 : Int) := of_decide_eq_true (by first | (with_reducible assumption) | assumption)
                have q123 : x16_1 < (l0.length : Int) := of_decide_eq_true (by first | (with_reducible assumption) | assumption)
                obtain ⟨ad123, e123, hx123_0⟩ := Kd.at_string HR0.out x16_1 p123 q123
                cases e123
                replace hx123_0 := (HB.out.cell (World.block_lt_of_cell? w _ hx123_0)).trans hx123_0
                replace p123 := eq_true p123
                replace q123 := eq_true q123
                have hcz12_0 : wr.cell? ⟨gb122, 0, none⟩ = some (.int .i64 a1_0) := (blk_cell BK122.out 0).trans rfl
                have hcz12_1 : wr.cell? ⟨gb122, 1, none⟩ = some (.int .i64 a1_1) := (blk_cell BK122.out 1).trans rfl
                have hcz12_2 : wr.cell? ⟨gb122, 2, none⟩ = some (.int .i64 a1_2) := (blk_cell BK122.out 2).trans rfl
                have hcz12_3 : wr.cell? ⟨gb122, 3, none⟩ = some (.int .i64 a1_3) := (blk_cell BK122.out 3).trans rfl
                have hfz12_0 := blk_frozen BK122.out 0
                have hfz12_1 := blk_frozen BK122.out 1
                have hfz12_2 := blk_frozen BK122.out 2
                have hfz12_3 := blk_frozen BK122.out 3
                go_wp2_with (first | ((with_reducible refine gate_callee (f := 24) rfl ?_); refine goesL_ (some 24) rfl rfl Tryd.func24 (by kernel_rfl) rfl #[.string (rdOf ByteArray.empty l0 x16_1), .int .i64 a1_3] rfl (by (try simp only [List.map_toArray, List.map_cons, List.map_nil]); first | done | rfl | (simp only [List.length_drop, List.length_take]; rfl)) ?_; (with_reducible refine (fold_Text.calls (rdOf ByteArray.empty l0 x16_1) a1_3 t124 t125 _ ?side1 A9.out).mono ?_); (case side1 => exact Utf.tabs_step2 HT.out (by repeat (first | (with_reducible first | exact HB.out | apply below_alloc | apply pw_below_drewN | apply below_drew1 | refine below_set ?_ GE122.out) | exact HB.out))); rintro e w13 ⟨rfl, hb⟩; refine ⟨_, rfl, ?_⟩; have n0_ := Aside0.mk (Kd.R_below (by (with_reducible repeat (first | apply Kd.R_alloc | apply Kd.R_drewN | apply Kd.R_drew)); exact HO_6.out) hb); have n1_ := Aside0.mk (blk_below (g := gb122) (o := .cells #[.int .i64 a1_0, .int .i64 a1_1, .int .i64 a1_2, .int .i64 a1_3] 23 (0, 0)) (by (with_reducible repeat (first | refine blk_drewN ?_ _ | refine blk_drew ?_ | refine blk_alloc ?_ _)); exact BK122.out) hb); have n2_ := Aside0.mk (below_step (by repeat (first | (with_reducible first | exact HB.out | apply below_alloc | apply pw_below_drewN | apply below_drew1 | refine below_set ?_ GE122.out) | exact HB.out)) hb); clear HO_6; clear BK122; clear HB; have HO_6 := n0_; have BK122 := n1_; have HB := n2_; clear n0_ n1_ n2_; (try clear hb); (try clear hb2); (try clear hk); (try clear hi)) | ((with_reducible refine gate_callee (f := 51) rfl ?_); refine goesL_ (some 28) rfl rfl Tryd.func51 (by kernel_rfl) rfl #[.string t124] rfl (by (try simp only [List.map_toArray, List.map_cons, List.map_nil]); first | done | rfl | (simp only [List.length_drop, List.length_take]; rfl)) ?_; (with_reducible refine (glyph_Count.calls t124 t126 _ A10.out).mono ?_); rintro e w14 ⟨rfl, hb⟩; refine ⟨_, rfl, ?_⟩; have n0_ := Aside0.mk (Kd.R_below (by (with_reducible repeat (first | apply Kd.R_alloc | apply Kd.R_drewN | apply Kd.R_drew)); exact HO_6.out) hb); have n1_ := Aside0.mk (blk_below (g := gb122) (o := .cells #[.int .i64 a1_0, .int .i64 a1_1, .int .i64 a1_2, .int .i64 a1_3] 23 (0, 0)) (by (with_reducible repeat (first | refine blk_drewN ?_ _ | refine blk_drew ?_ | refine blk_alloc ?_ _)); exact BK122.out) hb); have n2_ := Aside0.mk (below_step (by repeat (first | (with_reducible first | exact HB.out | apply below_alloc | apply pw_below_drewN | apply below_drew1 | refine below_set ?_ GE122.out) | exact HB.out)) hb); clear HO_6; clear BK122; clear HB; have HO_6 := n0_; have BK122 := n1_; have HB := n2_; clear n0_ n1_ n2_; (try clear hb); (try clear hb2); (try clear hk); (try clear hi)))
                go_ret2
                exact ⟨_, by first | rfl | (simp [errW_none, errW_some] <;> rfl) | (simp [*, errW_none, errW_some] <;> rfl), by first | exact Kd.R_nil _ _ _ _ _ | exact Kd.N_nil _ _ _ _ _ | exact Kd.V_nil _ _ _ _ _ | exact Kd.Q_nil _ _ _ _ _ | exact Kd.S_nil _ _ _ _ _, by repeat (first | (with_reducible first | exact HB.out | apply below_alloc | apply pw_below_drewN | apply below_drew1 | refine below_set ?_ GE122.out) | exact HB.out)⟩
              · rw [if_neg c11] at H
                have c11b0 : decide (256 < t126) = false := decide_eq_false c11
                clear c11
                by_cases c15 : x6_1.length < 4398046511104
                · rw [if_pos c15] at H
                  have LMc15 := Aside0.mk c15
                  clear c15
                  obtain ⟨y127, hy127⟩ : ∃ y_ : List (S73), y_ = (x6_1 ++ [(⟨rdOf ByteArray.empty l0 x16_1, t124⟩ : S73)]) := ⟨_, rfl⟩
                  replace H : (cost_folded.l0 k1 y127 l0 (l0.length : Int) (wrap64 (x16_1 + 1)) a1_0 a1_1 a1_2 a1_3) = some (r1, r2) := by first | (rw [hy127]; with_reducible exact H) | (have H2_ := (Option.bind_some _ _).symm.trans H; rw [hy127]; with_reducible exact H2_) | (have H2_ := (Option.bind_some _ _).symm.trans H; with_reducible exact H2_) | with_reducible exact H | (rw [hy127]; exact H) | exact H
                  have Ny127 := Aside0.mk hy127
                  clear hy127
                  have H' := Aside0.mk H
                  clear H
                  have p123 : 0 ≤ (x16_1 : Int) := of_decide_eq_true (by first | (with_reducible assumption) | assumption)
                  have q123 : x16_1 < (l0.length : Int) := of_decide_eq_true (by first | (with_reducible assumption) | assumption)
                  obtain ⟨ad123, e123, hx123_0⟩ := Kd.at_string HR0.out x16_1 p123 q123
                  cases e123
                  replace hx123_0 := (HB.out.cell (World.block_lt_of_cell? w _ hx123_0)).trans hx123_0
                  replace p123 := eq_true p123
                  replace q123 := eq_true q123
                  have hcz16_0 : wr.cell? ⟨gb122, 0, none⟩ = some (.int .i64 a1_0) := (blk_cell BK122.out 0).trans rfl
                  have hcz16_1 : wr.cell? ⟨gb122, 1, none⟩ = some (.int .i64 a1_1) := (blk_cell BK122.out 1).trans rfl
                  have hcz16_2 : wr.cell? ⟨gb122, 2, none⟩ = some (.int .i64 a1_2) := (blk_cell BK122.out 2).trans rfl
                  have hcz16_3 : wr.cell? ⟨gb122, 3, none⟩ = some (.int .i64 a1_3) := (blk_cell BK122.out 3).trans rfl
                  have hfz16_0 := blk_frozen BK122.out 0
                  have hfz16_1 := blk_frozen BK122.out 1
                  have hfz16_2 := blk_frozen BK122.out 2
                  have hfz16_3 := blk_frozen BK122.out 3
                  go_wp2_with (first | ((with_reducible refine gate_callee (f := 24) rfl ?_); refine goesL_ (some 24) rfl rfl Tryd.func24 (by kernel_rfl) rfl #[.string (rdOf ByteArray.empty l0 x16_1), .int .i64 a1_3] rfl (by (try simp only [List.map_toArray, List.map_cons, List.map_nil]); first | done | rfl | (simp only [List.length_drop, List.length_take]; rfl)) ?_; (with_reducible refine (fold_Text.calls (rdOf ByteArray.empty l0 x16_1) a1_3 t124 t125 _ ?side1 A9.out).mono ?_); (case side1 => exact Utf.tabs_step2 HT.out (by repeat (first | (with_reducible first | exact HB.out | apply below_alloc | apply pw_below_drewN | apply below_drew1 | refine below_set ?_ GE122.out) | exact HB.out))); rintro e w17 ⟨rfl, hb⟩; refine ⟨_, rfl, ?_⟩; have n0_ := Aside0.mk (Kd.R_below (by (with_reducible repeat (first | apply Kd.R_alloc | apply Kd.R_drewN | apply Kd.R_drew)); exact HO_6.out) hb); have n1_ := Aside0.mk (blk_below (g := gb122) (o := .cells #[.int .i64 a1_0, .int .i64 a1_1, .int .i64 a1_2, .int .i64 a1_3] 23 (0, 0)) (by (with_reducible repeat (first | refine blk_drewN ?_ _ | refine blk_drew ?_ | refine blk_alloc ?_ _)); exact BK122.out) hb); have n2_ := Aside0.mk (below_step (by repeat (first | (with_reducible first | exact HB.out | apply below_alloc | apply pw_below_drewN | apply below_drew1 | refine below_set ?_ GE122.out) | exact HB.out)) hb); clear HO_6; clear BK122; clear HB; have HO_6 := n0_; have BK122 := n1_; have HB := n2_; clear n0_ n1_ n2_; (try clear hb); (try clear hb2); (try clear hk); (try clear hi)) | ((with_reducible refine gate_callee (f := 51) rfl ?_); refine goesL_ (some 28) rfl rfl Tryd.func51 (by kernel_rfl) rfl #[.string t124] rfl (by (try simp only [List.map_toArray, List.map_cons, List.map_nil]); first | done | rfl | (simp only [List.length_drop, List.length_take]; rfl)) ?_; (with_reducible refine (glyph_Count.calls t124 t126 _ A10.out).mono ?_); rintro e w18 ⟨rfl, hb⟩; refine ⟨_, rfl, ?_⟩; have n0_ := Aside0.mk (Kd.R_below (by (with_reducible repeat (first | apply Kd.R_alloc | apply Kd.R_drewN | apply Kd.R_drew)); exact HO_6.out) hb); have n1_ := Aside0.mk (blk_below (g := gb122) (o := .cells #[.int .i64 a1_0, .int .i64 a1_1, .int .i64 a1_2, .int .i64 a1_3] 23 (0, 0)) (by (with_reducible repeat (first | refine blk_drewN ?_ _ | refine blk_drew ?_ | refine blk_alloc ?_ _)); exact BK122.out) hb); have n2_ := Aside0.mk (below_step (by repeat (first | (with_reducible first | exact HB.out | apply below_alloc | apply pw_below_drewN | apply below_drew1 | refine below_set ?_ GE122.out) | exact HB.out)) hb); clear HO_6; clear BK122; clear HB; have HO_6 := n0_; have BK122 := n1_; have HB := n2_; clear n0_ n1_ n2_; (try clear hb); (try clear hb2); (try clear hk); (try clear hi)) | ((with_reducible refine gate_builtin (b := .append) (xs := #[.tmp 30, .tmp 34]) rfl ?_); at_builtin; refine Kd.R_append k73 (w0 := w) w.heap.size rfl (.tmp 30) (.tmp 34) 68 73 (.agg #[(.string ⟨#[]⟩), (.string ⟨#[]⟩)]) 32 rfl Tryd.underlying68 info73 rfl (by decide) (by omega) u6 x6_1 (⟨rdOf ByteArray.empty l0 x16_1, t124⟩ : S73) [.string (rdOf ByteArray.empty l0 x16_1), .string t124] (fun _ => True) (fun _ => False) rfl rfl ?aP (fun _ hk => hk.elim) ?aF ?aO ?aB ?aS ?aL ?_; (case aP => exact k73_mkM _ _ _ (⟨rdOf ByteArray.empty l0 x16_1, t124⟩ : S73)); (case aB => exact (by repeat (first | (with_reducible first | exact HB.out | apply below_alloc | apply pw_below_drewN | apply below_drew1 | refine below_set ?_ GE122.out) | exact HB.out))); (case aF => exact (fun _ _ => trivial)); (case aO => exact (by (with_reducible repeat (first | apply Kd.R_alloc | apply Kd.R_drewN | apply Kd.R_drew)); exact HO_6.out)); (case aS => exact (below_size (by repeat (first | (with_reducible first | exact HB.out | apply below_alloc | apply pw_below_drewN | apply below_drew1 | refine below_set ?_ GE122.out) | exact HB.out)))); (case aL => have := LMc15.out; omega); intro v128 w19 ho hb hg hat; rw [← Ny127.out] at ho; have n0_ := Aside0.mk (blk_grown (g := gb122) (o := .cells #[.int .i64 a1_0, .int .i64 a1_1, .int .i64 a1_2, .int .i64 a1_3] 23 (0, 0)) (by (with_reducible repeat (first | refine blk_drewN ?_ _ | refine blk_drew ?_ | refine blk_alloc ?_ _)); exact BK122.out) hg (Kd.R_ne HO_6.out BK122.out (by decide))); have n1_ := Aside0.mk (hb); have n2_ := Aside0.mk (ho); clear BK122; clear HB; clear HO_6; have BK122 := n0_; have HB := n1_; have HO129 := n2_; clear n0_ n1_ n2_; clear ho hb hg hat))
                  go_roundg k1
                  case measure => have := HK1.out; omega
                  case rel => exact ⟨(y127), (wrap64 (x16_1 + 1)), (by first | rfl | (simp; done) | (simp [*]; done)), H', ⟨by have := HK1.out; omega⟩, ⟨by (with_reducible repeat (first | apply Kd.R_alloc | apply Kd.R_drewN | apply Kd.R_drew)); exact HO129.out⟩, ⟨by (with_reducible repeat (first | refine blk_drewN ?_ _ | refine blk_drew ?_ | refine blk_alloc ?_ _)); exact BK122.out⟩, ⟨by repeat (first | (with_reducible first | exact HB.out | apply below_alloc | apply pw_below_drewN | apply below_drew1 | refine below_set ?_ GE122.out) | exact HB.out)⟩⟩
                · rw [if_neg c15] at H
                  exact absurd H (by simp)
            · rw [if_neg c8] at H
              exact absurd H (by simp)
          · rw [if_neg c7] at H
            exact absurd H (by simp)
        · rw [if_neg c6] at H
          have c6b0 : decide (x16_1 < (l0.length : Int)) = false := decide_eq_false c6
          clear c6
          simp only [Option.some.injEq, Prod.mk.injEq] at H
          obtain ⟨rfl, rfl⟩ := H
          go_wp2
          go_ret2
          exact ⟨_, by first | rfl | (simp [errW_none, errW_some] <;> rfl) | (simp [*, errW_none, errW_some] <;> rfl), by (with_reducible repeat (first | apply Kd.R_alloc | apply Kd.R_drewN | apply Kd.R_drew)); exact HO_6.out, by repeat (first | (with_reducible first | exact HB.out | apply below_alloc | apply pw_below_drewN | apply below_drew1 | refine below_set ?_ GE122.out) | exact HB.out)⟩

/-! ### dist_pieces: function 83 -/
def dist_pieces.l0 : Nat → ByteArray → List ByteArray → List (S91) → Int → Int → Option (List ByteArray)
  | 0, _, _, _, _, _ => none
  | k + 1, x0, x3, x7, x8, x9 => if x9 < x8 then (if 0 ≤ x9 then (if x9 < (x7.length : Int) then (if 0 ≤ ((rd_T91 x7 x9).f0) then (if ((rd_T91 x7 x9).f0) ≤ (wrap64 (((rd_T91 x7 x9).f0) + ((rd_T91 x7 x9).f1))) then (if (wrap64 (((rd_T91 x7 x9).f0) + ((rd_T91 x7 x9).f1))) ≤ (x0.size : Int) then (if x3.length < 8796093022208 then (dist_pieces.l0 k x0 (x3 ++ [x0.extract (((rd_T91 x7 x9).f0) : Int).toNat ((wrap64 (((rd_T91 x7 x9).f0) + ((rd_T91 x7 x9).f1))) : Int).toNat]) x7 x8 (wrap64 (x9 + 1))) else (none)) else (none)) else (none)) else (none)) else (none)) else (none)) else (some x3)
def dist_pieces.f (k : Nat) (a0 : ByteArray) : Option (List ByteArray) := (glyph_Cells.f a0).bind fun t130 => (dist_pieces.l0 k a0 ([] : List ByteArray) t130 (t130.length : Int) 0)
theorem dist_pieces.mono_l : ∀ k, (∀ y0 y1 y2 y3 y4, LeO (dist_pieces.l0 k y0 y1 y2 y3 y4) (dist_pieces.l0 (k + 1) y0 y1 y2 y3 y4))
  | 0 => fun _ _ _ _ _ r h => by simp [dist_pieces.l0] at h
  | k + 1 => by
    have ih0 := dist_pieces.mono_l k
    · intro y0 y1 y2 y3 y4
      unfold dist_pieces.l0
      repeat' first
      | (with_reducible exact ih0 _ _ _ _ _)
      | (with_reducible exact LeO.refl _)
      | (with_reducible exact LeO.none _)
      | (with_reducible refine LeO.ite ?_ ?_)
      | (with_reducible refine LeO.bind ?_ (fun _ => ?_))
      | exact ih0 _ _ _ _ _
      | exact LeO.none _
      | refine LeO.ite ?_ ?_
      | refine LeO.bind ?_ (fun _ => ?_)
theorem dist_pieces.mono : ∀ a0 k, LeO (dist_pieces.f k a0) (dist_pieces.f (k + 1) a0) := by
  intro a0 k
  have ih0 := dist_pieces.mono_l k
  unfold dist_pieces.f
  repeat' first
      | (with_reducible exact ih0 _ _ _ _ _)
      | (with_reducible exact LeO.refl _)
      | (with_reducible exact LeO.none _)
      | (with_reducible refine LeO.ite ?_ ?_)
      | (with_reducible refine LeO.bind ?_ (fun _ => ?_))
      | exact ih0 _ _ _ _ _
      | exact LeO.none _
      | refine LeO.ite ?_ ?_
      | refine LeO.bind ?_ (fun _ => ?_)
set_option maxHeartbeats 8000000 in
set_option maxRecDepth 100000 in
theorem dist_pieces.calls (k : Nat) (a0 : ByteArray) (r : List ByteArray) (w : World) (hT : Lib.Utf8Tabs 0 1 w) (h : dist_pieces.f k a0 = some r) :
    Calls Tryd.prog 83 #[.string a0] w fun e w' => ∃ v0_ : Value, e = .returned (v0_) ∧ Kd.R Kd.string 9 w' w.heap.size (fun _ => True) v0_ r ∧ Below w.heap.size w w' := by
  have hu91 := Tryd.underlying91
  have HT := Aside0.mk hT
  clear hT
  have HB := Aside0.mk (Below.refl w.heap.size w)
  have H : ((glyph_Cells.f a0).bind fun t130 => (dist_pieces.l0 k a0 ([] : List ByteArray) t130 (t130.length : Int) 0)) = some r := h
  clear h
  replace H := Option.bind_eq_some_iff.mp H
  obtain ⟨t130, A20, H⟩ := H
  replace H : (dist_pieces.l0 k a0 ([] : List ByteArray) t130 (t130.length : Int) 0) = some r := H
  have A2 := Aside0.mk A20
  clear A20
  have H' := Aside0.mk H
  clear H
  go_enter Tryd.func83, Tryd.ntmps83
  go_wp2_with (first | ((with_reducible refine gate_callee (f := 45) rfl ?_); refine goesL_ (some 7) rfl rfl Tryd.func45 (by kernel_rfl) rfl #[.string a0] rfl (by (try simp only [List.map_toArray, List.map_cons, List.map_nil]); first | done | rfl | (simp only [List.length_drop, List.length_take]; rfl)) ?_; (with_reducible refine (glyph_Cells.calls a0 t130 _ ?side1 A2.out).mono ?_); (case side1 => exact Utf.tabs_step HT.out (by repeat (first | (with_reducible first | exact HB.out | apply below_alloc | apply pw_below_drewN | apply below_drew1) | exact HB.out))); rintro e w3 ⟨v131, rfl, ho0, hb⟩; refine ⟨_, rfl, ?_⟩; have n0_ := Aside0.mk (Kd.R_lower ho0 (below_size (by repeat (first | (with_reducible first | exact HB.out | apply below_alloc | apply pw_below_drewN | apply below_drew1) | exact HB.out)))); have n1_ := Aside0.mk (below_step (by repeat (first | (with_reducible first | exact HB.out | apply below_alloc | apply pw_below_drewN | apply below_drew1) | exact HB.out)) hb); clear HB; have HO132 := n0_; have HB := n1_; clear n0_ n1_; (try clear hb); (try clear hb2); (try clear hk); (try clear hi); (try clear ho0); obtain ⟨Ao4, co4, eo4⟩ := Kd.R_slice HO132.out; subst eo4))
  go_loopg [3, 9] k (fun kq v3 v9 w' => ∃ (x3_1 : List ByteArray) (x9_1 : Int), v9 = .int .i64 x9_1 ∧ Aside0 (dist_pieces.l0 kq a0 x3_1 t130 (t130.length : Int) x9_1 = some r) ∧ Aside0 (kq ≤ k) ∧ Aside0 (Kd.R Kd.string 9 w' w.heap.size (fun _ => True) v3 x3_1) ∧ Aside0 (Kd.R k91 91 w' w.heap.size (fun _ => True) (.slice Ao4 t130.length co4) t130) ∧ Aside0 (Below w.heap.size w w'))
  case atStart => exact ⟨(([] : List ByteArray)), (0), (by first | rfl | (simp; done) | (simp [*]; done)), H', ⟨Nat.le_refl _⟩, ⟨by first | exact Kd.R_nil _ _ _ _ _ | exact Kd.N_nil _ _ _ _ _ | exact Kd.V_nil _ _ _ _ _ | exact Kd.Q_nil _ _ _ _ _ | exact Kd.S_nil _ _ _ _ _⟩, ⟨by (with_reducible repeat (first | apply Kd.R_alloc | apply Kd.R_drewN | apply Kd.R_drew)); exact HO132.out⟩, ⟨by repeat (first | (with_reducible first | exact HB.out | apply below_alloc | apply pw_below_drewN | apply below_drew1) | exact HB.out)⟩⟩
  case round =>
    clear H'
    try clear p2
    try clear c4
    obtain ⟨x3_1, x9_1, rfl, HA, HK1, HO_3, HO_7, HB⟩ := hrel
    cases gk with
    | zero => exact absurd HA.out (by simp [dist_pieces.l0])
    | succ k1 =>
      have H := HA.out
      clear HA
      simp only [dist_pieces.l0] at H
      by_cases c5 : x9_1 < (t130.length : Int)
      · rw [if_pos c5] at H
        have c5b0 : decide (x9_1 < (t130.length : Int)) = true := decide_eq_true c5
        clear c5
        by_cases c6 : 0 ≤ x9_1
        · rw [if_pos c6] at H
          have c6b0 : decide (0 ≤ x9_1) = true := decide_eq_true c6
          clear c6
          by_cases c7 : x9_1 < (t130.length : Int)
          · rw [if_pos c7] at H
            have c7b0 : decide (x9_1 < (t130.length : Int)) = true := decide_eq_true c7
            clear c7
            by_cases c8 : 0 ≤ ((rd_T91 t130 x9_1).f0)
            · rw [if_pos c8] at H
              have c8b0 := eq_true c8
              have c8b1 : decide (0 ≤ ((rd_T91 t130 x9_1).f0)) = true := decide_eq_true c8
              clear c8
              by_cases c9 : ((rd_T91 t130 x9_1).f0) ≤ (wrap64 (((rd_T91 t130 x9_1).f0) + ((rd_T91 t130 x9_1).f1)))
              · rw [if_pos c9] at H
                have c9b0 := eq_true c9
                have c9b1 : decide (((rd_T91 t130 x9_1).f0) ≤ (wrap64 (((rd_T91 t130 x9_1).f0) + ((rd_T91 t130 x9_1).f1)))) = true := decide_eq_true c9
                by_cases c10 : (wrap64 (((rd_T91 t130 x9_1).f0) + ((rd_T91 t130 x9_1).f1))) ≤ (a0.size : Int)
                · rw [if_pos c10] at H
                  have c10b0 := eq_true c10
                  have c10b1 : decide ((wrap64 (((rd_T91 t130 x9_1).f0) + ((rd_T91 t130 x9_1).f1))) ≤ (a0.size : Int)) = true := decide_eq_true c10
                  by_cases c11 : x3_1.length < 8796093022208
                  · rw [if_pos c11] at H
                    have LMc11 := Aside0.mk c11
                    clear c11
                    obtain ⟨y135, hy135⟩ : ∃ y_ : List ByteArray, y_ = (x3_1 ++ [a0.extract (((rd_T91 t130 x9_1).f0) : Int).toNat ((wrap64 (((rd_T91 t130 x9_1).f0) + ((rd_T91 t130 x9_1).f1))) : Int).toNat]) := ⟨_, rfl⟩
                    replace H : (dist_pieces.l0 k1 a0 y135 t130 (t130.length : Int) (wrap64 (x9_1 + 1))) = some r := by first | (rw [hy135]; with_reducible exact H) | (have H2_ := (Option.bind_some _ _).symm.trans H; rw [hy135]; with_reducible exact H2_) | (have H2_ := (Option.bind_some _ _).symm.trans H; with_reducible exact H2_) | with_reducible exact H | (rw [hy135]; exact H) | exact H
                    have Ny135 := Aside0.mk hy135
                    clear hy135
                    have H' := Aside0.mk H
                    clear H
                    have p133 : 0 ≤ (x9_1 : Int) := of_decide_eq_true (by first | (with_reducible assumption) | assumption)
                    have q133 : x9_1 < (t130.length : Int) := of_decide_eq_true (by first | (with_reducible assumption) | assumption)
                    obtain ⟨ad133, e133, hx133_0, hx133_1, hx133_2, hx133_3, hx133_4⟩ := at_T91 (Kd.R_reads' HO_7.out).2.2 x9_1 p133 q133
                    cases e133
                    replace p133 := eq_true p133
                    replace q133 := eq_true q133
                    go_wp2_with (first | ((with_reducible refine gate_dst (N := 5) rfl ?_); refine box_event ?hg (N := 5) ?hd (cs := #[.int .i64 0, .int .i64 0, .int .i32 0, .bool false, .int .u8 0]) (t := 91) ?hr ?_; (case hd => rfl); (case hg => rfl); (case hr => first | (go_simp; done) | (go_simp; rfl)); intro gb134 hg w12 hbox hb; have n0_ := Aside0.mk (Kd.R_below (by (with_reducible repeat (first | apply Kd.R_alloc | apply Kd.R_drewN | apply Kd.R_drew)); exact HO_3.out) hb); have n1_ := Aside0.mk (Kd.R_below (Kd.R_elderB (by (with_reducible repeat (first | apply Kd.R_alloc | apply Kd.R_drewN | apply Kd.R_drew)); exact HO_7.out) gb134 (Nat.le_of_eq hg.symm)) hb); have n2_ := Aside0.mk (below_step (by repeat (first | (with_reducible first | exact HB.out | apply below_alloc | apply pw_below_drewN | apply below_drew1) | exact HB.out)) hb); have n3_ := Aside0.mk (hbox); have n4_ := Aside0.mk ((by rw [hg]; exact (below_size (by repeat (first | (with_reducible first | exact HB.out | apply below_alloc | apply pw_below_drewN | apply below_drew1) | exact HB.out))) : w.heap.size ≤ gb134)); have n5_ := Aside0.mk ((by rw [hg]; exact (below_size (by repeat (first | (with_reducible first | exact HB.out | apply below_alloc | apply pw_below_drewN | apply below_drew1) | exact HB.out))) : w.heap.size ≤ gb134)); clear HO_3; clear HO_7; clear HB; have HO_3 := n0_; have HO_7 := n1_; have HB := n2_; have BK134 := n3_; have GW134 := n4_; have GE134 := n5_; clear n0_ n1_ n2_ n3_ n4_ n5_; clear hb hbox hg; have hcz13_0 : w12.cell? ⟨gb134, 0, none⟩ = some (.int .i64 0) := (blk_cell BK134.out 0).trans rfl; have hcz13_1 : w12.cell? ⟨gb134, 1, none⟩ = some (.int .i64 0) := (blk_cell BK134.out 1).trans rfl; have hcz13_2 : w12.cell? ⟨gb134, 2, none⟩ = some (.int .i32 0) := (blk_cell BK134.out 2).trans rfl; have hcz13_3 : w12.cell? ⟨gb134, 3, none⟩ = some (.bool false) := (blk_cell BK134.out 3).trans rfl; have hcz13_4 : w12.cell? ⟨gb134, 4, none⟩ = some (.int .u8 0) := (blk_cell BK134.out 4).trans rfl; have hfz13_0 := blk_frozen BK134.out 0; have hfz13_1 := blk_frozen BK134.out 1; have hfz13_2 := blk_frozen BK134.out 2; have hfz13_3 := blk_frozen BK134.out 3; have hfz13_4 := blk_frozen BK134.out 4) | ((with_reducible refine gate_builtin (b := .append) (xs := #[.tmp 13, .tmp 23]) rfl ?_); at_builtin; refine Kd.R_append Kd.string (w0 := w) w.heap.size rfl (.tmp 13) (.tmp 23) 38 9 (.string ⟨#[]⟩) 16 rfl Tryd.underlying38 info9 rfl (by decide) (by omega) u3 x3_1 (a0.extract (((rd_T91 t130 x9_1).f0) : Int).toNat ((wrap64 (((rd_T91 t130 x9_1).f0) + ((rd_T91 t130 x9_1).f1))) : Int).toNat) [.string (a0.extract (((rd_T91 t130 x9_1).f0) : Int).toNat ((wrap64 (((rd_T91 t130 x9_1).f0) + ((rd_T91 t130 x9_1).f1))) : Int).toNat)] (fun _ => True) (fun _ => False) rfl (by first | (go_simp; done) | (go_simp; rfl)) ?aP (fun _ hk => hk.elim) ?aF ?aO ?aB ?aS ?aL ?_; (case aP => exact rfl); (case aB => exact (by repeat (first | (with_reducible first | exact HB.out | apply below_alloc | apply pw_below_drewN | apply below_drew1 | refine below_set ?_ GE134.out) | exact HB.out))); (case aF => exact (fun _ _ => trivial)); (case aO => exact (by (with_reducible repeat (first | apply Kd.R_alloc | apply Kd.R_drewN | apply Kd.R_drew)); exact Kd.R_mono (Kd.R_far (p := ⟨gb134, 4, none⟩) (Kd.R_far (p := ⟨gb134, 3, none⟩) (Kd.R_far (p := ⟨gb134, 2, none⟩) (Kd.R_far (p := ⟨gb134, 1, none⟩) (Kd.R_far (p := ⟨gb134, 0, none⟩) (Kd.R_types HO_3.out BK134.out (by decide)) (fun _ hk => hk.2) (.int .i64 ((rd_T91 t130 x9_1).f0))) (fun _ hk => hk.2) (.int .i64 ((rd_T91 t130 x9_1).f1))) (fun _ hk => hk.2) (.int .i32 ((rd_T91 t130 x9_1).f2))) (fun _ hk => hk.2) (.bool ((rd_T91 t130 x9_1).f3))) (fun _ hk => hk.2) (.int .u8 ((rd_T91 t130 x9_1).f4))) (fun _ hk => trivial))); (case aS => exact (below_size (by repeat (first | (with_reducible first | exact HB.out | apply below_alloc | apply pw_below_drewN | apply below_drew1 | refine below_set ?_ GE134.out) | exact HB.out)))); (case aL => have := LMc11.out; omega); intro v136 w14 ho hb hg hat; rw [← Ny135.out] at ho; have n0_ := Aside0.mk (Kd.R_over' (by (with_reducible repeat (first | apply Kd.R_alloc | apply Kd.R_drewN | apply Kd.R_drew)); exact (Kd.R_mono (Kd.R_far (p := ⟨gb134, 4, none⟩) (Kd.R_far (p := ⟨gb134, 3, none⟩) (Kd.R_far (p := ⟨gb134, 2, none⟩) (Kd.R_far (p := ⟨gb134, 1, none⟩) (Kd.R_far (p := ⟨gb134, 0, none⟩) (Kd.R_mono HO_7.out (fun k_ hk => (⟨hk, hk.2⟩ : _ ∧ k_ ≠ gb134))) (fun _ hk => hk.2) (.int .i64 ((rd_T91 t130 x9_1).f0))) (fun _ hk => hk.2) (.int .i64 ((rd_T91 t130 x9_1).f1))) (fun _ hk => hk.2) (.int .i32 ((rd_T91 t130 x9_1).f2))) (fun _ hk => hk.2) (.bool ((rd_T91 t130 x9_1).f3))) (fun _ hk => hk.2) (.int .u8 ((rd_T91 t130 x9_1).f4))) (fun _ h_ => h_.1))) (Kd.R_typed (by (with_reducible repeat (first | apply Kd.R_alloc | apply Kd.R_drewN | apply Kd.R_drew)); exact (Kd.R_mono (Kd.R_far (p := ⟨gb134, 4, none⟩) (Kd.R_far (p := ⟨gb134, 3, none⟩) (Kd.R_far (p := ⟨gb134, 2, none⟩) (Kd.R_far (p := ⟨gb134, 1, none⟩) (Kd.R_far (p := ⟨gb134, 0, none⟩) (Kd.R_types HO_3.out BK134.out (by decide)) (fun _ hk => hk.2) (.int .i64 ((rd_T91 t130 x9_1).f0))) (fun _ hk => hk.2) (.int .i64 ((rd_T91 t130 x9_1).f1))) (fun _ hk => hk.2) (.int .i32 ((rd_T91 t130 x9_1).f2))) (fun _ hk => hk.2) (.bool ((rd_T91 t130 x9_1).f3))) (fun _ hk => hk.2) (.int .u8 ((rd_T91 t130 x9_1).f4))) (fun _ h_ => h_.1)))) (by decide) hg); have n1_ := Aside0.mk (blk_grown (g := gb134) (o := .cells #[.int .i64 ((rd_T91 t130 x9_1).f0), .int .i64 ((rd_T91 t130 x9_1).f1), .int .i32 ((rd_T91 t130 x9_1).f2), .bool ((rd_T91 t130 x9_1).f3), .int .u8 ((rd_T91 t130 x9_1).f4)] 91 (0, 0)) (by (with_reducible repeat (first | refine blk_drewN ?_ _ | refine blk_drew ?_ | refine blk_alloc ?_ _)); refine blk_put (cs := #[.int .i64 ((rd_T91 t130 x9_1).f0), .int .i64 ((rd_T91 t130 x9_1).f1), .int .i32 ((rd_T91 t130 x9_1).f2), .bool ((rd_T91 t130 x9_1).f3), .int .u8 0]) ?_ 4 _ rfl; (with_reducible repeat (first | refine blk_drewN ?_ _ | refine blk_drew ?_ | refine blk_alloc ?_ _)); refine blk_put (cs := #[.int .i64 ((rd_T91 t130 x9_1).f0), .int .i64 ((rd_T91 t130 x9_1).f1), .int .i32 ((rd_T91 t130 x9_1).f2), .bool false, .int .u8 0]) ?_ 3 _ rfl; (with_reducible repeat (first | refine blk_drewN ?_ _ | refine blk_drew ?_ | refine blk_alloc ?_ _)); refine blk_put (cs := #[.int .i64 ((rd_T91 t130 x9_1).f0), .int .i64 ((rd_T91 t130 x9_1).f1), .int .i32 0, .bool false, .int .u8 0]) ?_ 2 _ rfl; (with_reducible repeat (first | refine blk_drewN ?_ _ | refine blk_drew ?_ | refine blk_alloc ?_ _)); refine blk_put (cs := #[.int .i64 ((rd_T91 t130 x9_1).f0), .int .i64 0, .int .i32 0, .bool false, .int .u8 0]) ?_ 1 _ rfl; (with_reducible repeat (first | refine blk_drewN ?_ _ | refine blk_drew ?_ | refine blk_alloc ?_ _)); refine blk_put (cs := #[.int .i64 0, .int .i64 0, .int .i32 0, .bool false, .int .u8 0]) ?_ 0 _ rfl; (with_reducible repeat (first | refine blk_drewN ?_ _ | refine blk_drew ?_ | refine blk_alloc ?_ _)); exact BK134.out) hg (Kd.R_ne HO_3.out BK134.out (by decide))); have n2_ := Aside0.mk (hb); have n3_ := Aside0.mk (ho); clear HO_7; clear BK134; clear HB; clear HO_3; have HO_7 := n0_; have BK134 := n1_; have HB := n2_; have HO137 := n3_; clear n0_ n1_ n2_ n3_; clear ho hb hg hat))
                    go_roundg k1
                    case measure => have := HK1.out; omega
                    case rel => exact ⟨(y135), (wrap64 (x9_1 + 1)), (by first | rfl | (simp; done) | (simp [*]; done)), H', ⟨by have := HK1.out; omega⟩, ⟨by (with_reducible repeat (first | apply Kd.R_alloc | apply Kd.R_drewN | apply Kd.R_drew)); exact HO137.out⟩, ⟨by (with_reducible repeat (first | apply Kd.R_alloc | apply Kd.R_drewN | apply Kd.R_drew)); exact Kd.R_mono HO_7.out (fun _ hk => trivial)⟩, ⟨by repeat (first | (with_reducible first | exact HB.out | apply below_alloc | apply pw_below_drewN | apply below_drew1 | refine below_set ?_ GE134.out) | exact HB.out)⟩⟩
                  · rw [if_neg c11] at H
                    exact absurd H (by simp)
                · rw [if_neg c10] at H
                  exact absurd H (by simp)
              · rw [if_neg c9] at H
                exact absurd H (by simp)
            · rw [if_neg c8] at H
              exact absurd H (by simp)
          · rw [if_neg c7] at H
            exact absurd H (by simp)
        · rw [if_neg c6] at H
          exact absurd H (by simp)
      · rw [if_neg c5] at H
        have c5b0 : decide (x9_1 < (t130.length : Int)) = false := decide_eq_false c5
        clear c5
        obtain rfl := Option.some.inj H
        go_wp2
        go_ret
        exact ⟨_, by first | rfl | (simp [errW_none, errW_some] <;> rfl) | (simp [*, errW_none, errW_some] <;> rfl), by (with_reducible repeat (first | apply Kd.R_alloc | apply Kd.R_drewN | apply Kd.R_drew)); exact HO_3.out, by repeat (first | (with_reducible first | exact HB.out | apply below_alloc | apply pw_below_drewN | apply below_drew1) | exact HB.out)⟩

/-! ### dist_both: function 70 -/
def dist_both.f (k : Nat) (a0 : ByteArray) (a1 : ByteArray) : Option (List ByteArray × List ByteArray × Int) := (dist_pieces.f k a0).bind fun t138 => ((dist_pieces.f k a1).bind fun t141 => (if (t138.length : Int) > 256 then (some (([] : List ByteArray), ([] : List ByteArray), 1)) else (if (t141.length : Int) > 256 then (some (([] : List ByteArray), ([] : List ByteArray), 1)) else (some (t138, t141, 0)))))
theorem dist_both.mono : ∀ a0 a1 k, LeO (dist_both.f k a0 a1) (dist_both.f (k + 1) a0 a1) := by
  intro a0 a1 k
  unfold dist_both.f
  repeat' first
      | (with_reducible exact dist_pieces.mono _ _)
      | (with_reducible exact LeO.refl _)
      | (with_reducible exact LeO.none _)
      | (with_reducible refine LeO.ite ?_ ?_)
      | (with_reducible refine LeO.bind ?_ (fun _ => ?_))
      | exact dist_pieces.mono _ _
      | exact LeO.none _
      | refine LeO.ite ?_ ?_
      | refine LeO.bind ?_ (fun _ => ?_)
set_option maxHeartbeats 8000000 in
set_option maxRecDepth 100000 in
theorem dist_both.calls (k : Nat) (a0 : ByteArray) (a1 : ByteArray) (r1 : List ByteArray) (r2 : List ByteArray) (r3 : Int) (w : World) (hT : Lib.Utf8Tabs 0 1 w) (h : dist_both.f k a0 a1 = some (r1, r2, r3)) :
    Calls Tryd.prog 70 #[.string a0, .string a1] w fun e w' => ∃ v0_ v1_ : Value, e = .returned (.tuple #[v0_, v1_, .int .i64 r3]) ∧ Kd.R Kd.string 9 w' w.heap.size (fun k_ => some k_ ≠ (v1_ : Value).ownBlock) v0_ r1 ∧ Kd.R Kd.string 9 w' w.heap.size (fun k_ => some k_ ≠ (v0_ : Value).ownBlock) v1_ r2 ∧ Below w.heap.size w w' := by
  have HT := Aside0.mk hT
  clear hT
  have HB := Aside0.mk (Below.refl w.heap.size w)
  have H : ((dist_pieces.f k a0).bind fun t138 => ((dist_pieces.f k a1).bind fun t141 => (if (t138.length : Int) > 256 then (some (([] : List ByteArray), ([] : List ByteArray), 1)) else (if (t141.length : Int) > 256 then (some (([] : List ByteArray), ([] : List ByteArray), 1)) else (some (t138, t141, 0)))))) = some (r1, r2, r3) := h
  clear h
  replace H := Option.bind_eq_some_iff.mp H
  obtain ⟨t138, A30, H⟩ := H
  replace H : ((dist_pieces.f k a1).bind fun t141 => (if (t138.length : Int) > 256 then (some (([] : List ByteArray), ([] : List ByteArray), 1)) else (if (t141.length : Int) > 256 then (some (([] : List ByteArray), ([] : List ByteArray), 1)) else (some (t138, t141, 0))))) = some (r1, r2, r3) := H
  have A3 := Aside0.mk A30
  clear A30
  replace H := Option.bind_eq_some_iff.mp H
  obtain ⟨t141, A40, H⟩ := H
  replace H : (if (t138.length : Int) > 256 then (some (([] : List ByteArray), ([] : List ByteArray), 1)) else (if (t141.length : Int) > 256 then (some (([] : List ByteArray), ([] : List ByteArray), 1)) else (some (t138, t141, 0)))) = some (r1, r2, r3) := H
  have A4 := Aside0.mk A40
  clear A40
  by_cases c5 : (t138.length : Int) > 256
  · rw [if_pos c5] at H
    have c5b0 : decide (256 < (t138.length : Int)) = true := decide_eq_true c5
    have c5b1 : decide (256 < t138.length) = true := decide_eq_true (by omega)
    clear c5
    simp only [Option.some.injEq, Prod.mk.injEq] at H
    obtain ⟨rfl, rfl, rfl⟩ := H
    go_enter Tryd.func70, Tryd.ntmps70
    go_wp2_with (first | ((with_reducible refine gate_callee (f := 83) rfl ?_); refine goesL_ (some 10) rfl rfl Tryd.func83 (by kernel_rfl) rfl #[.string a0] rfl (by (try simp only [List.map_toArray, List.map_cons, List.map_nil]); first | done | rfl | (simp only [List.length_drop, List.length_take]; rfl)) ?_; (with_reducible refine (dist_pieces.calls k a0 t138 _ ?side1 A3.out).mono ?_); (case side1 => exact Utf.tabs_step HT.out (by repeat (first | (with_reducible first | exact HB.out | apply below_alloc | apply pw_below_drewN | apply below_drew1) | exact HB.out))); rintro e w6 ⟨v139, rfl, ho0, hb⟩; refine ⟨_, rfl, ?_⟩; have n0_ := Aside0.mk (Kd.R_lower ho0 (below_size (by repeat (first | (with_reducible first | exact HB.out | apply below_alloc | apply pw_below_drewN | apply below_drew1) | exact HB.out)))); have n1_ := Aside0.mk (below_step (by repeat (first | (with_reducible first | exact HB.out | apply below_alloc | apply pw_below_drewN | apply below_drew1) | exact HB.out)) hb); clear HB; have HO140 := n0_; have HB := n1_; clear n0_ n1_; (try clear hb); (try clear hb2); (try clear hk); (try clear hi); (try clear ho0)) | ((with_reducible refine gate_callee (f := 83) rfl ?_); refine goesL_ (some 12) rfl rfl Tryd.func83 (by kernel_rfl) rfl #[.string a1] rfl (by (try simp only [List.map_toArray, List.map_cons, List.map_nil]); first | done | rfl | (simp only [List.length_drop, List.length_take]; rfl)) ?_; (with_reducible refine (dist_pieces.calls k a1 t141 _ ?side1 A4.out).mono ?_); (case side1 => exact Utf.tabs_step HT.out (by repeat (first | (with_reducible first | exact HB.out | apply below_alloc | apply pw_below_drewN | apply below_drew1) | exact HB.out))); rintro e w7 ⟨v142, rfl, ho0, hb⟩; refine ⟨_, rfl, ?_⟩; have n0_ := Aside0.mk (Kd.R_elder' (by (with_reducible repeat (first | apply Kd.R_alloc | apply Kd.R_drewN | apply Kd.R_drew)); exact HO140.out) (Kd.R_base ho0) hb); have n1_ := Aside0.mk (Kd.R_lower (Kd.R_new' ho0 (Kd.R_lt (by (with_reducible repeat (first | apply Kd.R_alloc | apply Kd.R_drewN | apply Kd.R_drew)); exact HO140.out))) (below_size (by repeat (first | (with_reducible first | exact HB.out | apply below_alloc | apply pw_below_drewN | apply below_drew1) | exact HB.out)))); have n2_ := Aside0.mk (below_step (by repeat (first | (with_reducible first | exact HB.out | apply below_alloc | apply pw_below_drewN | apply below_drew1) | exact HB.out)) hb); clear HO140; clear HB; have HO140 := n0_; have HO143 := n1_; have HB := n2_; clear n0_ n1_ n2_; (try clear hb); (try clear hb2); (try clear hk); (try clear hi); (try clear ho0); obtain ⟨Ao8, co8, eo8⟩ := Kd.R_slice HO140.out; subst eo8))
    go_ret3
    exact ⟨_, _, by first | rfl | (simp [errW_none, errW_some] <;> rfl) | (simp [*, errW_none, errW_some] <;> rfl), by first | exact Kd.R_nil _ _ _ _ _ | exact Kd.N_nil _ _ _ _ _ | exact Kd.V_nil _ _ _ _ _ | exact Kd.Q_nil _ _ _ _ _ | exact Kd.S_nil _ _ _ _ _, by first | exact Kd.R_nil _ _ _ _ _ | exact Kd.N_nil _ _ _ _ _ | exact Kd.V_nil _ _ _ _ _ | exact Kd.Q_nil _ _ _ _ _ | exact Kd.S_nil _ _ _ _ _, by repeat (first | (with_reducible first | exact HB.out | apply below_alloc | apply pw_below_drewN | apply below_drew1) | exact HB.out)⟩
  · rw [if_neg c5] at H
    have c5b0 : decide (256 < (t138.length : Int)) = false := decide_eq_false c5
    have c5b1 : decide (256 < t138.length) = false := decide_eq_false (by omega)
    clear c5
    by_cases c9 : (t141.length : Int) > 256
    · rw [if_pos c9] at H
      have c9b0 : decide (256 < (t141.length : Int)) = true := decide_eq_true c9
      have c9b1 : decide (256 < t141.length) = true := decide_eq_true (by omega)
      clear c9
      simp only [Option.some.injEq, Prod.mk.injEq] at H
      obtain ⟨rfl, rfl, rfl⟩ := H
      go_enter Tryd.func70, Tryd.ntmps70
      go_wp2_with (first | ((with_reducible refine gate_callee (f := 83) rfl ?_); refine goesL_ (some 10) rfl rfl Tryd.func83 (by kernel_rfl) rfl #[.string a0] rfl (by (try simp only [List.map_toArray, List.map_cons, List.map_nil]); first | done | rfl | (simp only [List.length_drop, List.length_take]; rfl)) ?_; (with_reducible refine (dist_pieces.calls k a0 t138 _ ?side1 A3.out).mono ?_); (case side1 => exact Utf.tabs_step HT.out (by repeat (first | (with_reducible first | exact HB.out | apply below_alloc | apply pw_below_drewN | apply below_drew1) | exact HB.out))); rintro e w10 ⟨v139, rfl, ho0, hb⟩; refine ⟨_, rfl, ?_⟩; have n0_ := Aside0.mk (Kd.R_lower ho0 (below_size (by repeat (first | (with_reducible first | exact HB.out | apply below_alloc | apply pw_below_drewN | apply below_drew1) | exact HB.out)))); have n1_ := Aside0.mk (below_step (by repeat (first | (with_reducible first | exact HB.out | apply below_alloc | apply pw_below_drewN | apply below_drew1) | exact HB.out)) hb); clear HB; have HO140 := n0_; have HB := n1_; clear n0_ n1_; (try clear hb); (try clear hb2); (try clear hk); (try clear hi); (try clear ho0)) | ((with_reducible refine gate_callee (f := 83) rfl ?_); refine goesL_ (some 12) rfl rfl Tryd.func83 (by kernel_rfl) rfl #[.string a1] rfl (by (try simp only [List.map_toArray, List.map_cons, List.map_nil]); first | done | rfl | (simp only [List.length_drop, List.length_take]; rfl)) ?_; (with_reducible refine (dist_pieces.calls k a1 t141 _ ?side1 A4.out).mono ?_); (case side1 => exact Utf.tabs_step HT.out (by repeat (first | (with_reducible first | exact HB.out | apply below_alloc | apply pw_below_drewN | apply below_drew1) | exact HB.out))); rintro e w11 ⟨v142, rfl, ho0, hb⟩; refine ⟨_, rfl, ?_⟩; have n0_ := Aside0.mk (Kd.R_elder' (by (with_reducible repeat (first | apply Kd.R_alloc | apply Kd.R_drewN | apply Kd.R_drew)); exact HO140.out) (Kd.R_base ho0) hb); have n1_ := Aside0.mk (Kd.R_lower (Kd.R_new' ho0 (Kd.R_lt (by (with_reducible repeat (first | apply Kd.R_alloc | apply Kd.R_drewN | apply Kd.R_drew)); exact HO140.out))) (below_size (by repeat (first | (with_reducible first | exact HB.out | apply below_alloc | apply pw_below_drewN | apply below_drew1) | exact HB.out)))); have n2_ := Aside0.mk (below_step (by repeat (first | (with_reducible first | exact HB.out | apply below_alloc | apply pw_below_drewN | apply below_drew1) | exact HB.out)) hb); clear HO140; clear HB; have HO140 := n0_; have HO143 := n1_; have HB := n2_; clear n0_ n1_ n2_; (try clear hb); (try clear hb2); (try clear hk); (try clear hi); (try clear ho0); obtain ⟨Ao12, co12, eo12⟩ := Kd.R_slice HO140.out; subst eo12; obtain ⟨Ao13, co13, eo13⟩ := Kd.R_slice HO143.out; subst eo13))
      go_ret3
      exact ⟨_, _, by first | rfl | (simp [errW_none, errW_some] <;> rfl) | (simp [*, errW_none, errW_some] <;> rfl), by first | exact Kd.R_nil _ _ _ _ _ | exact Kd.N_nil _ _ _ _ _ | exact Kd.V_nil _ _ _ _ _ | exact Kd.Q_nil _ _ _ _ _ | exact Kd.S_nil _ _ _ _ _, by first | exact Kd.R_nil _ _ _ _ _ | exact Kd.N_nil _ _ _ _ _ | exact Kd.V_nil _ _ _ _ _ | exact Kd.Q_nil _ _ _ _ _ | exact Kd.S_nil _ _ _ _ _, by repeat (first | (with_reducible first | exact HB.out | apply below_alloc | apply pw_below_drewN | apply below_drew1) | exact HB.out)⟩
    · rw [if_neg c9] at H
      have c9b0 : decide (256 < (t141.length : Int)) = false := decide_eq_false c9
      have c9b1 : decide (256 < t141.length) = false := decide_eq_false (by omega)
      clear c9
      simp only [Option.some.injEq, Prod.mk.injEq] at H
      obtain ⟨rfl, rfl, rfl⟩ := H
      go_enter Tryd.func70, Tryd.ntmps70
      go_wp2_with (first | ((with_reducible refine gate_callee (f := 83) rfl ?_); refine goesL_ (some 10) rfl rfl Tryd.func83 (by kernel_rfl) rfl #[.string a0] rfl (by (try simp only [List.map_toArray, List.map_cons, List.map_nil]); first | done | rfl | (simp only [List.length_drop, List.length_take]; rfl)) ?_; (with_reducible refine (dist_pieces.calls k a0 t138 _ ?side1 A3.out).mono ?_); (case side1 => exact Utf.tabs_step HT.out (by repeat (first | (with_reducible first | exact HB.out | apply below_alloc | apply pw_below_drewN | apply below_drew1) | exact HB.out))); rintro e w14 ⟨v139, rfl, ho0, hb⟩; refine ⟨_, rfl, ?_⟩; have n0_ := Aside0.mk (Kd.R_lower ho0 (below_size (by repeat (first | (with_reducible first | exact HB.out | apply below_alloc | apply pw_below_drewN | apply below_drew1) | exact HB.out)))); have n1_ := Aside0.mk (below_step (by repeat (first | (with_reducible first | exact HB.out | apply below_alloc | apply pw_below_drewN | apply below_drew1) | exact HB.out)) hb); clear HB; have HO140 := n0_; have HB := n1_; clear n0_ n1_; (try clear hb); (try clear hb2); (try clear hk); (try clear hi); (try clear ho0)) | ((with_reducible refine gate_callee (f := 83) rfl ?_); refine goesL_ (some 12) rfl rfl Tryd.func83 (by kernel_rfl) rfl #[.string a1] rfl (by (try simp only [List.map_toArray, List.map_cons, List.map_nil]); first | done | rfl | (simp only [List.length_drop, List.length_take]; rfl)) ?_; (with_reducible refine (dist_pieces.calls k a1 t141 _ ?side1 A4.out).mono ?_); (case side1 => exact Utf.tabs_step HT.out (by repeat (first | (with_reducible first | exact HB.out | apply below_alloc | apply pw_below_drewN | apply below_drew1) | exact HB.out))); rintro e w15 ⟨v142, rfl, ho0, hb⟩; refine ⟨_, rfl, ?_⟩; have n0_ := Aside0.mk (Kd.R_elder' (by (with_reducible repeat (first | apply Kd.R_alloc | apply Kd.R_drewN | apply Kd.R_drew)); exact HO140.out) (Kd.R_base ho0) hb); have n1_ := Aside0.mk (Kd.R_lower (Kd.R_new' ho0 (Kd.R_lt (by (with_reducible repeat (first | apply Kd.R_alloc | apply Kd.R_drewN | apply Kd.R_drew)); exact HO140.out))) (below_size (by repeat (first | (with_reducible first | exact HB.out | apply below_alloc | apply pw_below_drewN | apply below_drew1) | exact HB.out)))); have n2_ := Aside0.mk (below_step (by repeat (first | (with_reducible first | exact HB.out | apply below_alloc | apply pw_below_drewN | apply below_drew1) | exact HB.out)) hb); clear HO140; clear HB; have HO140 := n0_; have HO143 := n1_; have HB := n2_; clear n0_ n1_ n2_; (try clear hb); (try clear hb2); (try clear hk); (try clear hi); (try clear ho0); obtain ⟨Ao16, co16, eo16⟩ := Kd.R_slice HO140.out; subst eo16; obtain ⟨Ao17, co17, eo17⟩ := Kd.R_slice HO143.out; subst eo17))
      go_ret3
      exact ⟨_, _, by first | rfl | (simp [errW_none, errW_some] <;> rfl) | (simp [*, errW_none, errW_some] <;> rfl), by (with_reducible repeat (first | apply Kd.R_alloc | apply Kd.R_drewN | apply Kd.R_drew)); exact Kd.R_mono HO140.out (fun _ hk => hk.2), by (with_reducible repeat (first | apply Kd.R_alloc | apply Kd.R_drewN | apply Kd.R_drew)); exact Kd.R_mono HO143.out (fun _ hk => hk.2), by repeat (first | (with_reducible first | exact HB.out | apply below_alloc | apply pw_below_drewN | apply below_drew1) | exact HB.out)⟩

end Go.Proofs.YtcpbalnbgmjhjaaDoor.E
