-- Printed by hprint.py (this session's program over the kit's print) out of the translation; the parts 'by hand' are the session's own.
import Derived.Test.YtalogampkkjcdaaDoorPx0
import Derived.Test.YtalogampkkjcdaaDoorPx2
namespace Go.Proofs.YtalogampkkjcdaaDoor.P
open Go.RowKit Go.Proofs.YtalogampkkjcdaaDoorW.PrintWords Go.Proofs.YtalogampkkjcdaaDoorW.PrintLast Go.Proofs.YtalogampkkjcdaaDoorW.PrintMore
attribute [local go_sem] max2_int min2_int max_two min_two max_three min_three max_four min_four   -- for this text's walks alone
set_option linter.unusedVariables false
set_option linter.unusedSimpArgs false

/-! ### dist_pieces: function 42 -/
def dist_pieces.l0 : Nat → ByteArray → List ByteArray → List (S75) → Int → Int → Option (List ByteArray)
 | 0, _, _, _, _, _ => none
 | k + 1, x0, x3, x7, x8, x9 => if x9 < x8 then (if 0 ≤ x9 then (if x9 < (x7.length : Int) then (if 0 ≤ ((rd_T75 x7 x9).f0) then (if ((rd_T75 x7 x9).f0) ≤ (wrap64 (((rd_T75 x7 x9).f0) + ((rd_T75 x7 x9).f1))) then (if (wrap64 (((rd_T75 x7 x9).f0) + ((rd_T75 x7 x9).f1))) ≤ (x0.size : Int) then (if x3.length < 8796093022208 then (dist_pieces.l0 k x0 (x3 ++ [x0.extract (((rd_T75 x7 x9).f0) : Int).toNat ((wrap64 (((rd_T75 x7 x9).f0) + ((rd_T75 x7 x9).f1))) : Int).toNat]) x7 x8 (wrap64 (x9 + 1))) else (none)) else (none)) else (none)) else (none)) else (none)) else (none)) else (some x3)
def dist_pieces.f (k : Nat) (a0 : ByteArray) : Option (List ByteArray) := (glyph_Cells.f a0).bind fun t101 => (dist_pieces.l0 k a0 ([] : List ByteArray) t101 (t101.length : Int) 0)
theorem dist_pieces.mono_l : ∀ k, (∀ y0 y1 y2 y3 y4, LeO (dist_pieces.l0 k y0 y1 y2 y3 y4) (dist_pieces.l0 (k + 1) y0 y1 y2 y3 y4))
 | 0 => fun _ _ _ _ _ r h => by simp [dist_pieces.l0] at h
 | k + 1 => by
  have ih0 := dist_pieces.mono_l k
  ·
   intro y0 y1 y2 y3 y4
   unfold dist_pieces.l0
   repeat' first
   | (with_reducible exact ih0 _ _ _ _ _)
   | (with_reducible exact LeO.refl _)
   | (with_reducible exact LeO.none _)
   | (with_reducible refine LeO.ite ?_ ?_)
   | (with_reducible refine LeO.bind ?_ (fun _ => ?_))
   | exact ih0 _ _ _ _ _
   | exact LeO.none _
   | refine LeO.ite ?_ ?_
   | refine LeO.bind ?_ (fun _ => ?_)
theorem dist_pieces.mono : ∀ a0 k, LeO (dist_pieces.f k a0) (dist_pieces.f (k + 1) a0) := by
 intro a0 k
 have ih0 := dist_pieces.mono_l k
 unfold dist_pieces.f
 repeat' first
  | (with_reducible exact ih0 _ _ _ _ _)
  | (with_reducible exact LeO.refl _)
  | (with_reducible exact LeO.none _)
  | (with_reducible refine LeO.ite ?_ ?_)
  | (with_reducible refine LeO.bind ?_ (fun _ => ?_))
  | exact ih0 _ _ _ _ _
  | exact LeO.none _
  | refine LeO.ite ?_ ?_
  | refine LeO.bind ?_ (fun _ => ?_)
set_option maxHeartbeats 8000000 in
set_option maxRecDepth 100000 in
theorem dist_pieces.calls (k : Nat) (a0 : ByteArray) (r : List ByteArray) (w : World) (hT : Lib.Utf8Tabs 0 1 w) (h : dist_pieces.f k a0 = some r) :
 Calls Tryd.prog 42 #[.string a0] w fun e w' => ∃ v0_ : Value, e = .returned (v0_) ∧ Kd.R Kd.string 9 w' w.heap.size (fun _ => True) v0_ r ∧ Below w.heap.size w w' := by
 have hu75 := Tryd.underlying75
 have HT := Aside0.mk hT
 clear hT
 have HB := Aside0.mk (Below.refl w.heap.size w)
 have H : ((glyph_Cells.f a0).bind fun t101 => (dist_pieces.l0 k a0 ([] : List ByteArray) t101 (t101.length : Int) 0)) = some r := h
 clear h
 replace H := Option.bind_eq_some_iff.mp H
 obtain ⟨t101, A20, H⟩ := H
 replace H : (dist_pieces.l0 k a0 ([] : List ByteArray) t101 (t101.length : Int) 0) = some r := H
 have A2 := Aside0.mk A20
 clear A20
 have H' := Aside0.mk H
 clear H
 go_enter Tryd.func42, Tryd.ntmps42
 go_wp2_with (first | ((with_reducible refine gate_callee (f := 48) rfl ?_); refine goesL_ (some 7) rfl rfl Tryd.func48 (by kernel_rfl) rfl #[.string a0] rfl (by (try simp only [List.map_toArray, List.map_cons, List.map_nil]); first | done | rfl | (simp only [List.length_drop, List.length_take]; rfl)) ?_; (with_reducible refine (glyph_Cells.calls a0 t101 _ ?side1 A2.out).mono ?_); (case side1 => exact Utf.tabs_step HT.out (by repeat (first | (with_reducible first | exact HB.out | apply below_alloc | apply pw_below_drewN | apply below_drew1) | exact HB.out))); rintro e w3 ⟨v102, rfl, ho0, hb⟩; refine ⟨_, rfl, ?_⟩; have n0_ := Aside0.mk (Kd.R_lower ho0 (below_size (by repeat (first | (with_reducible first | exact HB.out | apply below_alloc | apply pw_below_drewN | apply below_drew1) | exact HB.out)))); have n1_ := Aside0.mk (below_step (by repeat (first | (with_reducible first | exact HB.out | apply below_alloc | apply pw_below_drewN | apply below_drew1) | exact HB.out)) hb); clear HB; have HO103 := n0_; have HB := n1_; clear n0_ n1_; (try clear hb); (try clear hb2); (try clear hk); (try clear hi); (try clear ho0); obtain ⟨Ao4, co4, eo4⟩ := Kd.R_slice HO103.out; subst eo4))
 go_loopg [3, 9] k (fun kq v3 v9 w' => ∃ (x3_1 : List ByteArray) (x9_1 : Int), v9 = .int .i64 x9_1 ∧ Aside0 (dist_pieces.l0 kq a0 x3_1 t101 (t101.length : Int) x9_1 = some r) ∧ Aside0 (kq ≤ k) ∧ Aside0 (Kd.R Kd.string 9 w' w.heap.size (fun _ => True) v3 x3_1) ∧ Aside0 (Kd.R k75 75 w' w.heap.size (fun _ => True) (.slice Ao4 t101.length co4) t101) ∧ Aside0 (Below w.heap.size w w'))
 case atStart => exact ⟨(([] : List ByteArray)), (0), (by first | rfl | (simp; done) | (simp [*]; done)), H', ⟨Nat.le_refl _⟩, ⟨by first | exact Kd.R_nil _ _ _ _ _ | exact Kd.N_nil _ _ _ _ _ | exact Kd.V_nil _ _ _ _ _ | exact Kd.Q_nil _ _ _ _ _ | exact Kd.S_nil _ _ _ _ _⟩, ⟨by (with_reducible repeat (first | apply Kd.R_alloc | apply Kd.R_drewN | apply Kd.R_drew)); exact HO103.out⟩, ⟨by repeat (first | (with_reducible first | exact HB.out | apply below_alloc | apply pw_below_drewN | apply below_drew1) | exact HB.out)⟩⟩
 case round =>
  clear H'
  (try clear p2); (try clear c4)
  obtain ⟨x3_1, x9_1, rfl, HA, HK1, HO_3, HO_7, HB⟩ := hrel
  cases gk with
  | zero => exact absurd HA.out (by simp [dist_pieces.l0])
  | succ k1 =>
   have H := HA.out
   clear HA
   simp only [dist_pieces.l0] at H
   by_cases c5 : x9_1 < (t101.length : Int)
   ·
    rw [if_pos c5] at H
    have c5b0 : decide (x9_1 < (t101.length : Int)) = true := decide_eq_true c5
    clear c5
    by_cases c6 : 0 ≤ x9_1
    rotate_left
    · rw [if_neg c6] at H; exact absurd H (by simp)
    rw [if_pos c6] at H
    have c6b0 : decide (0 ≤ x9_1) = true := decide_eq_true c6
    clear c6
    by_cases c7 : x9_1 < (t101.length : Int)
    rotate_left
    · rw [if_neg c7] at H; exact absurd H (by simp)
    rw [if_pos c7] at H
    have c7b0 : decide (x9_1 < (t101.length : Int)) = true := decide_eq_true c7
    clear c7
    by_cases c8 : 0 ≤ ((rd_T75 t101 x9_1).f0)
    rotate_left
    · rw [if_neg c8] at H; exact absurd H (by simp)
    rw [if_pos c8] at H
    have c8b0 := eq_true c8
    have c8b1 : decide (0 ≤ ((rd_T75 t101 x9_1).f0)) = true := decide_eq_true c8
    clear c8
    by_cases c9 : ((rd_T75 t101 x9_1).f0) ≤ (wrap64 (((rd_T75 t101 x9_1).f0) + ((rd_T75 t101 x9_1).f1)))
    rotate_left
    · rw [if_neg c9] at H; exact absurd H (by simp)
    rw [if_pos c9] at H
    have c9b0 := eq_true c9
    have c9b1 : decide (((rd_T75 t101 x9_1).f0) ≤ (wrap64 (((rd_T75 t101 x9_1).f0) + ((rd_T75 t101 x9_1).f1)))) = true := decide_eq_true c9
    by_cases c10 : (wrap64 (((rd_T75 t101 x9_1).f0) + ((rd_T75 t101 x9_1).f1))) ≤ (a0.size : Int)
    rotate_left
    · rw [if_neg c10] at H; exact absurd H (by simp)
    rw [if_pos c10] at H
    have c10b0 := eq_true c10
    have c10b1 : decide ((wrap64 (((rd_T75 t101 x9_1).f0) + ((rd_T75 t101 x9_1).f1))) ≤ (a0.size : Int)) = true := decide_eq_true c10
    by_cases c11 : x3_1.length < 8796093022208
    rotate_left
    · rw [if_neg c11] at H; exact absurd H (by simp)
    rw [if_pos c11] at H
    have LMc11 := Aside0.mk c11
    clear c11
    obtain ⟨y106, hy106⟩ : ∃ y_ : List ByteArray, y_ = (x3_1 ++ [a0.extract (((rd_T75 t101 x9_1).f0) : Int).toNat ((wrap64 (((rd_T75 t101 x9_1).f0) + ((rd_T75 t101 x9_1).f1))) : Int).toNat]) := ⟨_, rfl⟩
    replace H : (dist_pieces.l0 k1 a0 y106 t101 (t101.length : Int) (wrap64 (x9_1 + 1))) = some r := by first | (rw [hy106]; with_reducible exact H) | (have H2_ := (Option.bind_some _ _).symm.trans H; rw [hy106]; with_reducible exact H2_) | (have H2_ := (Option.bind_some _ _).symm.trans H; with_reducible exact H2_) | with_reducible exact H | (rw [hy106]; exact H) | exact H
    have Ny106 := Aside0.mk hy106
    clear hy106
    have H' := Aside0.mk H
    clear H
    have p104 : 0 ≤ (x9_1 : Int) := of_decide_eq_true (by assumption)
    have q104 : x9_1 < (t101.length : Int) := of_decide_eq_true (by assumption)
    obtain ⟨ad104, e104, hx104_0, hx104_1, hx104_2, hx104_3, hx104_4⟩ := at_T75 (Kd.R_reads' HO_7.out).2.2 x9_1 p104 q104
    cases e104
    replace p104 := eq_true p104
    replace q104 := eq_true q104
    go_wp2_with (first | ((with_reducible refine gate_dst (N := 5) rfl ?_); refine box_event ?hg (N := 5) ?hd (cs := #[.int .i64 0, .int .i64 0, .int .i32 0, .bool false, .int .u8 0]) (t := 75) ?hr ?_; (case hd => rfl); (case hg => rfl); (case hr => first | (go_simp; done) | (go_simp; rfl)); intro gb105 hg w12 hbox hb; have n0_ := Aside0.mk (Kd.R_below (by (with_reducible repeat (first | apply Kd.R_alloc | apply Kd.R_drewN | apply Kd.R_drew)); exact HO_3.out) hb); have n1_ := Aside0.mk (Kd.R_below (Kd.R_elderB (by (with_reducible repeat (first | apply Kd.R_alloc | apply Kd.R_drewN | apply Kd.R_drew)); exact HO_7.out) gb105 (Nat.le_of_eq hg.symm)) hb); have n2_ := Aside0.mk (below_step (by repeat (first | (with_reducible first | exact HB.out | apply below_alloc | apply pw_below_drewN | apply below_drew1) | exact HB.out)) hb); have n3_ := Aside0.mk (hbox); have n4_ := Aside0.mk ((by rw [hg]; exact (below_size (by repeat (first | (with_reducible first | exact HB.out | apply below_alloc | apply pw_below_drewN | apply below_drew1) | exact HB.out))) : w.heap.size ≤ gb105)); have n5_ := Aside0.mk ((by rw [hg]; exact (below_size (by repeat (first | (with_reducible first | exact HB.out | apply below_alloc | apply pw_below_drewN | apply below_drew1) | exact HB.out))) : w.heap.size ≤ gb105)); clear HO_3; clear HO_7; clear HB; have HO_3 := n0_; have HO_7 := n1_; have HB := n2_; have BK105 := n3_; have GW105 := n4_; have GE105 := n5_; clear n0_ n1_ n2_ n3_ n4_ n5_; clear hb hbox hg; have hcz13_0 : w12.cell? ⟨gb105, 0, none⟩ = some (.int .i64 0) := (blk_cell BK105.out 0).trans rfl; have hcz13_1 : w12.cell? ⟨gb105, 1, none⟩ = some (.int .i64 0) := (blk_cell BK105.out 1).trans rfl; have hcz13_2 : w12.cell? ⟨gb105, 2, none⟩ = some (.int .i32 0) := (blk_cell BK105.out 2).trans rfl; have hcz13_3 : w12.cell? ⟨gb105, 3, none⟩ = some (.bool false) := (blk_cell BK105.out 3).trans rfl; have hcz13_4 : w12.cell? ⟨gb105, 4, none⟩ = some (.int .u8 0) := (blk_cell BK105.out 4).trans rfl; have hfz13_0 := blk_frozen BK105.out 0; have hfz13_1 := blk_frozen BK105.out 1; have hfz13_2 := blk_frozen BK105.out 2; have hfz13_3 := blk_frozen BK105.out 3; have hfz13_4 := blk_frozen BK105.out 4) | ((with_reducible refine gate_builtin (b := .append) (xs := #[.tmp 13, .tmp 23]) rfl ?_); at_builtin; refine Kd.R_append Kd.string (w0 := w) w.heap.size rfl (.tmp 13) (.tmp 23) 65 9 (.string ⟨#[]⟩) 16 rfl Tryd.underlying65 info9 rfl (by decide) (by omega) u3 x3_1 (a0.extract (((rd_T75 t101 x9_1).f0) : Int).toNat ((wrap64 (((rd_T75 t101 x9_1).f0) + ((rd_T75 t101 x9_1).f1))) : Int).toNat) [.string (a0.extract (((rd_T75 t101 x9_1).f0) : Int).toNat ((wrap64 (((rd_T75 t101 x9_1).f0) + ((rd_T75 t101 x9_1).f1))) : Int).toNat)] (fun _ => True) (fun _ => False) rfl (by first | (go_simp; done) | (go_simp; rfl)) ?aP (fun _ hk => hk.elim) ?aF ?aO ?aB ?aS ?aL ?_; (case aP => exact rfl); (case aB => exact (by repeat (first | (with_reducible first | exact HB.out | apply below_alloc | apply pw_below_drewN | apply below_drew1 | refine below_set ?_ GE105.out) | exact HB.out))); (case aF => exact (fun _ _ => trivial)); (case aO => exact (by (with_reducible repeat (first | apply Kd.R_alloc | apply Kd.R_drewN | apply Kd.R_drew)); exact Kd.R_mono (Kd.R_far (p := ⟨gb105, 4, none⟩) (Kd.R_far (p := ⟨gb105, 3, none⟩) (Kd.R_far (p := ⟨gb105, 2, none⟩) (Kd.R_far (p := ⟨gb105, 1, none⟩) (Kd.R_far (p := ⟨gb105, 0, none⟩) (Kd.R_types HO_3.out BK105.out (by decide)) (fun _ hk => hk.2) (.int .i64 ((rd_T75 t101 x9_1).f0))) (fun _ hk => hk.2) (.int .i64 ((rd_T75 t101 x9_1).f1))) (fun _ hk => hk.2) (.int .i32 ((rd_T75 t101 x9_1).f2))) (fun _ hk => hk.2) (.bool ((rd_T75 t101 x9_1).f3))) (fun _ hk => hk.2) (.int .u8 ((rd_T75 t101 x9_1).f4))) (fun _ hk => trivial))); (case aS => exact (below_size (by repeat (first | (with_reducible first | exact HB.out | apply below_alloc | apply pw_below_drewN | apply below_drew1 | refine below_set ?_ GE105.out) | exact HB.out)))); (case aL => have := LMc11.out; omega); intro v107 w14 ho hb hg hat; rw [← Ny106.out] at ho; have n0_ := Aside0.mk (Kd.R_over' (by (with_reducible repeat (first | apply Kd.R_alloc | apply Kd.R_drewN | apply Kd.R_drew)); exact (Kd.R_mono (Kd.R_far (p := ⟨gb105, 4, none⟩) (Kd.R_far (p := ⟨gb105, 3, none⟩) (Kd.R_far (p := ⟨gb105, 2, none⟩) (Kd.R_far (p := ⟨gb105, 1, none⟩) (Kd.R_far (p := ⟨gb105, 0, none⟩) (Kd.R_mono HO_7.out (fun k_ hk => (⟨hk, hk.2⟩ : _ ∧ k_ ≠ gb105))) (fun _ hk => hk.2) (.int .i64 ((rd_T75 t101 x9_1).f0))) (fun _ hk => hk.2) (.int .i64 ((rd_T75 t101 x9_1).f1))) (fun _ hk => hk.2) (.int .i32 ((rd_T75 t101 x9_1).f2))) (fun _ hk => hk.2) (.bool ((rd_T75 t101 x9_1).f3))) (fun _ hk => hk.2) (.int .u8 ((rd_T75 t101 x9_1).f4))) (fun _ h_ => h_.1))) (Kd.R_typed (by (with_reducible repeat (first | apply Kd.R_alloc | apply Kd.R_drewN | apply Kd.R_drew)); exact (Kd.R_mono (Kd.R_far (p := ⟨gb105, 4, none⟩) (Kd.R_far (p := ⟨gb105, 3, none⟩) (Kd.R_far (p := ⟨gb105, 2, none⟩) (Kd.R_far (p := ⟨gb105, 1, none⟩) (Kd.R_far (p := ⟨gb105, 0, none⟩) (Kd.R_types HO_3.out BK105.out (by decide)) (fun _ hk => hk.2) (.int .i64 ((rd_T75 t101 x9_1).f0))) (fun _ hk => hk.2) (.int .i64 ((rd_T75 t101 x9_1).f1))) (fun _ hk => hk.2) (.int .i32 ((rd_T75 t101 x9_1).f2))) (fun _ hk => hk.2) (.bool ((rd_T75 t101 x9_1).f3))) (fun _ hk => hk.2) (.int .u8 ((rd_T75 t101 x9_1).f4))) (fun _ h_ => h_.1)))) (by decide) hg); have n1_ := Aside0.mk (blk_grown (g := gb105) (o := .cells #[.int .i64 ((rd_T75 t101 x9_1).f0), .int .i64 ((rd_T75 t101 x9_1).f1), .int .i32 ((rd_T75 t101 x9_1).f2), .bool ((rd_T75 t101 x9_1).f3), .int .u8 ((rd_T75 t101 x9_1).f4)] 75 (0, 0)) (by (with_reducible repeat (first | refine blk_drewN ?_ _ | refine blk_drew ?_ | refine blk_alloc ?_ _)); refine blk_put (cs := #[.int .i64 ((rd_T75 t101 x9_1).f0), .int .i64 ((rd_T75 t101 x9_1).f1), .int .i32 ((rd_T75 t101 x9_1).f2), .bool ((rd_T75 t101 x9_1).f3), .int .u8 0]) ?_ 4 _ rfl; (with_reducible repeat (first | refine blk_drewN ?_ _ | refine blk_drew ?_ | refine blk_alloc ?_ _)); refine blk_put (cs := #[.int .i64 ((rd_T75 t101 x9_1).f0), .int .i64 ((rd_T75 t101 x9_1).f1), .int .i32 ((rd_T75 t101 x9_1).f2), .bool false, .int .u8 0]) ?_ 3 _ rfl; (with_reducible repeat (first | refine blk_drewN ?_ _ | refine blk_drew ?_ | refine blk_alloc ?_ _)); refine blk_put (cs := #[.int .i64 ((rd_T75 t101 x9_1).f0), .int .i64 ((rd_T75 t101 x9_1).f1), .int .i32 0, .bool false, .int .u8 0]) ?_ 2 _ rfl; (with_reducible repeat (first | refine blk_drewN ?_ _ | refine blk_drew ?_ | refine blk_alloc ?_ _)); refine blk_put (cs := #[.int .i64 ((rd_T75 t101 x9_1).f0), .int .i64 0, .int .i32 0, .bool false, .int .u8 0]) ?_ 1 _ rfl; (with_reducible repeat (first | refine blk_drewN ?_ _ | refine blk_drew ?_ | refine blk_alloc ?_ _)); refine blk_put (cs := #[.int .i64 0, .int .i64 0, .int .i32 0, .bool false, .int .u8 0]) ?_ 0 _ rfl; (with_reducible repeat (first | refine blk_drewN ?_ _ | refine blk_drew ?_ | refine blk_alloc ?_ _)); exact BK105.out) hg (Kd.R_ne HO_3.out BK105.out (by decide))); have n2_ := Aside0.mk (hb); have n3_ := Aside0.mk (ho); clear HO_7; clear BK105; clear HB; clear HO_3; have HO_7 := n0_; have BK105 := n1_; have HB := n2_; have HO108 := n3_; clear n0_ n1_ n2_ n3_; clear ho hb hg hat))
    go_roundg k1
    case measure => have := HK1.out; omega
    case rel => exact ⟨(y106), (wrap64 (x9_1 + 1)), (by first | rfl | (simp; done) | (simp [*]; done)), H', ⟨by have := HK1.out; omega⟩, ⟨by (with_reducible repeat (first | apply Kd.R_alloc | apply Kd.R_drewN | apply Kd.R_drew)); exact HO108.out⟩, ⟨by (with_reducible repeat (first | apply Kd.R_alloc | apply Kd.R_drewN | apply Kd.R_drew)); exact Kd.R_mono HO_7.out (fun _ hk => trivial)⟩, ⟨by repeat (first | (with_reducible first | exact HB.out | apply below_alloc | apply pw_below_drewN | apply below_drew1 | refine below_set ?_ GE105.out) | exact HB.out)⟩⟩
   ·
    rw [if_neg c5] at H
    have c5b0 : decide (x9_1 < (t101.length : Int)) = false := decide_eq_false c5
    clear c5
    obtain rfl := Option.some.inj H
    go_wp2
    go_ret
    exact ⟨_, by first | rfl | (simp [errW_none, errW_some] <;> rfl) | (simp [*, errW_none, errW_some] <;> rfl), by (with_reducible repeat (first | apply Kd.R_alloc | apply Kd.R_drewN | apply Kd.R_drew)); exact HO_3.out, by repeat (first | (with_reducible first | exact HB.out | apply below_alloc | apply pw_below_drewN | apply below_drew1) | exact HB.out)⟩

/-! ### dist_both: function 34 -/
def dist_both.f (k : Nat) (a0 : ByteArray) (a1 : ByteArray) : Option (List ByteArray × List ByteArray × Int) := (dist_pieces.f k a0).bind fun t109 => ((dist_pieces.f k a1).bind fun t112 => (if (t109.length : Int) > 256 then (some (([] : List ByteArray), ([] : List ByteArray), 1)) else (if (t112.length : Int) > 256 then (some (([] : List ByteArray), ([] : List ByteArray), 1)) else (some (t109, t112, 0)))))
theorem dist_both.mono : ∀ a0 a1 k, LeO (dist_both.f k a0 a1) (dist_both.f (k + 1) a0 a1) := by
 intro a0 a1 k
 unfold dist_both.f
 repeat' first
  | (with_reducible exact dist_pieces.mono _ _)
  | (with_reducible exact LeO.refl _)
  | (with_reducible exact LeO.none _)
  | (with_reducible refine LeO.ite ?_ ?_)
  | (with_reducible refine LeO.bind ?_ (fun _ => ?_))
  | exact dist_pieces.mono _ _
  | exact LeO.none _
  | refine LeO.ite ?_ ?_
  | refine LeO.bind ?_ (fun _ => ?_)
set_option maxHeartbeats 8000000 in
set_option maxRecDepth 100000 in
theorem dist_both.calls (k : Nat) (a0 : ByteArray) (a1 : ByteArray) (r1 : List ByteArray) (r2 : List ByteArray) (r3 : Int) (w : World) (hT : Lib.Utf8Tabs 0 1 w) (h : dist_both.f k a0 a1 = some (r1, r2, r3)) :
 Calls Tryd.prog 34 #[.string a0, .string a1] w fun e w' => ∃ v0_ v1_ : Value, e = .returned (.tuple #[v0_, v1_, .int .i64 r3]) ∧ Kd.R Kd.string 9 w' w.heap.size (fun k_ => some k_ ≠ (v1_ : Value).ownBlock) v0_ r1 ∧ Kd.R Kd.string 9 w' w.heap.size (fun k_ => some k_ ≠ (v0_ : Value).ownBlock) v1_ r2 ∧ Below w.heap.size w w' := by
 have HT := Aside0.mk hT
 clear hT
 have HB := Aside0.mk (Below.refl w.heap.size w)
 have H : ((dist_pieces.f k a0).bind fun t109 => ((dist_pieces.f k a1).bind fun t112 => (if (t109.length : Int) > 256 then (some (([] : List ByteArray), ([] : List ByteArray), 1)) else (if (t112.length : Int) > 256 then (some (([] : List ByteArray), ([] : List ByteArray), 1)) else (some (t109, t112, 0)))))) = some (r1, r2, r3) := h
 clear h
 replace H := Option.bind_eq_some_iff.mp H
 obtain ⟨t109, A30, H⟩ := H
 replace H : ((dist_pieces.f k a1).bind fun t112 => (if (t109.length : Int) > 256 then (some (([] : List ByteArray), ([] : List ByteArray), 1)) else (if (t112.length : Int) > 256 then (some (([] : List ByteArray), ([] : List ByteArray), 1)) else (some (t109, t112, 0))))) = some (r1, r2, r3) := H
 have A3 := Aside0.mk A30
 clear A30
 replace H := Option.bind_eq_some_iff.mp H
 obtain ⟨t112, A40, H⟩ := H
 replace H : (if (t109.length : Int) > 256 then (some (([] : List ByteArray), ([] : List ByteArray), 1)) else (if (t112.length : Int) > 256 then (some (([] : List ByteArray), ([] : List ByteArray), 1)) else (some (t109, t112, 0)))) = some (r1, r2, r3) := H
 have A4 := Aside0.mk A40
 clear A40
 by_cases c5 : (t109.length : Int) > 256
 ·
  rw [if_pos c5] at H
  have c5b0 : decide (256 < (t109.length : Int)) = true := decide_eq_true c5
  have c5b1 : decide (256 < t109.length) = true := decide_eq_true (by omega)
  clear c5
  simp only [Option.some.injEq, Prod.mk.injEq] at H
  obtain ⟨rfl, rfl, rfl⟩ := H
  go_enter Tryd.func34, Tryd.ntmps34
  go_wp2_with (first | ((with_reducible refine gate_callee (f := 42) rfl ?_); refine goesL_ (some 10) rfl rfl Tryd.func42 (by kernel_rfl) rfl #[.string a0] rfl (by (try simp only [List.map_toArray, List.map_cons, List.map_nil]); first | done | rfl | (simp only [List.length_drop, List.length_take]; rfl)) ?_; (with_reducible refine (dist_pieces.calls k a0 t109 _ ?side1 A3.out).mono ?_); (case side1 => exact Utf.tabs_step HT.out (by repeat (first | (with_reducible first | exact HB.out | apply below_alloc | apply pw_below_drewN | apply below_drew1) | exact HB.out))); rintro e w6 ⟨v110, rfl, ho0, hb⟩; refine ⟨_, rfl, ?_⟩; have n0_ := Aside0.mk (Kd.R_lower ho0 (below_size (by repeat (first | (with_reducible first | exact HB.out | apply below_alloc | apply pw_below_drewN | apply below_drew1) | exact HB.out)))); have n1_ := Aside0.mk (below_step (by repeat (first | (with_reducible first | exact HB.out | apply below_alloc | apply pw_below_drewN | apply below_drew1) | exact HB.out)) hb); clear HB; have HO111 := n0_; have HB := n1_; clear n0_ n1_; (try clear hb); (try clear hb2); (try clear hk); (try clear hi); (try clear ho0)) | ((with_reducible refine gate_callee (f := 42) rfl ?_); refine goesL_ (some 12) rfl rfl Tryd.func42 (by kernel_rfl) rfl #[.string a1] rfl (by (try simp only [List.map_toArray, List.map_cons, List.map_nil]); first | done | rfl | (simp only [List.length_drop, List.length_take]; rfl)) ?_; (with_reducible refine (dist_pieces.calls k a1 t112 _ ?side1 A4.out).mono ?_); (case side1 => exact Utf.tabs_step HT.out (by repeat (first | (with_reducible first | exact HB.out | apply below_alloc | apply pw_below_drewN | apply below_drew1) | exact HB.out))); rintro e w7 ⟨v113, rfl, ho0, hb⟩; refine ⟨_, rfl, ?_⟩; have n0_ := Aside0.mk (Kd.R_elder' (by (with_reducible repeat (first | apply Kd.R_alloc | apply Kd.R_drewN | apply Kd.R_drew)); exact HO111.out) (Kd.R_base ho0) hb); have n1_ := Aside0.mk (Kd.R_lower (Kd.R_new' ho0 (Kd.R_lt (by (with_reducible repeat (first | apply Kd.R_alloc | apply Kd.R_drewN | apply Kd.R_drew)); exact HO111.out))) (below_size (by repeat (first | (with_reducible first | exact HB.out | apply below_alloc | apply pw_below_drewN | apply below_drew1) | exact HB.out)))); have n2_ := Aside0.mk (below_step (by repeat (first | (with_reducible first | exact HB.out | apply below_alloc | apply pw_below_drewN | apply below_drew1) | exact HB.out)) hb); clear HO111; clear HB; have HO111 := n0_; have HO114 := n1_; have HB := n2_; clear n0_ n1_ n2_; (try clear hb); (try clear hb2); (try clear hk); (try clear hi); (try clear ho0); obtain ⟨Ao8, co8, eo8⟩ := Kd.R_slice HO111.out; subst eo8))
  go_ret3
  exact ⟨_, _, by first | rfl | (simp [errW_none, errW_some] <;> rfl) | (simp [*, errW_none, errW_some] <;> rfl), by first | exact Kd.R_nil _ _ _ _ _ | exact Kd.N_nil _ _ _ _ _ | exact Kd.V_nil _ _ _ _ _ | exact Kd.Q_nil _ _ _ _ _ | exact Kd.S_nil _ _ _ _ _, by first | exact Kd.R_nil _ _ _ _ _ | exact Kd.N_nil _ _ _ _ _ | exact Kd.V_nil _ _ _ _ _ | exact Kd.Q_nil _ _ _ _ _ | exact Kd.S_nil _ _ _ _ _, by repeat (first | (with_reducible first | exact HB.out | apply below_alloc | apply pw_below_drewN | apply below_drew1) | exact HB.out)⟩
 ·
  rw [if_neg c5] at H
  have c5b0 : decide (256 < (t109.length : Int)) = false := decide_eq_false c5
  have c5b1 : decide (256 < t109.length) = false := decide_eq_false (by omega)
  clear c5
  by_cases c9 : (t112.length : Int) > 256
  ·
   rw [if_pos c9] at H
   have c9b0 : decide (256 < (t112.length : Int)) = true := decide_eq_true c9
   have c9b1 : decide (256 < t112.length) = true := decide_eq_true (by omega)
   clear c9
   simp only [Option.some.injEq, Prod.mk.injEq] at H
   obtain ⟨rfl, rfl, rfl⟩ := H
   go_enter Tryd.func34, Tryd.ntmps34
   go_wp2_with (first | ((with_reducible refine gate_callee (f := 42) rfl ?_); refine goesL_ (some 10) rfl rfl Tryd.func42 (by kernel_rfl) rfl #[.string a0] rfl (by (try simp only [List.map_toArray, List.map_cons, List.map_nil]); first | done | rfl | (simp only [List.length_drop, List.length_take]; rfl)) ?_; (with_reducible refine (dist_pieces.calls k a0 t109 _ ?side1 A3.out).mono ?_); (case side1 => exact Utf.tabs_step HT.out (by repeat (first | (with_reducible first | exact HB.out | apply below_alloc | apply pw_below_drewN | apply below_drew1) | exact HB.out))); rintro e w10 ⟨v110, rfl, ho0, hb⟩; refine ⟨_, rfl, ?_⟩; have n0_ := Aside0.mk (Kd.R_lower ho0 (below_size (by repeat (first | (with_reducible first | exact HB.out | apply below_alloc | apply pw_below_drewN | apply below_drew1) | exact HB.out)))); have n1_ := Aside0.mk (below_step (by repeat (first | (with_reducible first | exact HB.out | apply below_alloc | apply pw_below_drewN | apply below_drew1) | exact HB.out)) hb); clear HB; have HO111 := n0_; have HB := n1_; clear n0_ n1_; (try clear hb); (try clear hb2); (try clear hk); (try clear hi); (try clear ho0)) | ((with_reducible refine gate_callee (f := 42) rfl ?_); refine goesL_ (some 12) rfl rfl Tryd.func42 (by kernel_rfl) rfl #[.string a1] rfl (by (try simp only [List.map_toArray, List.map_cons, List.map_nil]); first | done | rfl | (simp only [List.length_drop, List.length_take]; rfl)) ?_; (with_reducible refine (dist_pieces.calls k a1 t112 _ ?side1 A4.out).mono ?_); (case side1 => exact Utf.tabs_step HT.out (by repeat (first | (with_reducible first | exact HB.out | apply below_alloc | apply pw_below_drewN | apply below_drew1) | exact HB.out))); rintro e w11 ⟨v113, rfl, ho0, hb⟩; refine ⟨_, rfl, ?_⟩; have n0_ := Aside0.mk (Kd.R_elder' (by (with_reducible repeat (first | apply Kd.R_alloc | apply Kd.R_drewN | apply Kd.R_drew)); exact HO111.out) (Kd.R_base ho0) hb); have n1_ := Aside0.mk (Kd.R_lower (Kd.R_new' ho0 (Kd.R_lt (by (with_reducible repeat (first | apply Kd.R_alloc | apply Kd.R_drewN | apply Kd.R_drew)); exact HO111.out))) (below_size (by repeat (first | (with_reducible first | exact HB.out | apply below_alloc | apply pw_below_drewN | apply below_drew1) | exact HB.out)))); have n2_ := Aside0.mk (below_step (by repeat (first | (with_reducible first | exact HB.out | apply below_alloc | apply pw_below_drewN | apply below_drew1) | exact HB.out)) hb); clear HO111; clear HB; have HO111 := n0_; have HO114 := n1_; have HB := n2_; clear n0_ n1_ n2_; (try clear hb); (try clear hb2); (try clear hk); (try clear hi); (try clear ho0); obtain ⟨Ao12, co12, eo12⟩ := Kd.R_slice HO111.out; subst eo12; obtain ⟨Ao13, co13, eo13⟩ := Kd.R_slice HO114.out; subst eo13))
   go_ret3
   exact ⟨_, _, by first | rfl | (simp [errW_none, errW_some] <;> rfl) | (simp [*, errW_none, errW_some] <;> rfl), by first | exact Kd.R_nil _ _ _ _ _ | exact Kd.N_nil _ _ _ _ _ | exact Kd.V_nil _ _ _ _ _ | exact Kd.Q_nil _ _ _ _ _ | exact Kd.S_nil _ _ _ _ _, by first | exact Kd.R_nil _ _ _ _ _ | exact Kd.N_nil _ _ _ _ _ | exact Kd.V_nil _ _ _ _ _ | exact Kd.Q_nil _ _ _ _ _ | exact Kd.S_nil _ _ _ _ _, by repeat (first | (with_reducible first | exact HB.out | apply below_alloc | apply pw_below_drewN | apply below_drew1) | exact HB.out)⟩
  ·
   rw [if_neg c9] at H
   have c9b0 : decide (256 < (t112.length : Int)) = false := decide_eq_false c9
   have c9b1 : decide (256 < t112.length) = false := decide_eq_false (by omega)
   clear c9
   simp only [Option.some.injEq, Prod.mk.injEq] at H
   obtain ⟨rfl, rfl, rfl⟩ := H
   go_enter Tryd.func34, Tryd.ntmps34
   go_wp2_with (first | ((with_reducible refine gate_callee (f := 42) rfl ?_); refine goesL_ (some 10) rfl rfl Tryd.func42 (by kernel_rfl) rfl #[.string a0] rfl (by (try simp only [List.map_toArray, List.map_cons, List.map_nil]); first | done | rfl | (simp only [List.length_drop, List.length_take]; rfl)) ?_; (with_reducible refine (dist_pieces.calls k a0 t109 _ ?side1 A3.out).mono ?_); (case side1 => exact Utf.tabs_step HT.out (by repeat (first | (with_reducible first | exact HB.out | apply below_alloc | apply pw_below_drewN | apply below_drew1) | exact HB.out))); rintro e w14 ⟨v110, rfl, ho0, hb⟩; refine ⟨_, rfl, ?_⟩; have n0_ := Aside0.mk (Kd.R_lower ho0 (below_size (by repeat (first | (with_reducible first | exact HB.out | apply below_alloc | apply pw_below_drewN | apply below_drew1) | exact HB.out)))); have n1_ := Aside0.mk (below_step (by repeat (first | (with_reducible first | exact HB.out | apply below_alloc | apply pw_below_drewN | apply below_drew1) | exact HB.out)) hb); clear HB; have HO111 := n0_; have HB := n1_; clear n0_ n1_; (try clear hb); (try clear hb2); (try clear hk); (try clear hi); (try clear ho0)) | ((with_reducible refine gate_callee (f := 42) rfl ?_); refine goesL_ (some 12) rfl rfl Tryd.func42 (by kernel_rfl) rfl #[.string a1] rfl (by (try simp only [List.map_toArray, List.map_cons, List.map_nil]); first | done | rfl | (simp only [List.length_drop, List.length_take]; rfl)) ?_; (with_reducible refine (dist_pieces.calls k a1 t112 _ ?side1 A4.out).mono ?_); (case side1 => exact Utf.tabs_step HT.out (by repeat (first | (with_reducible first | exact HB.out | apply below_alloc | apply pw_below_drewN | apply below_drew1) | exact HB.out))); rintro e w15 ⟨v113, rfl, ho0, hb⟩; refine ⟨_, rfl, ?_⟩; have n0_ := Aside0.mk (Kd.R_elder' (by (with_reducible repeat (first | apply Kd.R_alloc | apply Kd.R_drewN | apply Kd.R_drew)); exact HO111.out) (Kd.R_base ho0) hb); have n1_ := Aside0.mk (Kd.R_lower (Kd.R_new' ho0 (Kd.R_lt (by (with_reducible repeat (first | apply Kd.R_alloc | apply Kd.R_drewN | apply Kd.R_drew)); exact HO111.out))) (below_size (by repeat (first | (with_reducible first | exact HB.out | apply below_alloc | apply pw_below_drewN | apply below_drew1) | exact HB.out)))); have n2_ := Aside0.mk (below_step (by repeat (first | (with_reducible first | exact HB.out | apply below_alloc | apply pw_below_drewN | apply below_drew1) | exact HB.out)) hb); clear HO111; clear HB; have HO111 := n0_; have HO114 := n1_; have HB := n2_; clear n0_ n1_ n2_; (try clear hb); (try clear hb2); (try clear hk); (try clear hi); (try clear ho0); obtain ⟨Ao16, co16, eo16⟩ := Kd.R_slice HO111.out; subst eo16; obtain ⟨Ao17, co17, eo17⟩ := Kd.R_slice HO114.out; subst eo17))
   go_ret3
   exact ⟨_, _, by first | rfl | (simp [errW_none, errW_some] <;> rfl) | (simp [*, errW_none, errW_some] <;> rfl), by (with_reducible repeat (first | apply Kd.R_alloc | apply Kd.R_drewN | apply Kd.R_drew)); exact Kd.R_mono HO111.out (fun _ hk => hk.2), by (with_reducible repeat (first | apply Kd.R_alloc | apply Kd.R_drewN | apply Kd.R_drew)); exact Kd.R_mono HO114.out (fun _ hk => hk.2), by repeat (first | (with_reducible first | exact HB.out | apply below_alloc | apply pw_below_drewN | apply below_drew1) | exact HB.out)⟩

end Go.Proofs.YtalogampkkjcdaaDoor.P
