-- Printed by hprint.py (this session's program over the kit's print) out of the translation; the parts 'by hand' are the session's own.
import Derived.Test.YtfcobfjjcocggaaDoorCx0
import Derived.Test.YtfcobfjjcocggaaDoorCxf40
namespace Go.Proofs.YtfcobfjjcocggaaDoor.C
open Go.RowKit Go.Proofs.YtfcobfjjcocggaaDoorW.PrintWords Go.Proofs.YtfcobfjjcocggaaDoorW.PrintLast Go.Proofs.YtfcobfjjcocggaaDoorW.PrintMore
attribute [local go_sem] max2_int min2_int max_two min_two max_three min_three max_four min_four   -- for this text's walks alone
set_option linter.unusedVariables false
set_option linter.unusedSimpArgs false

/-! ### siglumref01_Cells: function 17 -/
def siglumref01_Cells.l0 : Nat → ByteArray → List (S30) → Int → Option ((List (S30)))
  | 0, _, _, _ => none
  | k + 1, x0, x3, x4 => if x4 < (x0.size : Int) then ((siglumref01_cell.f k x0 x4).bind fun bt17101 => (if x3.length < 5864062014805 then (siglumref01_Cells.l0 k x0 (x3 ++ [(⟨bt17101.1, bt17101.2.1, bt17101.2.2.1, bt17101.2.2.2.1, bt17101.2.2.2.2⟩ : S30)]) (wrap64 (x4 + bt17101.2.1))) else (none))) else (some x3)
def siglumref01_Cells.f (k : Nat) (a0 : ByteArray) : Option ((List (S30))) := siglumref01_Cells.l0 k a0 ([] : List (S30)) 0
theorem siglumref01_Cells.mono_l : ∀ k, (∀ y0 y1 y2, LeO (siglumref01_Cells.l0 k y0 y1 y2) (siglumref01_Cells.l0 (k + 1) y0 y1 y2))
  | 0 => fun _ _ _ r h => by simp [siglumref01_Cells.l0] at h
  | k + 1 => by
    have ih0 := siglumref01_Cells.mono_l k
    · intro y0 y1 y2
      unfold siglumref01_Cells.l0
      repeat' first
      | (with_reducible exact ih0 _ _ _)
      | (with_reducible exact siglumref01_cell.mono _ _ _)
      | (with_reducible exact LeO.refl _)
      | (with_reducible exact LeO.none _)
      | (with_reducible refine LeO.ite ?_ ?_)
      | (with_reducible refine LeO.bind ?_ (fun _ => ?_))
      | exact ih0 _ _ _
      | exact siglumref01_cell.mono _ _ _
      | exact LeO.none _
      | refine LeO.ite ?_ ?_
      | refine LeO.bind ?_ (fun _ => ?_)
theorem siglumref01_Cells.mono : ∀ a0 k, LeO (siglumref01_Cells.f k a0) (siglumref01_Cells.f (k + 1) a0) := by
  intro a0 k
  have ih0 := siglumref01_Cells.mono_l k
  unfold siglumref01_Cells.f
  repeat' first
      | (with_reducible exact ih0 _ _ _)
      | (with_reducible exact siglumref01_cell.mono _ _ _)
      | (with_reducible exact LeO.refl _)
      | (with_reducible exact LeO.none _)
      | (with_reducible refine LeO.ite ?_ ?_)
      | (with_reducible refine LeO.bind ?_ (fun _ => ?_))
      | exact ih0 _ _ _
      | exact siglumref01_cell.mono _ _ _
      | exact LeO.none _
      | refine LeO.ite ?_ ?_
      | refine LeO.bind ?_ (fun _ => ?_)
set_option maxHeartbeats 8000000 in
set_option maxRecDepth 100000 in
theorem siglumref01_Cells.calls (k : Nat) (a0 : ByteArray) (r : List (S30)) (w : World) (h : siglumref01_Cells.f k a0 = some r) :
    Calls Tryd.prog 17 #[.string a0] w fun e w' => ∃ v0_ : Value, e = .returned (v0_) ∧ Kd.R k30 30 w' w.heap.size (fun _ => True) v0_ r ∧ Below w.heap.size w w' := by
  have hu30 := Tryd.underlying30
  have HB := Aside0.mk (Below.refl w.heap.size w)
  have H : (siglumref01_Cells.l0 k a0 ([] : List (S30)) 0) = some r := h
  clear h
  have H' := Aside0.mk H
  clear H
  go_enter Tryd.func17, Tryd.ntmps17
  go_wp2
  go_loopg [3, 4] k (fun kq v3 v4 w' => ∃ (x3_1 : List (S30)) (x4_1 : Int), v4 = .int .i64 x4_1 ∧ Aside0 (siglumref01_Cells.l0 kq a0 x3_1 x4_1 = some r) ∧ Aside0 (kq ≤ k) ∧ Aside0 (Kd.R k30 30 w' w.heap.size (fun _ => True) v3 x3_1) ∧ Aside0 (Below w.heap.size w w'))
  case atStart => exact ⟨(([] : List (S30))), (0), (by first | rfl | (simp; done) | (simp [*]; done)), H', ⟨Nat.le_refl _⟩, ⟨by first | exact Kd.R_nil _ _ _ _ _ | exact Kd.N_nil _ _ _ _ _ | exact Kd.V_nil _ _ _ _ _ | exact Kd.Q_nil _ _ _ _ _ | exact Kd.S_nil _ _ _ _ _⟩, ⟨by repeat (first | (with_reducible first | exact HB.out | apply below_alloc | apply pw_below_drewN | apply below_drew1) | exact HB.out)⟩⟩
  case round =>
    clear H'
    try clear c1
    obtain ⟨x3_1, x4_1, rfl, HA, HK1, HO_3, HB⟩ := hrel
    cases gk with
    | zero => exact absurd HA.out (by simp [siglumref01_Cells.l0])
    | succ k1 =>
      have H := HA.out
      clear HA
      simp only [siglumref01_Cells.l0] at H
      by_cases c2 : x4_1 < (a0.size : Int)
      · rw [if_pos c2] at H
        have c2b0 : decide (x4_1 < (a0.size : Int)) = true := decide_eq_true c2
        clear c2
        replace H := Option.bind_eq_some_iff.mp H
        obtain ⟨⟨t17101, t17102, t17103, t17104, t17105⟩, A30, H⟩ := H
        replace H : (if x3_1.length < 5864062014805 then (siglumref01_Cells.l0 k1 a0 (x3_1 ++ [(⟨t17101, t17102, t17103, t17104, t17105⟩ : S30)]) (wrap64 (x4_1 + t17102))) else (none)) = some r := H
        have A3 := Aside0.mk A30
        clear A30
        by_cases c4 : x3_1.length < 5864062014805
        · rw [if_pos c4] at H
          have LMc4 := Aside0.mk c4
          clear c4
          obtain ⟨y17107, hy17107⟩ : ∃ y_ : List (S30), y_ = (x3_1 ++ [(⟨t17101, t17102, t17103, t17104, t17105⟩ : S30)]) := ⟨_, rfl⟩
          replace H : (siglumref01_Cells.l0 k1 a0 y17107 (wrap64 (x4_1 + t17102))) = some r := by first | (rw [hy17107]; with_reducible exact H) | (have H2_ := (Option.bind_some _ _).symm.trans H; rw [hy17107]; with_reducible exact H2_) | (have H2_ := (Option.bind_some _ _).symm.trans H; with_reducible exact H2_) | with_reducible exact H | (rw [hy17107]; exact H) | exact H
          have Ny17107 := Aside0.mk hy17107
          clear hy17107
          have H' := Aside0.mk H
          clear H
          go_wp2_with (first | ((with_reducible refine gate_callee (f := 40) rfl ?_); refine goesL_ (some 12) rfl rfl Tryd.func40 (by kernel_rfl) rfl #[.string a0, .int .i64 x4_1] rfl (by (try simp only [List.map_toArray, List.map_cons, List.map_nil]); first | done | rfl | (simp only [List.length_drop, List.length_take]; rfl)) ?_; (with_reducible refine (siglumref01_cell.calls k1 a0 x4_1 t17101 t17102 t17103 t17104 t17105 _ A3.out).mono ?_); rintro e w5 ⟨rfl, hb⟩; refine ⟨_, rfl, ?_⟩; have n0_ := Aside0.mk (Kd.R_below (by (with_reducible repeat (first | apply Kd.R_alloc | apply Kd.R_drewN | apply Kd.R_drew)); exact HO_3.out) hb); have n1_ := Aside0.mk (below_step (by repeat (first | (with_reducible first | exact HB.out | apply below_alloc | apply pw_below_drewN | apply below_drew1) | exact HB.out)) hb); clear HO_3; clear HB; have HO_3 := n0_; have HB := n1_; clear n0_ n1_; (try clear hb); (try clear hb2); (try clear hk); (try clear hi)) | ((with_reducible refine gate_dst (N := 5) rfl ?_); refine box_event ?hg (N := 5) ?hd (cs := #[.int .i64 0, .int .i64 0, .int .i32 0, .bool false, .int .u8 0]) (t := 30) ?hr ?_; (case hd => rfl); (case hg => rfl); (case hr => first | (go_simp; done) | (go_simp; rfl)); intro gb17106 hg w6 hbox hb; have n0_ := Aside0.mk (Kd.R_below (Kd.R_elderB (by (with_reducible repeat (first | apply Kd.R_alloc | apply Kd.R_drewN | apply Kd.R_drew)); exact HO_3.out) gb17106 (Nat.le_of_eq hg.symm)) hb); have n1_ := Aside0.mk (below_step (by repeat (first | (with_reducible first | exact HB.out | apply below_alloc | apply pw_below_drewN | apply below_drew1) | exact HB.out)) hb); have n2_ := Aside0.mk (hbox); have n3_ := Aside0.mk ((by rw [hg]; exact (below_size (by repeat (first | (with_reducible first | exact HB.out | apply below_alloc | apply pw_below_drewN | apply below_drew1) | exact HB.out))) : w.heap.size ≤ gb17106)); have n4_ := Aside0.mk ((by rw [hg]; exact (below_size (by repeat (first | (with_reducible first | exact HB.out | apply below_alloc | apply pw_below_drewN | apply below_drew1) | exact HB.out))) : w.heap.size ≤ gb17106)); clear HO_3; clear HB; have HO_3 := n0_; have HB := n1_; have BK17106 := n2_; have GW17106 := n3_; have GE17106 := n4_; clear n0_ n1_ n2_ n3_ n4_; clear hb hbox hg; have hcz7_0 : w6.cell? ⟨gb17106, 0, none⟩ = some (.int .i64 0) := (blk_cell BK17106.out 0).trans rfl; have hcz7_1 : w6.cell? ⟨gb17106, 1, none⟩ = some (.int .i64 0) := (blk_cell BK17106.out 1).trans rfl; have hcz7_2 : w6.cell? ⟨gb17106, 2, none⟩ = some (.int .i32 0) := (blk_cell BK17106.out 2).trans rfl; have hcz7_3 : w6.cell? ⟨gb17106, 3, none⟩ = some (.bool false) := (blk_cell BK17106.out 3).trans rfl; have hcz7_4 : w6.cell? ⟨gb17106, 4, none⟩ = some (.int .u8 0) := (blk_cell BK17106.out 4).trans rfl; have hfz7_0 := blk_frozen BK17106.out 0; have hfz7_1 := blk_frozen BK17106.out 1; have hfz7_2 := blk_frozen BK17106.out 2; have hfz7_3 := blk_frozen BK17106.out 3; have hfz7_4 := blk_frozen BK17106.out 4) | ((with_reducible refine gate_builtin (b := .append) (xs := #[.tmp 13, .tmp 15]) rfl ?_); at_builtin; refine Kd.R_append k30 (w0 := w) w.heap.size rfl (.tmp 13) (.tmp 15) 22 30 (.agg #[(.int .i64 0), (.int .i64 0), (.int .i32 0), (.bool false), (.int .u8 0)]) 24 rfl Tryd.underlying22 info30 rfl (by decide) (by omega) u3 x3_1 (⟨t17101, t17102, t17103, t17104, t17105⟩ : S30) [.int .i64 t17101, .int .i64 t17102, .int .i32 t17103, .bool t17104, .int .u8 t17105] (fun k_ => k_ ≠ gb17106) (fun _ => False) rfl (by first | (go_simp; done) | (go_simp; rfl)) ?aP (fun _ hk => hk.elim) ?aF ?aO ?aB ?aS ?aL ?_; (case aP => exact k30_mkM _ _ _ (⟨t17101, t17102, t17103, t17104, t17105⟩ : S30)); (case aB => exact (by repeat (first | (with_reducible first | exact HB.out | apply below_alloc | apply pw_below_drewN | apply below_drew1 | refine below_set ?_ GE17106.out) | exact HB.out))); (case aF => exact (fun k_ hk => Kd.freshB (g := gb17106) (o := .cells #[.int .i64 t17101, .int .i64 t17102, .int .i32 t17103, .bool t17104, .int .u8 t17105] 30 (0, 0)) (by (with_reducible repeat (first | refine blk_drewN ?_ _ | refine blk_drew ?_ | refine blk_alloc ?_ _)); refine blk_put (cs := #[.int .i64 t17101, .int .i64 t17102, .int .i32 t17103, .bool t17104, .int .u8 0]) ?_ 4 _ rfl; (with_reducible repeat (first | refine blk_drewN ?_ _ | refine blk_drew ?_ | refine blk_alloc ?_ _)); refine blk_put (cs := #[.int .i64 t17101, .int .i64 t17102, .int .i32 t17103, .bool false, .int .u8 0]) ?_ 3 _ rfl; (with_reducible repeat (first | refine blk_drewN ?_ _ | refine blk_drew ?_ | refine blk_alloc ?_ _)); refine blk_put (cs := #[.int .i64 t17101, .int .i64 t17102, .int .i32 0, .bool false, .int .u8 0]) ?_ 2 _ rfl; (with_reducible repeat (first | refine blk_drewN ?_ _ | refine blk_drew ?_ | refine blk_alloc ?_ _)); refine blk_put (cs := #[.int .i64 t17101, .int .i64 0, .int .i32 0, .bool false, .int .u8 0]) ?_ 1 _ rfl; (with_reducible repeat (first | refine blk_drewN ?_ _ | refine blk_drew ?_ | refine blk_alloc ?_ _)); refine blk_put (cs := #[.int .i64 0, .int .i64 0, .int .i32 0, .bool false, .int .u8 0]) ?_ 0 _ rfl; (with_reducible repeat (first | refine blk_drewN ?_ _ | refine blk_drew ?_ | refine blk_alloc ?_ _)); exact BK17106.out) k_ hk)); (case aO => exact (by (with_reducible repeat (first | apply Kd.R_alloc | apply Kd.R_drewN | apply Kd.R_drew)); exact Kd.R_mono (Kd.R_far (p := ⟨gb17106, 4, none⟩) (Kd.R_far (p := ⟨gb17106, 3, none⟩) (Kd.R_far (p := ⟨gb17106, 2, none⟩) (Kd.R_far (p := ⟨gb17106, 1, none⟩) (Kd.R_far (p := ⟨gb17106, 0, none⟩) (Kd.R_mono HO_3.out (fun k_ hk => (⟨hk, hk.2⟩ : _ ∧ k_ ≠ gb17106))) (fun _ hk => hk.2) (.int .i64 t17101)) (fun _ hk => hk.2) (.int .i64 t17102)) (fun _ hk => hk.2) (.int .i32 t17103)) (fun _ hk => hk.2) (.bool t17104)) (fun _ hk => hk.2) (.int .u8 t17105)) (fun _ hk => hk.1.2))); (case aS => exact (below_size (by repeat (first | (with_reducible first | exact HB.out | apply below_alloc | apply pw_below_drewN | apply below_drew1 | refine below_set ?_ GE17106.out) | exact HB.out)))); (case aL => have := LMc4.out; omega); intro v17108 w8 ho hb hg hat; rw [← Ny17107.out] at ho; have n0_ := Aside0.mk (blk_grown (g := gb17106) (o := .cells #[.int .i64 t17101, .int .i64 t17102, .int .i32 t17103, .bool t17104, .int .u8 t17105] 30 (0, 0)) (by (with_reducible repeat (first | refine blk_drewN ?_ _ | refine blk_drew ?_ | refine blk_alloc ?_ _)); refine blk_put (cs := #[.int .i64 t17101, .int .i64 t17102, .int .i32 t17103, .bool t17104, .int .u8 0]) ?_ 4 _ rfl; (with_reducible repeat (first | refine blk_drewN ?_ _ | refine blk_drew ?_ | refine blk_alloc ?_ _)); refine blk_put (cs := #[.int .i64 t17101, .int .i64 t17102, .int .i32 t17103, .bool false, .int .u8 0]) ?_ 3 _ rfl; (with_reducible repeat (first | refine blk_drewN ?_ _ | refine blk_drew ?_ | refine blk_alloc ?_ _)); refine blk_put (cs := #[.int .i64 t17101, .int .i64 t17102, .int .i32 0, .bool false, .int .u8 0]) ?_ 2 _ rfl; (with_reducible repeat (first | refine blk_drewN ?_ _ | refine blk_drew ?_ | refine blk_alloc ?_ _)); refine blk_put (cs := #[.int .i64 t17101, .int .i64 0, .int .i32 0, .bool false, .int .u8 0]) ?_ 1 _ rfl; (with_reducible repeat (first | refine blk_drewN ?_ _ | refine blk_drew ?_ | refine blk_alloc ?_ _)); refine blk_put (cs := #[.int .i64 0, .int .i64 0, .int .i32 0, .bool false, .int .u8 0]) ?_ 0 _ rfl; (with_reducible repeat (first | refine blk_drewN ?_ _ | refine blk_drew ?_ | refine blk_alloc ?_ _)); exact BK17106.out) hg (Kd.R_away HO_3.out (fun _ hk => hk.2))); have n1_ := Aside0.mk (hb); have n2_ := Aside0.mk (ho); clear BK17106; clear HB; clear HO_3; have BK17106 := n0_; have HB := n1_; have HO17109 := n2_; clear n0_ n1_ n2_; clear ho hb hg hat; have hcz9_0 : w8.cell? ⟨gb17106, 0, none⟩ = some (.int .i64 t17101) := (blk_cell BK17106.out 0).trans rfl; have hcz9_1 : w8.cell? ⟨gb17106, 1, none⟩ = some (.int .i64 t17102) := (blk_cell BK17106.out 1).trans rfl; have hcz9_2 : w8.cell? ⟨gb17106, 2, none⟩ = some (.int .i32 t17103) := (blk_cell BK17106.out 2).trans rfl; have hcz9_3 : w8.cell? ⟨gb17106, 3, none⟩ = some (.bool t17104) := (blk_cell BK17106.out 3).trans rfl; have hcz9_4 : w8.cell? ⟨gb17106, 4, none⟩ = some (.int .u8 t17105) := (blk_cell BK17106.out 4).trans rfl; have hfz9_0 := blk_frozen BK17106.out 0; have hfz9_1 := blk_frozen BK17106.out 1; have hfz9_2 := blk_frozen BK17106.out 2; have hfz9_3 := blk_frozen BK17106.out 3; have hfz9_4 := blk_frozen BK17106.out 4))
          go_roundg k1
          case measure => have := HK1.out; omega
          case rel => exact ⟨(y17107), (wrap64 (x4_1 + t17102)), (by first | rfl | (simp; done) | (simp [*]; done)), H', ⟨by have := HK1.out; omega⟩, ⟨by (with_reducible repeat (first | apply Kd.R_alloc | apply Kd.R_drewN | apply Kd.R_drew)); exact Kd.R_mono HO17109.out (fun _ hk => trivial)⟩, ⟨by repeat (first | (with_reducible first | exact HB.out | apply below_alloc | apply pw_below_drewN | apply below_drew1 | refine below_set ?_ GE17106.out) | exact HB.out)⟩⟩
        · rw [if_neg c4] at H
          exact absurd H (by simp)
      · rw [if_neg c2] at H
        have c2b0 : decide (x4_1 < (a0.size : Int)) = false := decide_eq_false c2
        clear c2
        obtain rfl := Option.some.inj H
        go_wp2
        go_ret
        exact ⟨_, by first | rfl | (simp [errW_none, errW_some] <;> rfl) | (simp [*, errW_none, errW_some] <;> rfl), by (with_reducible repeat (first | apply Kd.R_alloc | apply Kd.R_drewN | apply Kd.R_drew)); exact HO_3.out, by repeat (first | (with_reducible first | exact HB.out | apply below_alloc | apply pw_below_drewN | apply below_drew1) | exact HB.out)⟩

end Go.Proofs.YtfcobfjjcocggaaDoor.C
