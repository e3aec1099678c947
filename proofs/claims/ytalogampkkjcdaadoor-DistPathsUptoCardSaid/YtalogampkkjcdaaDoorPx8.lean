-- Printed by hprint.py (this session's program over the kit's print) out of the translation; the parts 'by hand' are the session's own.
import Derived.Test.YtalogampkkjcdaaDoorPx0
import Derived.Test.YtalogampkkjcdaaDoorPx7
namespace Go.Proofs.YtalogampkkjcdaaDoor.P
open Go.RowKit Go.Proofs.YtalogampkkjcdaaDoorW.PrintWords Go.Proofs.YtalogampkkjcdaaDoorW.PrintLast Go.Proofs.YtalogampkkjcdaaDoorW.PrintMore
attribute [local go_sem] max2_int min2_int max_two min_two max_three min_three max_four min_four   -- for this text's walks alone
set_option linter.unusedVariables false
set_option linter.unusedSimpArgs false

/-! ### siglumref08_rests: function 36 -/
mutual
def siglumref08_rests.l0 : Nat → List (S75) → List (S75) → List (List Int) → Int → Option ((List (List Int)))
 | 0, _, _, _, _ => none
 | k + 1, x0, x1, x5, x6 => if x6 ≥ 0 then (if 0 ≤ (wrap64 ((x1.length : Int) + 1)) then (if (wrap64 ((x1.length : Int) + 1) : Int).toNat ≤ 35184372088832 then (if 0 ≤ x6 then (if x6 < (x5.length : Int) then (siglumref08_rests.l1 k x0 x1 (x5.set (x6 : Int).toNat (List.replicate (wrap64 ((x1.length : Int) + 1) : Int).toNat 0)) x6 (x1.length : Int)) else (none)) else (none)) else (none)) else (none)) else (some x5)
def siglumref08_rests.l1 : Nat → List (S75) → List (S75) → List (List Int) → Int → Int → Option ((List (List Int)))
 | 0, _, _, _, _, _ => none
 | k + 1, x0, x1, x5, x6, x7 => if x7 ≥ 0 then (if x6 = (x0.length : Int) then (if 0 ≤ x6 then (if x6 < (x5.length : Int) then (if 0 ≤ x7 then (if x7 < ((rd_L7 x5 x6).length : Int) then (siglumref08_rests.l1 k x0 x1 (x5.set (x6 : Int).toNat ((rd_L7 x5 x6).set (x7 : Int).toNat (wrap64 ((x1.length : Int) - x7)))) x6 (wrap64 (x7 - 1))) else (none)) else (none)) else (none)) else (none)) else (if x7 = (x1.length : Int) then (if 0 ≤ x6 then (if x6 < (x5.length : Int) then (if 0 ≤ x7 then (if x7 < ((rd_L7 x5 x6).length : Int) then (siglumref08_rests.l1 k x0 x1 (x5.set (x6 : Int).toNat ((rd_L7 x5 x6).set (x7 : Int).toNat (wrap64 ((x0.length : Int) - x6)))) x6 (wrap64 (x7 - 1))) else (none)) else (none)) else (none)) else (none)) else (if 0 ≤ (wrap64 (x6 + 1)) then (if (wrap64 (x6 + 1)) < (x5.length : Int) then (if 0 ≤ x7 then (if x7 < ((rd_L7 x5 (wrap64 (x6 + 1))).length : Int) then (if 0 ≤ x6 then (if x6 < (x5.length : Int) then (if 0 ≤ (wrap64 (x7 + 1)) then (if (wrap64 (x7 + 1)) < ((rd_L7 x5 x6).length : Int) then (if (wrap64 (x7 + 1)) < ((rd_L7 x5 (wrap64 (x6 + 1))).length : Int) then (if x6 < (x0.length : Int) then (if x7 < (x1.length : Int) then ((siglumref08_Same.f ((rd_T75 x0 x6).f0) ((rd_T75 x0 x6).f1) ((rd_T75 x0 x6).f2) ((rd_T75 x0 x6).f3) ((rd_T75 x0 x6).f4) ((rd_T75 x1 x7).f0) ((rd_T75 x1 x7).f1) ((rd_T75 x1 x7).f2) ((rd_T75 x1 x7).f3) ((rd_T75 x1 x7).f4)).bind fun t203 => (if t203 = true then (if x7 < ((rd_L7 x5 x6).length : Int) then (siglumref08_rests.l1 k x0 x1 (x5.set (x6 : Int).toNat ((rd_L7 x5 x6).set (x7 : Int).toNat (mn (wrap64 ((mn (mn (rd (rd_L7 x5 (wrap64 (x6 + 1))) x7) (rd (rd_L7 x5 x6) (wrap64 (x7 + 1)))) (rd (rd_L7 x5 (wrap64 (x6 + 1))) (wrap64 (x7 + 1)))) + 1)) (rd (rd_L7 x5 (wrap64 (x6 + 1))) (wrap64 (x7 + 1)))))) x6 (wrap64 (x7 - 1))) else (none)) else (if x7 < ((rd_L7 x5 x6).length : Int) then (siglumref08_rests.l1 k x0 x1 (x5.set (x6 : Int).toNat ((rd_L7 x5 x6).set (x7 : Int).toNat (wrap64 ((mn (mn (rd (rd_L7 x5 (wrap64 (x6 + 1))) x7) (rd (rd_L7 x5 x6) (wrap64 (x7 + 1)))) (rd (rd_L7 x5 (wrap64 (x6 + 1))) (wrap64 (x7 + 1)))) + 1)))) x6 (wrap64 (x7 - 1))) else (none)))) else (none)) else (none)) else (none)) else (none)) else (none)) else (none)) else (none)) else (none)) else (none)) else (none)) else (none)))) else (siglumref08_rests.l0 k x0 x1 x5 (wrap64 (x6 - 1)))
end
def siglumref08_rests.f (k : Nat) (l0 : List (S75)) (l1 : List (S75)) : Option ((List (List Int))) := if 0 ≤ (wrap64 ((l0.length : Int) + 1)) then (if (wrap64 ((l0.length : Int) + 1) : Int).toNat ≤ 11728124029610 then (siglumref08_rests.l0 k l0 l1 (List.replicate (wrap64 ((l0.length : Int) + 1) : Int).toNat []) (l0.length : Int)) else (none)) else (none)
theorem siglumref08_rests.mono_l : ∀ k, (∀ y0 y1 y2 y3, LeO (siglumref08_rests.l0 k y0 y1 y2 y3) (siglumref08_rests.l0 (k + 1) y0 y1 y2 y3)) ∧ (∀ y0 y1 y2 y3 y4, LeO (siglumref08_rests.l1 k y0 y1 y2 y3 y4) (siglumref08_rests.l1 (k + 1) y0 y1 y2 y3 y4))
 | 0 => ⟨fun _ _ _ _ r h => by simp [siglumref08_rests.l0] at h, fun _ _ _ _ _ r h => by simp [siglumref08_rests.l1] at h⟩
 | k + 1 => by
  obtain ⟨ih0, ih1⟩ := siglumref08_rests.mono_l k
  refine ⟨?_, ?_⟩
  ·
   intro y0 y1 y2 y3
   unfold siglumref08_rests.l0
   repeat' first
   | (with_reducible exact ih0 _ _ _ _)
   | (with_reducible exact ih1 _ _ _ _ _)
   | (with_reducible exact LeO.refl _)
   | (with_reducible exact LeO.none _)
   | (with_reducible refine LeO.ite ?_ ?_)
   | (with_reducible refine LeO.bind ?_ (fun _ => ?_))
   | exact ih0 _ _ _ _
   | exact ih1 _ _ _ _ _
   | exact LeO.none _
   | refine LeO.ite ?_ ?_
   | refine LeO.bind ?_ (fun _ => ?_)
  ·
   intro y0 y1 y2 y3 y4
   unfold siglumref08_rests.l1
   repeat' first
   | (with_reducible exact ih0 _ _ _ _)
   | (with_reducible exact ih1 _ _ _ _ _)
   | (with_reducible exact LeO.refl _)
   | (with_reducible exact LeO.none _)
   | (with_reducible refine LeO.ite ?_ ?_)
   | (with_reducible refine LeO.bind ?_ (fun _ => ?_))
   | exact ih0 _ _ _ _
   | exact ih1 _ _ _ _ _
   | exact LeO.none _
   | refine LeO.ite ?_ ?_
   | refine LeO.bind ?_ (fun _ => ?_)
theorem siglumref08_rests.mono : ∀ a0 a1 k, LeO (siglumref08_rests.f k a0 a1) (siglumref08_rests.f (k + 1) a0 a1) := by
 intro a0 a1 k
 obtain ⟨ih0, ih1⟩ := siglumref08_rests.mono_l k
 unfold siglumref08_rests.f
 repeat' first
  | (with_reducible exact ih0 _ _ _ _)
  | (with_reducible exact ih1 _ _ _ _ _)
  | (with_reducible exact LeO.refl _)
  | (with_reducible exact LeO.none _)
  | (with_reducible refine LeO.ite ?_ ?_)
  | (with_reducible refine LeO.bind ?_ (fun _ => ?_))
  | exact ih0 _ _ _ _
  | exact ih1 _ _ _ _ _
  | exact LeO.none _
  | refine LeO.ite ?_ ?_
  | refine LeO.bind ?_ (fun _ => ?_)
def siglumref08_rests.T9 : Bool × List (List Nat × List Nat) := (true, [([], []), ([], []), ([1], [1]), ([0, 2], [0, 2]), ([3], [3]), ([], []), ([4, 5], [4, 5]), ([6], [6]), ([], []), ([], []), ([8, 9], [8, 9]), ([10], [10]), ([], []), ([12], [12]), ([11, 13], [11, 13]), ([14], [14]), ([], []), ([], []), ([17], [17]), ([16, 18], [16, 18]), ([19], [19]), ([], []), ([21], [21]), ([20, 22], [20, 22]), ([23], [23]), ([7, 15, 24], [7, 15, 24]), ([25], [25]), ([26, 0, 1, 2, 3, 4, 5, 6, 7, 8, 9, 10, 11, 12, 13, 14, 15, 16, 17, 18, 19, 20, 21, 22, 23, 24, 25, 26], [26])])
def siglumref08_rests.B9 : List Nat := [0, 0, 2, 7, 15, 0, 63, 127, 0, 0, 768, 1792, 0, 4096, 16128, 32512, 0, 0, 131072, 458752, 983040, 0, 2097152, 8323072, 16711680, 33554431, 67108863, 134217727]
theorem siglumref08_rests.tab9 : rtab .any (opsOf Tryd.f36 9) = siglumref08_rests.T9 := by kernel_rfl
theorem siglumref08_rests.bits9 : waitsOk siglumref08_rests.T9.2 siglumref08_rests.B9 = true := by kernel_rfl
def siglumref08_rests.T10 : Bool × List (List Nat × List Nat) := (true, [([], []), ([], []), ([0, 1], [0, 1]), ([2], [2]), ([], []), ([], []), ([4, 5], [4, 5]), ([6], [6]), ([3, 7], [3, 7])])
def siglumref08_rests.B10 : List Nat := [0, 0, 3, 7, 0, 0, 48, 112, 255]
theorem siglumref08_rests.tab10 : rtab .any (opsOf Tryd.f36 10) = siglumref08_rests.T10 := by kernel_rfl
theorem siglumref08_rests.bits10 : waitsOk siglumref08_rests.T10.2 siglumref08_rests.B10 = true := by kernel_rfl
set_option maxHeartbeats 8000000 in
set_option maxRecDepth 100000 in
theorem siglumref08_rests.calls (k : Nat) (A0 : Option Addr) (c0 : Nat) (l0 : List (S75)) (A1 : Option Addr) (c1 : Nat) (l1 : List (S75)) (r : List (List Int)) (w : World) (hr0 : Kd.C k75 w A0 l0.length l0) (hc0 : l0.length ≤ c0) (hr1 : Kd.C k75 w A1 l1.length l1) (hc1 : l1.length ≤ c1) (h : siglumref08_rests.f k l0 l1 = some r) :
 Calls Tryd.prog 36 #[.slice A0 l0.length c0, .slice A1 l1.length c1] w fun e w' => ∃ v0_ : Value, e = .returned (v0_) ∧ Kd.S (Kd.slice 3 (Kd.int .i64)) 68 w' w.heap.size (fun _ => True) v0_ r ∧ Below w.heap.size w w' := by
 have hu75 := Tryd.underlying75
 have HR0 := Aside0.mk hr0
 have HC0 := Aside0.mk hc0
 clear hr0 hc0
 have HR1 := Aside0.mk hr1
 have HC1 := Aside0.mk hc1
 clear hr1 hc1
 have HB := Aside0.mk (Below.refl w.heap.size w)
 have H : (if 0 ≤ (wrap64 ((l0.length : Int) + 1)) then (if (wrap64 ((l0.length : Int) + 1) : Int).toNat ≤ 11728124029610 then (siglumref08_rests.l0 k l0 l1 (List.replicate (wrap64 ((l0.length : Int) + 1) : Int).toNat []) (l0.length : Int)) else (none)) else (none)) = some r := h
 clear h
 obtain ⟨ji3, hji3⟩ : ∃ j_ : Int, (wrap64 ((l0.length : Int) + 1)) = j_ := ⟨_, rfl⟩
 replace H : (if 0 ≤ (ji3) then (if (ji3 : Int).toNat ≤ 11728124029610 then (siglumref08_rests.l0 k l0 l1 (List.replicate (ji3 : Int).toNat []) (l0.length : Int)) else (none)) else (none)) = some r := by first | (rw [hji3] at H; exact H) | (simp only [hji3] at H ⊢; exact H)
 have hji3w : (IntKind.i64.wrap ((l0.length : Int) + 1)) = ji3 := (i64_w _).trans hji3
 by_cases c4 : 0 ≤ (ji3)
 rotate_left
 · rw [if_neg c4] at H; exact absurd H (by simp)
 rw [if_pos c4] at H
 have c4b0 := eq_true c4
 have c4b1 : decide (0 ≤ (ji3)) = true := decide_eq_true c4
 clear c4
 by_cases c5 : (ji3 : Int).toNat ≤ 11728124029610
 rotate_left
 · rw [if_neg c5] at H; exact absurd H (by simp)
 rw [if_pos c5] at H
 have c5b0 := eq_true c5
 have c5b1 : decide ((ji3 : Int).toNat ≤ 11728124029610) = true := decide_eq_true c5
 clear c5
 obtain ⟨y180, hy180⟩ : ∃ y_ : List (List Int), y_ = (List.replicate (ji3 : Int).toNat []) := ⟨_, rfl⟩
 replace H : (siglumref08_rests.l0 k l0 l1 y180 (l0.length : Int)) = some r := by first | (rw [hy180]; with_reducible exact H) | (have H2_ := (Option.bind_some _ _).symm.trans H; rw [hy180]; with_reducible exact H2_) | (have H2_ := (Option.bind_some _ _).symm.trans H; with_reducible exact H2_) | with_reducible exact H | (rw [hy180]; exact H) | exact H
 have Ny180 := Aside0.mk hy180
 clear hy180
 have H' := Aside0.mk H
 clear H
 go_enter Tryd.func36, Tryd.ntmps36
 go_wp2_with (first | ((with_reducible refine gate_dst (N := 12) rfl ?_); refine Kd.S_make (Kd.slice 3 (Kd.int .i64)) _ 68 rfl (N := 12) rfl 71 _ _ rfl ji3 rfl rfl Tryd.underlying71 (.slice none 0 0) 24 info68 rfl (by decide) (by omega) [] (ok := fun _ => True) (okp := fun _ => True) ⟨_, rfl, Kd.R_nil _ _ _ _ _⟩ (fun _ hk => hk) trivial (of_decide_eq_true (by assumption)) (Nat.le_trans (Nat.mul_le_mul_right _ (of_decide_eq_true (by assumption) : ji3.toNat ≤ 11728124029610)) (by omega)) (Below.refl _ _) (Nat.le_refl _) ?_; intro v181 w6 ho7 hb hg_ hnew_; clear hg_ hnew_; (first | rw [← Ny180.out] at ho7 | (simp only [Int.reduceToNat] at ho7; rw [← Ny180.out] at ho7)); have n0_ := Aside0.mk (Kd.S_lower ho7 (below_size (by repeat (first | (with_reducible first | exact HB.out | apply below_alloc | apply pw_below_drewN | apply below_drew1) | exact HB.out)))); have n1_ := Aside0.mk (below_step (by repeat (first | (with_reducible first | exact HB.out | apply below_alloc | apply pw_below_drewN | apply below_drew1) | exact HB.out)) hb); clear HB; have HO182 := n0_; have HB := n1_; clear n0_ n1_; clear hb ho7))
 go_loopg [6] k (fun kq v6 w' => ∃ (x5_1 : List (List Int)) (x6_1 : Int), v6 = .int .i64 x6_1 ∧ Aside0 (siglumref08_rests.l0 kq l0 l1 x5_1 x6_1 = some r) ∧ Aside0 (kq ≤ k) ∧ Aside0 (Kd.S (Kd.slice 3 (Kd.int .i64)) 68 w' w.heap.size (fun _ => True) v181 x5_1) ∧ Aside0 (Below w.heap.size w w'))
 case atStart => exact ⟨(y180), ((l0.length : Int)), (by first | rfl | (simp; done) | (simp [*]; done)), H', ⟨Nat.le_refl _⟩, ⟨by (with_reducible repeat (first | apply Kd.S_alloc | apply Kd.S_drewN | apply Kd.S_drew)); exact HO182.out⟩, ⟨by repeat (first | (with_reducible first | exact HB.out | apply below_alloc | apply pw_below_drewN | apply below_drew1) | exact HB.out)⟩⟩
 case round =>
  clear H'
  (try clear c1); (try clear p2); (try clear c3); (try clear c4); (try clear c4b0); (try clear c4b1); (try clear c5); (try clear c5b0); (try clear c5b1); (try clear p6)
  obtain ⟨x5_1, x6_1, rfl, HA, HK1, HO_5, HB⟩ := hrel
  cases gk with
  | zero => exact absurd HA.out (by simp [siglumref08_rests.l0])
  | succ k1 =>
   have H := HA.out
   clear HA
   simp only [siglumref08_rests.l0] at H
   by_cases c8 : x6_1 ≥ 0
   ·
    rw [if_pos c8] at H
    have c8b0 : decide (0 ≤ x6_1) = true := decide_eq_true c8
    clear c8
    obtain ⟨ji9, hji9⟩ : ∃ j_ : Int, (wrap64 ((l1.length : Int) + 1)) = j_ := ⟨_, rfl⟩
    replace H : (if 0 ≤ (ji9) then (if (ji9 : Int).toNat ≤ 35184372088832 then (if 0 ≤ x6_1 then (if x6_1 < (x5_1.length : Int) then (siglumref08_rests.l1 k1 l0 l1 (x5_1.set (x6_1 : Int).toNat (List.replicate (ji9 : Int).toNat 0)) x6_1 (l1.length : Int)) else (none)) else (none)) else (none)) else (none)) = some r := by first | (rw [hji9] at H; exact H) | (simp only [hji9] at H ⊢; exact H)
    have hji9w : (IntKind.i64.wrap ((l1.length : Int) + 1)) = ji9 := (i64_w _).trans hji9
    by_cases c10 : 0 ≤ (ji9)
    rotate_left
    · rw [if_neg c10] at H; exact absurd H (by simp)
    rw [if_pos c10] at H
    have c10b0 := eq_true c10
    have c10b1 : decide (0 ≤ (ji9)) = true := decide_eq_true c10
    clear c10
    by_cases c11 : (ji9 : Int).toNat ≤ 35184372088832
    rotate_left
    · rw [if_neg c11] at H; exact absurd H (by simp)
    rw [if_pos c11] at H
    have c11b0 := eq_true c11
    have c11b1 : decide ((ji9 : Int).toNat ≤ 35184372088832) = true := decide_eq_true c11
    clear c11
    obtain ⟨y183, hy183⟩ : ∃ y_ : List Int, y_ = (List.replicate (ji9 : Int).toNat 0) := ⟨_, rfl⟩
    replace H : (if 0 ≤ x6_1 then (if x6_1 < (x5_1.length : Int) then (siglumref08_rests.l1 k1 l0 l1 (x5_1.set (x6_1 : Int).toNat y183) x6_1 (l1.length : Int)) else (none)) else (none)) = some r := by first | (rw [hy183]; with_reducible exact H) | (have H2_ := (Option.bind_some _ _).symm.trans H; rw [hy183]; with_reducible exact H2_) | (have H2_ := (Option.bind_some _ _).symm.trans H; with_reducible exact H2_) | with_reducible exact H | (rw [hy183]; exact H) | exact H
    have Ny183 := Aside0.mk hy183
    clear hy183
    by_cases c12 : 0 ≤ x6_1
    rotate_left
    · rw [if_neg c12] at H; exact absurd H (by simp)
    rw [if_pos c12] at H
    have c12b0 : decide (0 ≤ x6_1) = true := decide_eq_true c12
    clear c12
    by_cases c13 : x6_1 < (x5_1.length : Int)
    rotate_left
    · rw [if_neg c13] at H; exact absurd H (by simp)
    rw [if_pos c13] at H
    have c13b0 : decide (x6_1 < (x5_1.length : Int)) = true := decide_eq_true c13
    clear c13
    obtain ⟨y186, hy186⟩ : ∃ y_ : List (List Int), y_ = (x5_1.set (x6_1 : Int).toNat y183) := ⟨_, rfl⟩
    replace H : (siglumref08_rests.l1 k1 l0 l1 y186 x6_1 (l1.length : Int)) = some r := by first | (rw [hy186]; with_reducible exact H) | (have H2_ := (Option.bind_some _ _).symm.trans H; rw [hy186]; with_reducible exact H2_) | (have H2_ := (Option.bind_some _ _).symm.trans H; with_reducible exact H2_) | with_reducible exact H | (rw [hy186]; exact H) | exact H
    have Ny186 := Aside0.mk hy186
    clear hy186
    have H' := Aside0.mk H
    clear H
    go_wp2_with (first | ((with_reducible refine gate_dst (N := 24) rfl ?_); refine Kd.R_make (Kd.int .i64) _ 3 rfl (N := 24) rfl 68 _ _ rfl ji9 rfl rfl Tryd.underlying68 (.int .i64 0) 8 info3 rfl (by decide) (by omega) 0 (ok := fun _ => True) (okp := fun _ => True) rfl (fun _ hk => hk) trivial (of_decide_eq_true (by assumption)) (Nat.le_trans (Nat.mul_le_mul_right _ (of_decide_eq_true (by assumption) : ji9.toNat ≤ 35184372088832)) (by omega)) (Below.refl _ _) (Nat.le_refl _) ?_; intro v184 w15 ho16 hb hg_ hnew_; clear hg_ hnew_; (first | rw [← Ny183.out] at ho16 | (simp only [Int.reduceToNat] at ho16; rw [← Ny183.out] at ho16)); have n0_ := Aside0.mk (Kd.S_elder' (by (with_reducible repeat (first | apply Kd.S_alloc | apply Kd.S_drewN | apply Kd.S_drew)); exact HO_5.out) (Kd.R_base ho16) hb); have n1_ := Aside0.mk (Kd.R_lower ho16 (below_size (by repeat (first | (with_reducible first | exact HB.out | apply below_alloc | apply pw_below_drewN | apply below_drew1) | exact HB.out)))); have n2_ := Aside0.mk (below_step (by repeat (first | (with_reducible first | exact HB.out | apply below_alloc | apply pw_below_drewN | apply below_drew1) | exact HB.out)) hb); clear HO_5; clear HB; have HO_5 := n0_; have HO185 := n1_; have HB := n2_; clear n0_ n1_ n2_; clear hb ho16; have p14 : 0 ≤ (x6_1 : Int) := of_decide_eq_true (by assumption); have q14 : (x6_1 : Int) < ((x5_1.length : Int) : Int) := of_decide_eq_true (by assumption); obtain ⟨go14, co14, eo14, gb14, gl14, cl14, HG14⟩ := Kd.S_form HO_5.out (by omega); (first | cases eo14 | (injection eo14 with ea_ en_ ec_; (first | subst ea_ | (injection ea_ with ea_; subst ea_)); subst ec_; clear en_)); have GB14 := Aside0.mk gb14; have GG14 := Aside0.mk HG14; clear gb14 gl14 HG14; obtain ⟨_, ce14, hcl14, hM14, hcc14, hfr14, _, _⟩ := Kd.S_elem HO_5.out [] (x6_1 : Int) p14 q14; obtain ⟨ve14_0, rfl, ge14_0⟩ := hM14; have hx14_0 := hcc14 0 _ rfl; have hf14_0 := hfr14 0; (try simp only [show ((Kd.slice 3 (Kd.int .i64))).sz = 1 from rfl, Nat.mul_one, Nat.add_zero] at hx14_0); (try simp only [show ((Kd.slice 3 (Kd.int .i64))).sz = 1 from rfl, Nat.mul_one, Nat.add_zero] at hf14_0); clear hcl14 hcc14 hfr14; (try clear hM14); replace p14 := eq_true p14; replace q14 := eq_true q14; have n_ := Aside0.mk (Kd.S_mono (ok' := (fun k_ => some k_ ≠ (v184 : Value).ownBlock)) HO_5.out (fun k_ hk => hk.2)); clear HO_5; have HO_5 := n_; clear n_; have HX17 := Aside0.mk (show Kd.S (Kd.slice 3 (Kd.int .i64)) 68 w15 w.heap.size (fun k_ => ((fun _ => True)) k_ ∧ ¬ ((fun k_ => some k_ = (v184 : Value).ownBlock)) k_) (.slice (some ⟨go14, 0, none⟩) x5_1.length co14) x5_1 from (by (with_reducible repeat (first | apply Kd.S_alloc | apply Kd.S_drewN | apply Kd.S_drew)); exact Kd.S_mono HO_5.out (fun k_ hk => ⟨trivial, fun e_ => hk e_⟩))); obtain ⟨oki17, ce17, hcl17, hM17, hcc17, hfr17, hoki17, hH17⟩ := Kd.S_elem HX17.out [] (x6_1 : Int) (of_decide_eq_true (by assumption)) (by have h_ : (x6_1 : Int) < ((x5_1.length : Int) : Int) := of_decide_eq_true (by assumption); first | exact h_ | (have e_ := (Kd.S_reads' HO_5.out).1; omega) | simpa using h_); obtain ⟨ve17_0, rfl, ge17_0⟩ := hM17; have HP17 := Kd.S_seg hH17 (of_decide_eq_true (by assumption)) (by have h_ : (x6_1 : Int) < ((x5_1.length : Int) : Int) := of_decide_eq_true (by assumption); first | exact h_ | (have e_ := (Kd.S_reads' HO_5.out).1; omega) | simpa using h_) (seg := [v184]) (j := 0) (show 1 ≤ 1 from by decide) (x' := y183) (Kd.M_row (Kd.R_mono (Kd.R_tight rfl (Kd.R_mono (ok' := fun k_ => ((fun _ => True)) k_ ∧ k_ ≠ go14) (Kd.R_apart' (HO185.out) (Kd.S_typed HO_5.out) (by decide)) (fun k_ hk => ⟨trivial, fun e_ => (hk.2) (by rw [e_]; rfl)⟩))) (fun _ h_ => Or.inr (h_)))) (fun _ hk => hk) (fun k_ hk_ => ((Kd.R_mono (ok' := fun k_ => ((fun _ => True)) k_ ∧ k_ ≠ go14) (Kd.R_apart' (HO185.out) (Kd.S_typed HO_5.out) (by decide)) (fun k_ hk => ⟨trivial, fun e_ => (hk.2) (by rw [e_]; rfl)⟩))).1 k_ hk_.symm); have hx17_0 := hcc17 0 _ rfl; (try simp only [show ((Kd.slice 3 (Kd.int .i64))).sz = 1 from rfl, Nat.mul_one, Nat.add_zero] at hx17_0); have hf17_0 := hfr17 0; (try simp only [show ((Kd.slice 3 (Kd.int .i64))).sz = 1 from rfl, Nat.mul_one, Nat.add_zero] at hf17_0); clear hcl17 hcc17 hfr17 hoki17 hH17; (try clear hM17); (try simp only [show ((Kd.slice 3 (Kd.int .i64))).sz = 1 from rfl, Nat.mul_one, Nat.add_zero] at HP17)) | ((with_reducible refine gate_store (t := 68) (p := 25) rfl ?_); refine store_event (t := 68) (p := 25) (v := ?vo_w18) (w1 := (w15.setCell ⟨go14, (x6_1 : Int).toNat, none⟩ (v184))) ?hg ?ho ?hn ?hr ?_; (case ho => rfl); (case hg => rfl); (case hn => rfl); (case hr => first | (go_simp; done) | (go_simp; rfl) | (obtain ⟨Am_, cm_, em_⟩ := Kd.R_slice HO185.out; subst em_; go_simp; first | done | rfl)); intro w18 hw; have hg : w15.grownBy w18 (some go14) := (by rw [hw]; exact HP17.2); have hp_ : Kd.S (Kd.slice 3 (Kd.int .i64)) 68 w18 w.heap.size (fun _ => True) (.slice (some ⟨go14, 0, none⟩) x5_1.length co14) y186 := (by rw [hw, Ny186.out]; exact HP17.1); clear HP17; have n0_ := Aside0.mk (hp_); have n1_ := Aside0.mk ((by rw [hw]; exact below_set (HB.out) GB14.out : Below w.heap.size w w18)); clear HO_5; clear HB; clear HO185; have HO_5 := n0_; have HB := n1_; clear n0_ n1_; clear hg hw hp_))
    go_loopg [7] k1 (fun kq v7 w' => ∃ (x5_2 : List (List Int)) (x7_2 : Int), v7 = .int .i64 x7_2 ∧ Aside0 (siglumref08_rests.l1 kq l0 l1 x5_2 x6_1 x7_2 = some r) ∧ Aside0 (kq ≤ k1) ∧ Aside0 (Kd.S (Kd.slice 3 (Kd.int .i64)) 68 w' w.heap.size (fun _ => True) (.slice (some ⟨go14, 0, none⟩) x5_1.length co14) x5_2) ∧ Aside0 (Below w.heap.size w w'))
    case atStart => exact ⟨(y186), ((l1.length : Int)), (by first | rfl | (simp; done) | (simp [*]; done)), H', ⟨Nat.le_refl _⟩, ⟨by (with_reducible repeat (first | apply Kd.S_alloc | apply Kd.S_drewN | apply Kd.S_drew)); exact HO_5.out⟩, ⟨by repeat (first | (with_reducible first | exact HB.out | apply below_alloc | apply pw_below_drewN | apply below_drew1) | exact HB.out)⟩⟩
    case round =>
     clear H'
     (try clear c1); (try clear p1); (try clear q1); (try clear hx1); (try clear p2); (try clear c3); (try clear c4); (try clear c4b0); (try clear c4b1); (try clear c5); (try clear c5b0); (try clear c5b1); (try clear p6); (try clear c8); (try clear c8b0); (try clear c10); (try clear c10b0); (try clear c10b1); (try clear c11); (try clear c11b0); (try clear c11b1); (try clear c12); (try clear c12b0); (try clear c13); (try clear c13b0); (try clear c14); (try clear p14); (try clear q14); (try clear hx14); (try clear hf14); (try clear c17); (try clear hx17); (try clear hf17); (try clear hx14_0); (try clear hx17_0)
     obtain ⟨x5_2, x7_2, rfl, HA, HK2, HO_5, HB⟩ := hrel
     have hl5_2 := (Kd.S_reads' HO_5.out).1
     rw [hl5_2] at HO_5
     (try simp only [hl5_2])
     cases gk with
     | zero => exact absurd HA.out (by simp [siglumref08_rests.l1])
     | succ k2 =>
      have H := HA.out
      clear HA
      simp only [siglumref08_rests.l1] at H
      by_cases c19 : x7_2 ≥ 0
      ·
       rw [if_pos c19] at H
       have c19b0 : decide (0 ≤ x7_2) = true := decide_eq_true c19
       clear c19
       by_cases c20 : x6_1 = (l0.length : Int)
       ·
        rw [if_pos c20] at H
        have c20b0 : (x6_1 == (l0.length : Int)) = true := beq_iff_eq.mpr c20
        have c20b1 : (x6_1 != (l0.length : Int)) = false := bne_eq_false_iff_eq.mpr c20
        clear c20
        by_cases c21 : 0 ≤ x6_1
        rotate_left
        · rw [if_neg c21] at H; exact absurd H (by simp)
        rw [if_pos c21] at H
        have c21b0 : decide (0 ≤ x6_1) = true := decide_eq_true c21
        clear c21
        by_cases c22 : x6_1 < (x5_2.length : Int)
        rotate_left
        · rw [if_neg c22] at H; exact absurd H (by simp)
        rw [if_pos c22] at H
        have c22b0 : decide (x6_1 < (x5_2.length : Int)) = true := decide_eq_true c22
        have c22b0z := c22b0
        (try rw [hl5_2] at c22b0z)
        clear c22
        by_cases c23 : 0 ≤ x7_2
        rotate_left
        · rw [if_neg c23] at H; exact absurd H (by simp)
        rw [if_pos c23] at H
        have c23b0 : decide (0 ≤ x7_2) = true := decide_eq_true c23
        clear c23
        by_cases c24 : x7_2 < ((rd_L7 x5_2 x6_1).length : Int)
        rotate_left
        · rw [if_neg c24] at H; exact absurd H (by simp)
        rw [if_pos c24] at H
        have c24b0 : decide (x7_2 < ((rd_L7 x5_2 x6_1).length : Int)) = true := decide_eq_true c24
        clear c24
        obtain ⟨y188, hy188⟩ : ∃ y_ : List Int, y_ = ((rd_L7 x5_2 x6_1).set (x7_2 : Int).toNat (wrap64 ((l1.length : Int) - x7_2))) := ⟨_, rfl⟩
        replace H : (siglumref08_rests.l1 k2 l0 l1 (x5_2.set (x6_1 : Int).toNat y188) x6_1 (wrap64 (x7_2 - 1))) = some r := by first | (rw [hy188]; with_reducible exact H) | (have H2_ := (Option.bind_some _ _).symm.trans H; rw [hy188]; with_reducible exact H2_) | (have H2_ := (Option.bind_some _ _).symm.trans H; with_reducible exact H2_) | with_reducible exact H | (rw [hy188]; exact H) | exact H
        have Ny188 := Aside0.mk hy188
        clear hy188
        obtain ⟨y190, hy190⟩ : ∃ y_ : List (List Int), y_ = (x5_2.set (x6_1 : Int).toNat y188) := ⟨_, rfl⟩
        replace H : (siglumref08_rests.l1 k2 l0 l1 y190 x6_1 (wrap64 (x7_2 - 1))) = some r := by first | (rw [hy190]; with_reducible exact H) | (have H2_ := (Option.bind_some _ _).symm.trans H; rw [hy190]; with_reducible exact H2_) | (have H2_ := (Option.bind_some _ _).symm.trans H; with_reducible exact H2_) | with_reducible exact H | (rw [hy190]; exact H) | exact H
        have Ny190 := Aside0.mk hy190
        clear hy190
        have H' := Aside0.mk H
        clear H
        have p187 : 0 ≤ (x6_1 : Int) := of_decide_eq_true (by assumption)
        have q187 : x6_1 < (x5_2.length : Int) := of_decide_eq_true (by assumption)
        obtain ⟨ad187, A187_0, c187_0, e187, hx187_0, hl187_0, hi187_0⟩ := at_L7 (Kd.S_reads' HO_5.out).2.2 x6_1 p187 q187
        obtain rfl : (⟨go14, 0, none⟩ : Addr) = ad187 := (by injection e187)
        obtain ⟨ce187, hce187, hMe187, hcc187⟩ := Kd.S_get HO_5.out [] x6_1 p187 (by first | exact q187 | exact of_decide_eq_true (by assumption) | (have e_ := (Kd.S_reads' HO_5.out).1; omega))
        obtain ⟨ve187_0, rfl, ge187_0⟩ := hMe187
        have hv187_0 := hcc187 0 _ rfl
        rw [Nat.add_zero, show ((Kd.slice 3 (Kd.int .i64))).sz = 1 from rfl, Nat.mul_one] at hv187_0
        replace hv187_0 := Option.some.inj (hv187_0.symm.trans hx187_0)
        rw [hv187_0] at ge187_0
        have HL187_0 := Aside0.mk (show Kd.R (Kd.int .i64) 3 _ _ _ _ (rd_L7 x5_2 x6_1) from ge187_0)
        clear hv187_0 ge187_0
        have HX187_0 := Aside0.mk hx187_0
        clear hcc187 hce187
        (first | simp only [add_plain] at hx187_0 | simp only [add_at] at hx187_0 | simp only [Addr.add, Nat.zero_add] at hx187_0 | skip)
        have HR187_0 := Aside0.mk hi187_0
        have HC187_0 := Aside0.mk hl187_0
        clear hi187_0 hl187_0
        replace p187 := eq_true p187
        replace q187 := eq_true q187
        have p25 : 0 ≤ (x7_2 : Int) := of_decide_eq_true (by assumption)
        have q25 : (x7_2 : Int) < (((rd_L7 x5_2 x6_1).length : Int) : Int) := of_decide_eq_true (by assumption)
        obtain ⟨go25, co25, eo25, gb25, gl25, cl25, HG25⟩ := Kd.R_form HL187_0.out (by omega)
        (first | cases eo25 | (injection eo25 with ea_ en_ ec_; (first | subst ea_ | (injection ea_ with ea_; subst ea_)); subst ec_; clear en_))
        have GB25 := Aside0.mk gb25
        have GG25 := Aside0.mk HG25
        clear gb25 gl25 HG25
        obtain ⟨hx25_0, hf25_0⟩ := Kd.R_celln 0 HL187_0.out (x7_2 : Int) p25 q25
        replace p25 := eq_true p25
        replace q25 := eq_true q25
        have hq26 : (x6_1 : Int) < (x5_2.length : Int) := (by have h_ : (x6_1 : Int) < ((x5_2.length : Int) : Int) := of_decide_eq_true (by assumption); first | exact h_ | (have e_ := (Kd.S_reads' HO_5.out).1; omega) | simpa only [List.length_set, List.length_set] using h_)
        obtain ⟨oki26, ce26, hcl26, hM26, hcc26, hok26, hbk26⟩ := Kd.S_borrow HO_5.out [] (x6_1 : Int) (of_decide_eq_true (by assumption)) hq26
        obtain ⟨ve26_0, rfl, ge26_0⟩ := hM26
        have hv26 := hcc26 0 _ rfl
        rw [Nat.add_zero, show ((Kd.slice 3 (Kd.int .i64))).sz = 1 from rfl, Nat.mul_one] at hv26
        replace hv26 := Option.some.inj (hv26.symm.trans HX187_0.out)
        subst hv26
        clear hcc26 hcl26
        replace ge26_0 := (show Kd.R (Kd.int .i64) 3 _ _ _ _ (rd_L7 x5_2 x6_1) from ge26_0)
        have HP26 := Kd.R_putg ge26_0 (x7_2 : Int) (wrap64 ((l1.length : Int) - x7_2))
        go_wp2_with (first | ((with_reducible refine gate_store (t := 3) (p := 100) rfl ?_); refine store_event (t := 3) (p := 100) (v := ?vo_w27) (w1 := (wr.setCell ⟨go25, (x7_2 : Int).toNat, none⟩ (.int .i64 (wrap64 ((l1.length : Int) - x7_2))))) ?hg ?ho ?hn ?hr ?_; (case ho => rfl); (case hg => rfl); (case hn => rfl); (case hr => first | (go_simp; done) | (go_simp; rfl)); intro w27 hw; have hg : wr.grownBy w27 (some go25) := (by rw [hw]; exact HP26.2); have hz_ : Kd.R (Kd.int .i64) 3 w27 w.heap.size oki26 (.slice (some ⟨go25, 0, none⟩) (rd_L7 x5_2 x6_1).length c187_0) y188 := (by rw [hw, Ny188.out]; exact HP26.1); have hp_ : Kd.S (Kd.slice 3 (Kd.int .i64)) 68 w27 w.heap.size (fun _ => True) (.slice (some ⟨go14, 0, none⟩) x5_2.length co14) y190 := (by rw [Ny190.out]; exact hbk26 hg (fun k_ e_ => by injection e_ with e_; subst e_; exact ge26_0.1 _ rfl) (Kd.M_row hz_)); have hm_ := Kd.R_mono hz_ hok26; clear HP26 hbk26; have n0_ := Aside0.mk (hp_); have n1_ := Aside0.mk ((by rw [hw]; exact below_set (HB.out) GB25.out : Below w.heap.size w w27)); have n2_ := Aside0.mk (hm_); have n3_ := Aside0.mk ((Kd.R_reads' hm_).2.1); clear HO_5; clear HB; clear HL187_0; have HO_5 := n0_; have HB := n1_; have HL214 := n2_; have HC189 := n3_; clear n0_ n1_ n2_ n3_; clear hg hw hp_ hz_ hm_ hok26))
        (try simp only [← hl5_2])
        go_roundg k2
        case measure => have := HK1.out; have := HK2.out; omega
        case rel => exact ⟨(y190), (wrap64 (x7_2 - 1)), (by first | rfl | (simp; done) | (simp [*]; done)), H', ⟨by have := HK1.out; have := HK2.out; omega⟩, ⟨by (try simp only [hl5_2]); (with_reducible repeat (first | apply Kd.S_alloc | apply Kd.S_drewN | apply Kd.S_drew)); exact HO_5.out⟩, ⟨by repeat (first | (with_reducible first | exact HB.out | apply below_alloc | apply pw_below_drewN | apply below_drew1) | exact HB.out)⟩⟩
       ·
        rw [if_neg c20] at H
        have c20b0 : (x6_1 == (l0.length : Int)) = false := beq_eq_false_iff_ne.mpr c20
        have c20b1 : (x6_1 != (l0.length : Int)) = true := bne_iff_ne.mpr c20
        by_cases c28 : x7_2 = (l1.length : Int)
        ·
         rw [if_pos c28] at H
         have c28b0 : (x7_2 == (l1.length : Int)) = true := beq_iff_eq.mpr c28
         have c28b1 : (x7_2 != (l1.length : Int)) = false := bne_eq_false_iff_eq.mpr c28
         clear c28
         by_cases c29 : 0 ≤ x6_1
         rotate_left
         · rw [if_neg c29] at H; exact absurd H (by simp)
         rw [if_pos c29] at H
         have c29b0 : decide (0 ≤ x6_1) = true := decide_eq_true c29
         clear c29
         by_cases c30 : x6_1 < (x5_2.length : Int)
         rotate_left
         · rw [if_neg c30] at H; exact absurd H (by simp)
         rw [if_pos c30] at H
         have c30b0 : decide (x6_1 < (x5_2.length : Int)) = true := decide_eq_true c30
         have c30b0z := c30b0
         (try rw [hl5_2] at c30b0z)
         clear c30
         by_cases c31 : 0 ≤ x7_2
         rotate_left
         · rw [if_neg c31] at H; exact absurd H (by simp)
         rw [if_pos c31] at H
         have c31b0 : decide (0 ≤ x7_2) = true := decide_eq_true c31
         clear c31
         by_cases c32 : x7_2 < ((rd_L7 x5_2 x6_1).length : Int)
         rotate_left
         · rw [if_neg c32] at H; exact absurd H (by simp)
         rw [if_pos c32] at H
         have c32b0 : decide (x7_2 < ((rd_L7 x5_2 x6_1).length : Int)) = true := decide_eq_true c32
         clear c32
         obtain ⟨y192, hy192⟩ : ∃ y_ : List Int, y_ = ((rd_L7 x5_2 x6_1).set (x7_2 : Int).toNat (wrap64 ((l0.length : Int) - x6_1))) := ⟨_, rfl⟩
         replace H : (siglumref08_rests.l1 k2 l0 l1 (x5_2.set (x6_1 : Int).toNat y192) x6_1 (wrap64 (x7_2 - 1))) = some r := by first | (rw [hy192]; with_reducible exact H) | (have H2_ := (Option.bind_some _ _).symm.trans H; rw [hy192]; with_reducible exact H2_) | (have H2_ := (Option.bind_some _ _).symm.trans H; with_reducible exact H2_) | with_reducible exact H | (rw [hy192]; exact H) | exact H
         have Ny192 := Aside0.mk hy192
         clear hy192
         obtain ⟨y194, hy194⟩ : ∃ y_ : List (List Int), y_ = (x5_2.set (x6_1 : Int).toNat y192) := ⟨_, rfl⟩
         replace H : (siglumref08_rests.l1 k2 l0 l1 y194 x6_1 (wrap64 (x7_2 - 1))) = some r := by first | (rw [hy194]; with_reducible exact H) | (have H2_ := (Option.bind_some _ _).symm.trans H; rw [hy194]; with_reducible exact H2_) | (have H2_ := (Option.bind_some _ _).symm.trans H; with_reducible exact H2_) | with_reducible exact H | (rw [hy194]; exact H) | exact H
         have Ny194 := Aside0.mk hy194
         clear hy194
         have H' := Aside0.mk H
         clear H
         have p191 : 0 ≤ (x6_1 : Int) := of_decide_eq_true (by assumption)
         have q191 : x6_1 < (x5_2.length : Int) := of_decide_eq_true (by assumption)
         obtain ⟨ad191, A191_0, c191_0, e191, hx191_0, hl191_0, hi191_0⟩ := at_L7 (Kd.S_reads' HO_5.out).2.2 x6_1 p191 q191
         obtain rfl : (⟨go14, 0, none⟩ : Addr) = ad191 := (by injection e191)
         obtain ⟨ce191, hce191, hMe191, hcc191⟩ := Kd.S_get HO_5.out [] x6_1 p191 (by first | exact q191 | exact of_decide_eq_true (by assumption) | (have e_ := (Kd.S_reads' HO_5.out).1; omega))
         obtain ⟨ve191_0, rfl, ge191_0⟩ := hMe191
         have hv191_0 := hcc191 0 _ rfl
         rw [Nat.add_zero, show ((Kd.slice 3 (Kd.int .i64))).sz = 1 from rfl, Nat.mul_one] at hv191_0
         replace hv191_0 := Option.some.inj (hv191_0.symm.trans hx191_0)
         rw [hv191_0] at ge191_0
         have HL191_0 := Aside0.mk (show Kd.R (Kd.int .i64) 3 _ _ _ _ (rd_L7 x5_2 x6_1) from ge191_0)
         clear hv191_0 ge191_0
         have HX191_0 := Aside0.mk hx191_0
         clear hcc191 hce191
         (first | simp only [add_plain] at hx191_0 | simp only [add_at] at hx191_0 | simp only [Addr.add, Nat.zero_add] at hx191_0 | skip)
         have HR191_0 := Aside0.mk hi191_0
         have HC191_0 := Aside0.mk hl191_0
         clear hi191_0 hl191_0
         replace p191 := eq_true p191
         replace q191 := eq_true q191
         have p33 : 0 ≤ (x7_2 : Int) := of_decide_eq_true (by assumption)
         have q33 : (x7_2 : Int) < (((rd_L7 x5_2 x6_1).length : Int) : Int) := of_decide_eq_true (by assumption)
         obtain ⟨go33, co33, eo33, gb33, gl33, cl33, HG33⟩ := Kd.R_form HL191_0.out (by omega)
         (first | cases eo33 | (injection eo33 with ea_ en_ ec_; (first | subst ea_ | (injection ea_ with ea_; subst ea_)); subst ec_; clear en_))
         have GB33 := Aside0.mk gb33
         have GG33 := Aside0.mk HG33
         clear gb33 gl33 HG33
         obtain ⟨hx33_0, hf33_0⟩ := Kd.R_celln 0 HL191_0.out (x7_2 : Int) p33 q33
         replace p33 := eq_true p33
         replace q33 := eq_true q33
         have hq34 : (x6_1 : Int) < (x5_2.length : Int) := (by have h_ : (x6_1 : Int) < ((x5_2.length : Int) : Int) := of_decide_eq_true (by assumption); first | exact h_ | (have e_ := (Kd.S_reads' HO_5.out).1; omega) | simpa only [List.length_set, List.length_set] using h_)
         obtain ⟨oki34, ce34, hcl34, hM34, hcc34, hok34, hbk34⟩ := Kd.S_borrow HO_5.out [] (x6_1 : Int) (of_decide_eq_true (by assumption)) hq34
         obtain ⟨ve34_0, rfl, ge34_0⟩ := hM34
         have hv34 := hcc34 0 _ rfl
         rw [Nat.add_zero, show ((Kd.slice 3 (Kd.int .i64))).sz = 1 from rfl, Nat.mul_one] at hv34
         replace hv34 := Option.some.inj (hv34.symm.trans HX191_0.out)
         subst hv34
         clear hcc34 hcl34
         replace ge34_0 := (show Kd.R (Kd.int .i64) 3 _ _ _ _ (rd_L7 x5_2 x6_1) from ge34_0)
         have HP34 := Kd.R_putg ge34_0 (x7_2 : Int) (wrap64 ((l0.length : Int) - x6_1))
         go_wp2_with (first | ((with_reducible refine gate_store (t := 3) (p := 115) rfl ?_); refine store_event (t := 3) (p := 115) (v := ?vo_w35) (w1 := (wr.setCell ⟨go33, (x7_2 : Int).toNat, none⟩ (.int .i64 (wrap64 ((l0.length : Int) - x6_1))))) ?hg ?ho ?hn ?hr ?_; (case ho => rfl); (case hg => rfl); (case hn => rfl); (case hr => first | (go_simp; done) | (go_simp; rfl)); intro w35 hw; have hg : wr.grownBy w35 (some go33) := (by rw [hw]; exact HP34.2); have hz_ : Kd.R (Kd.int .i64) 3 w35 w.heap.size oki34 (.slice (some ⟨go33, 0, none⟩) (rd_L7 x5_2 x6_1).length c191_0) y192 := (by rw [hw, Ny192.out]; exact HP34.1); have hp_ : Kd.S (Kd.slice 3 (Kd.int .i64)) 68 w35 w.heap.size (fun _ => True) (.slice (some ⟨go14, 0, none⟩) x5_2.length co14) y194 := (by rw [Ny194.out]; exact hbk34 hg (fun k_ e_ => by injection e_ with e_; subst e_; exact ge34_0.1 _ rfl) (Kd.M_row hz_)); have hm_ := Kd.R_mono hz_ hok34; clear HP34 hbk34; have n0_ := Aside0.mk (hp_); have n1_ := Aside0.mk ((by rw [hw]; exact below_set (HB.out) GB33.out : Below w.heap.size w w35)); have n2_ := Aside0.mk (hm_); have n3_ := Aside0.mk ((Kd.R_reads' hm_).2.1); clear HO_5; clear HB; clear HL191_0; have HO_5 := n0_; have HB := n1_; have HL215 := n2_; have HC193 := n3_; clear n0_ n1_ n2_ n3_; clear hg hw hp_ hz_ hm_ hok34))
         (try simp only [← hl5_2])
         go_roundg k2
         case measure => have := HK1.out; have := HK2.out; omega
         case rel => exact ⟨(y194), (wrap64 (x7_2 - 1)), (by first | rfl | (simp; done) | (simp [*]; done)), H', ⟨by have := HK1.out; have := HK2.out; omega⟩, ⟨by (try simp only [hl5_2]); (with_reducible repeat (first | apply Kd.S_alloc | apply Kd.S_drewN | apply Kd.S_drew)); exact HO_5.out⟩, ⟨by repeat (first | (with_reducible first | exact HB.out | apply below_alloc | apply pw_below_drewN | apply below_drew1) | exact HB.out)⟩⟩
        ·
         rw [if_neg c28] at H
         have c28b0 : (x7_2 == (l1.length : Int)) = false := beq_eq_false_iff_ne.mpr c28
         have c28b1 : (x7_2 != (l1.length : Int)) = true := bne_iff_ne.mpr c28
         obtain ⟨ji36, hji36⟩ : ∃ j_ : Int, (wrap64 (x6_1 + 1)) = j_ := ⟨_, rfl⟩
         replace H : (if 0 ≤ (ji36) then (if (ji36) < (x5_2.length : Int) then (if 0 ≤ x7_2 then (if x7_2 < ((rd_L7 x5_2 (ji36)).length : Int) then (if 0 ≤ x6_1 then (if x6_1 < (x5_2.length : Int) then (if 0 ≤ (wrap64 (x7_2 + 1)) then (if (wrap64 (x7_2 + 1)) < ((rd_L7 x5_2 x6_1).length : Int) then (if (wrap64 (x7_2 + 1)) < ((rd_L7 x5_2 (ji36)).length : Int) then (if x6_1 < (l0.length : Int) then (if x7_2 < (l1.length : Int) then ((siglumref08_Same.f ((rd_T75 l0 x6_1).f0) ((rd_T75 l0 x6_1).f1) ((rd_T75 l0 x6_1).f2) ((rd_T75 l0 x6_1).f3) ((rd_T75 l0 x6_1).f4) ((rd_T75 l1 x7_2).f0) ((rd_T75 l1 x7_2).f1) ((rd_T75 l1 x7_2).f2) ((rd_T75 l1 x7_2).f3) ((rd_T75 l1 x7_2).f4)).bind fun t203 => (if t203 = true then (if x7_2 < ((rd_L7 x5_2 x6_1).length : Int) then (siglumref08_rests.l1 k2 l0 l1 (x5_2.set (x6_1 : Int).toNat ((rd_L7 x5_2 x6_1).set (x7_2 : Int).toNat (mn (wrap64 ((mn (mn (rd (rd_L7 x5_2 (ji36)) x7_2) (rd (rd_L7 x5_2 x6_1) (wrap64 (x7_2 + 1)))) (rd (rd_L7 x5_2 (ji36)) (wrap64 (x7_2 + 1)))) + 1)) (rd (rd_L7 x5_2 (ji36)) (wrap64 (x7_2 + 1)))))) x6_1 (wrap64 (x7_2 - 1))) else (none)) else (if x7_2 < ((rd_L7 x5_2 x6_1).length : Int) then (siglumref08_rests.l1 k2 l0 l1 (x5_2.set (x6_1 : Int).toNat ((rd_L7 x5_2 x6_1).set (x7_2 : Int).toNat (wrap64 ((mn (mn (rd (rd_L7 x5_2 (ji36)) x7_2) (rd (rd_L7 x5_2 x6_1) (wrap64 (x7_2 + 1)))) (rd (rd_L7 x5_2 (ji36)) (wrap64 (x7_2 + 1)))) + 1)))) x6_1 (wrap64 (x7_2 - 1))) else (none)))) else (none)) else (none)) else (none)) else (none)) else (none)) else (none)) else (none)) else (none)) else (none)) else (none)) else (none)) = some r := by first | (rw [hji36] at H; exact H) | (simp only [hji36] at H ⊢; exact H)
         have hji36w : (IntKind.i64.wrap (x6_1 + 1)) = ji36 := (i64_w _).trans hji36
         by_cases c37 : 0 ≤ (ji36)
         rotate_left
         · rw [if_neg c37] at H; exact absurd H (by simp)
         rw [if_pos c37] at H
         have c37b0 : decide (0 ≤ (ji36)) = true := decide_eq_true c37
         clear c37
         by_cases c38 : (ji36) < (x5_2.length : Int)
         rotate_left
         · rw [if_neg c38] at H; exact absurd H (by simp)
         rw [if_pos c38] at H
         have c38b0 : decide ((ji36) < (x5_2.length : Int)) = true := decide_eq_true c38
         have c38b0z := c38b0
         (try rw [hl5_2] at c38b0z)
         clear c38
         by_cases c39 : 0 ≤ x7_2
         rotate_left
         · rw [if_neg c39] at H; exact absurd H (by simp)
         rw [if_pos c39] at H
         have c39b0 : decide (0 ≤ x7_2) = true := decide_eq_true c39
         clear c39
         by_cases c40 : x7_2 < ((rd_L7 x5_2 (ji36)).length : Int)
         rotate_left
         · rw [if_neg c40] at H; exact absurd H (by simp)
         rw [if_pos c40] at H
         have c40b0 : decide (x7_2 < ((rd_L7 x5_2 (ji36)).length : Int)) = true := decide_eq_true c40
         clear c40
         by_cases c41 : 0 ≤ x6_1
         rotate_left
         · rw [if_neg c41] at H; exact absurd H (by simp)
         rw [if_pos c41] at H
         have c41b0 : decide (0 ≤ x6_1) = true := decide_eq_true c41
         clear c41
         by_cases c42 : x6_1 < (x5_2.length : Int)
         rotate_left
         · rw [if_neg c42] at H; exact absurd H (by simp)
         rw [if_pos c42] at H
         have c42b0 : decide (x6_1 < (x5_2.length : Int)) = true := decide_eq_true c42
         have c42b0z := c42b0
         (try rw [hl5_2] at c42b0z)
         clear c42
         obtain ⟨ji43, hji43⟩ : ∃ j_ : Int, (wrap64 (x7_2 + 1)) = j_ := ⟨_, rfl⟩
         replace H : (if 0 ≤ (ji43) then (if (ji43) < ((rd_L7 x5_2 x6_1).length : Int) then (if (ji43) < ((rd_L7 x5_2 (ji36)).length : Int) then (if x6_1 < (l0.length : Int) then (if x7_2 < (l1.length : Int) then ((siglumref08_Same.f ((rd_T75 l0 x6_1).f0) ((rd_T75 l0 x6_1).f1) ((rd_T75 l0 x6_1).f2) ((rd_T75 l0 x6_1).f3) ((rd_T75 l0 x6_1).f4) ((rd_T75 l1 x7_2).f0) ((rd_T75 l1 x7_2).f1) ((rd_T75 l1 x7_2).f2) ((rd_T75 l1 x7_2).f3) ((rd_T75 l1 x7_2).f4)).bind fun t203 => (if t203 = true then (if x7_2 < ((rd_L7 x5_2 x6_1).length : Int) then (siglumref08_rests.l1 k2 l0 l1 (x5_2.set (x6_1 : Int).toNat ((rd_L7 x5_2 x6_1).set (x7_2 : Int).toNat (mn (wrap64 ((mn (mn (rd (rd_L7 x5_2 (ji36)) x7_2) (rd (rd_L7 x5_2 x6_1) (ji43))) (rd (rd_L7 x5_2 (ji36)) (ji43))) + 1)) (rd (rd_L7 x5_2 (ji36)) (ji43))))) x6_1 (wrap64 (x7_2 - 1))) else (none)) else (if x7_2 < ((rd_L7 x5_2 x6_1).length : Int) then (siglumref08_rests.l1 k2 l0 l1 (x5_2.set (x6_1 : Int).toNat ((rd_L7 x5_2 x6_1).set (x7_2 : Int).toNat (wrap64 ((mn (mn (rd (rd_L7 x5_2 (ji36)) x7_2) (rd (rd_L7 x5_2 x6_1) (ji43))) (rd (rd_L7 x5_2 (ji36)) (ji43))) + 1)))) x6_1 (wrap64 (x7_2 - 1))) else (none)))) else (none)) else (none)) else (none)) else (none)) else (none)) = some r := by first | (rw [hji43] at H; exact H) | (simp only [hji43] at H ⊢; exact H)
         have hji43w : (IntKind.i64.wrap (x7_2 + 1)) = ji43 := (i64_w _).trans hji43
         by_cases c44 : 0 ≤ (ji43)
         rotate_left
         · rw [if_neg c44] at H; exact absurd H (by simp)
         rw [if_pos c44] at H
         have c44b0 : decide (0 ≤ (ji43)) = true := decide_eq_true c44
         clear c44
         by_cases c45 : (ji43) < ((rd_L7 x5_2 x6_1).length : Int)
         rotate_left
         · rw [if_neg c45] at H; exact absurd H (by simp)
         rw [if_pos c45] at H
         have c45b0 : decide ((ji43) < ((rd_L7 x5_2 x6_1).length : Int)) = true := decide_eq_true c45
         clear c45
         by_cases c46 : (ji43) < ((rd_L7 x5_2 (ji36)).length : Int)
         rotate_left
         · rw [if_neg c46] at H; exact absurd H (by simp)
         rw [if_pos c46] at H
         have c46b0 : decide ((ji43) < ((rd_L7 x5_2 (ji36)).length : Int)) = true := decide_eq_true c46
         clear c46
         obtain ⟨ji47, hji47⟩ : ∃ j_ : Int, (mn (rd (rd_L7 x5_2 (ji36)) x7_2) (rd (rd_L7 x5_2 x6_1) (ji43))) = j_ := ⟨_, rfl⟩
         replace H : (if x6_1 < (l0.length : Int) then (if x7_2 < (l1.length : Int) then ((siglumref08_Same.f ((rd_T75 l0 x6_1).f0) ((rd_T75 l0 x6_1).f1) ((rd_T75 l0 x6_1).f2) ((rd_T75 l0 x6_1).f3) ((rd_T75 l0 x6_1).f4) ((rd_T75 l1 x7_2).f0) ((rd_T75 l1 x7_2).f1) ((rd_T75 l1 x7_2).f2) ((rd_T75 l1 x7_2).f3) ((rd_T75 l1 x7_2).f4)).bind fun t203 => (if t203 = true then (if x7_2 < ((rd_L7 x5_2 x6_1).length : Int) then (siglumref08_rests.l1 k2 l0 l1 (x5_2.set (x6_1 : Int).toNat ((rd_L7 x5_2 x6_1).set (x7_2 : Int).toNat (mn (wrap64 ((mn (ji47) (rd (rd_L7 x5_2 (ji36)) (ji43))) + 1)) (rd (rd_L7 x5_2 (ji36)) (ji43))))) x6_1 (wrap64 (x7_2 - 1))) else (none)) else (if x7_2 < ((rd_L7 x5_2 x6_1).length : Int) then (siglumref08_rests.l1 k2 l0 l1 (x5_2.set (x6_1 : Int).toNat ((rd_L7 x5_2 x6_1).set (x7_2 : Int).toNat (wrap64 ((mn (ji47) (rd (rd_L7 x5_2 (ji36)) (ji43))) + 1)))) x6_1 (wrap64 (x7_2 - 1))) else (none)))) else (none)) else (none)) = some r := by first | (rw [hji47] at H; exact H) | (simp only [hji47] at H ⊢; exact H)
         have hji47_ : (if (rd (rd_L7 x5_2 x6_1) (ji43)) < (rd (rd_L7 x5_2 (ji36)) x7_2) then (rd (rd_L7 x5_2 x6_1) (ji43)) else (rd (rd_L7 x5_2 (ji36)) x7_2)) = ji47 := hji47
         obtain ⟨ji48, hji48⟩ : ∃ j_ : Int, (mn (ji47) (rd (rd_L7 x5_2 (ji36)) (ji43))) = j_ := ⟨_, rfl⟩
         replace H : (if x6_1 < (l0.length : Int) then (if x7_2 < (l1.length : Int) then ((siglumref08_Same.f ((rd_T75 l0 x6_1).f0) ((rd_T75 l0 x6_1).f1) ((rd_T75 l0 x6_1).f2) ((rd_T75 l0 x6_1).f3) ((rd_T75 l0 x6_1).f4) ((rd_T75 l1 x7_2).f0) ((rd_T75 l1 x7_2).f1) ((rd_T75 l1 x7_2).f2) ((rd_T75 l1 x7_2).f3) ((rd_T75 l1 x7_2).f4)).bind fun t203 => (if t203 = true then (if x7_2 < ((rd_L7 x5_2 x6_1).length : Int) then (siglumref08_rests.l1 k2 l0 l1 (x5_2.set (x6_1 : Int).toNat ((rd_L7 x5_2 x6_1).set (x7_2 : Int).toNat (mn (wrap64 ((ji48) + 1)) (rd (rd_L7 x5_2 (ji36)) (ji43))))) x6_1 (wrap64 (x7_2 - 1))) else (none)) else (if x7_2 < ((rd_L7 x5_2 x6_1).length : Int) then (siglumref08_rests.l1 k2 l0 l1 (x5_2.set (x6_1 : Int).toNat ((rd_L7 x5_2 x6_1).set (x7_2 : Int).toNat (wrap64 ((ji48) + 1)))) x6_1 (wrap64 (x7_2 - 1))) else (none)))) else (none)) else (none)) = some r := by first | (rw [hji48] at H; exact H) | (simp only [hji48] at H ⊢; exact H)
         have hji48_ : (if (rd (rd_L7 x5_2 (ji36)) (ji43)) < (ji47) then (rd (rd_L7 x5_2 (ji36)) (ji43)) else (ji47)) = ji48 := hji48
         by_cases c49 : x6_1 < (l0.length : Int)
         rotate_left
         · rw [if_neg c49] at H; exact absurd H (by simp)
         rw [if_pos c49] at H
         have c49b0 : decide (x6_1 < (l0.length : Int)) = true := decide_eq_true c49
         clear c49
         by_cases c50 : x7_2 < (l1.length : Int)
         rotate_left
         · rw [if_neg c50] at H; exact absurd H (by simp)
         rw [if_pos c50] at H
         have c50b0 : decide (x7_2 < (l1.length : Int)) = true := decide_eq_true c50
         clear c50
         replace H := Option.bind_eq_some_iff.mp H
         obtain ⟨t203, A510, H⟩ := H
         replace H : (if t203 = true then (if x7_2 < ((rd_L7 x5_2 x6_1).length : Int) then (siglumref08_rests.l1 k2 l0 l1 (x5_2.set (x6_1 : Int).toNat ((rd_L7 x5_2 x6_1).set (x7_2 : Int).toNat (mn (wrap64 ((ji48) + 1)) (rd (rd_L7 x5_2 (ji36)) (ji43))))) x6_1 (wrap64 (x7_2 - 1))) else (none)) else (if x7_2 < ((rd_L7 x5_2 x6_1).length : Int) then (siglumref08_rests.l1 k2 l0 l1 (x5_2.set (x6_1 : Int).toNat ((rd_L7 x5_2 x6_1).set (x7_2 : Int).toNat (wrap64 ((ji48) + 1)))) x6_1 (wrap64 (x7_2 - 1))) else (none))) = some r := H
         have A51 := Aside0.mk A510
         clear A510
         by_cases c52 : t203 = true
         ·
          subst c52
          have H1 : (if x7_2 < ((rd_L7 x5_2 x6_1).length : Int) then (siglumref08_rests.l1 k2 l0 l1 (x5_2.set (x6_1 : Int).toNat ((rd_L7 x5_2 x6_1).set (x7_2 : Int).toNat (mn (wrap64 ((ji48) + 1)) (rd (rd_L7 x5_2 (ji36)) (ji43))))) x6_1 (wrap64 (x7_2 - 1))) else (none)) = some r := by rw [if_pos rfl] at H; exact H
          clear H
          have H := H1
          clear H1
          obtain ⟨ji53, hji53⟩ : ∃ j_ : Int, (mn (wrap64 ((ji48) + 1)) (rd (rd_L7 x5_2 (ji36)) (ji43))) = j_ := ⟨_, rfl⟩
          replace H : (if x7_2 < ((rd_L7 x5_2 x6_1).length : Int) then (siglumref08_rests.l1 k2 l0 l1 (x5_2.set (x6_1 : Int).toNat ((rd_L7 x5_2 x6_1).set (x7_2 : Int).toNat (ji53))) x6_1 (wrap64 (x7_2 - 1))) else (none)) = some r := by first | (rw [hji53] at H; exact H) | (simp only [hji53] at H ⊢; exact H)
          (try rw [hji53] at A51)
          have hji53_ : (if (rd (rd_L7 x5_2 (ji36)) (ji43)) < (wrap64 ((ji48) + 1)) then (rd (rd_L7 x5_2 (ji36)) (ji43)) else (wrap64 ((ji48) + 1))) = ji53 := hji53
          by_cases c54 : x7_2 < ((rd_L7 x5_2 x6_1).length : Int)
          rotate_left
          · rw [if_neg c54] at H; exact absurd H (by simp)
          rw [if_pos c54] at H
          have c54b0 : decide (x7_2 < ((rd_L7 x5_2 x6_1).length : Int)) = true := decide_eq_true c54
          clear c54
          obtain ⟨y207, hy207⟩ : ∃ y_ : List Int, y_ = ((rd_L7 x5_2 x6_1).set (x7_2 : Int).toNat (ji53)) := ⟨_, rfl⟩
          replace H : (siglumref08_rests.l1 k2 l0 l1 (x5_2.set (x6_1 : Int).toNat y207) x6_1 (wrap64 (x7_2 - 1))) = some r := by first | (rw [hy207]; with_reducible exact H) | (have H2_ := (Option.bind_some _ _).symm.trans H; rw [hy207]; with_reducible exact H2_) | (have H2_ := (Option.bind_some _ _).symm.trans H; with_reducible exact H2_) | with_reducible exact H | (rw [hy207]; exact H) | exact H
          have Ny207 := Aside0.mk hy207
          clear hy207
          obtain ⟨y209, hy209⟩ : ∃ y_ : List (List Int), y_ = (x5_2.set (x6_1 : Int).toNat y207) := ⟨_, rfl⟩
          replace H : (siglumref08_rests.l1 k2 l0 l1 y209 x6_1 (wrap64 (x7_2 - 1))) = some r := by first | (rw [hy209]; with_reducible exact H) | (have H2_ := (Option.bind_some _ _).symm.trans H; rw [hy209]; with_reducible exact H2_) | (have H2_ := (Option.bind_some _ _).symm.trans H; with_reducible exact H2_) | with_reducible exact H | (rw [hy209]; exact H) | exact H
          have Ny209 := Aside0.mk hy209
          clear hy209
          have H' := Aside0.mk H
          clear H
          try go_wp2
          have n0_ := Aside0.mk (Kd.S_drew HO_5.out)
          have n1_ := Aside0.mk (below_drew1 HB.out)
          clear HO_5
          clear HB
          have HO_5 := n0_
          have HB := n1_
          clear n0_ n1_
          have p195 : 0 ≤ ((ji36) : Int) := of_decide_eq_true (by assumption)
          have q195 : (ji36) < (x5_2.length : Int) := of_decide_eq_true (by assumption)
          obtain ⟨ad195, A195_0, c195_0, e195, hx195_0, hl195_0, hi195_0⟩ := at_L7 (Kd.S_reads' HO_5.out).2.2 (ji36) p195 q195
          obtain rfl : (⟨go14, 0, none⟩ : Addr) = ad195 := (by injection e195)
          obtain ⟨ce195, hce195, hMe195, hcc195⟩ := Kd.S_get HO_5.out [] (ji36) p195 (by first | exact q195 | exact of_decide_eq_true (by assumption) | (have e_ := (Kd.S_reads' HO_5.out).1; omega))
          obtain ⟨ve195_0, rfl, ge195_0⟩ := hMe195
          have hv195_0 := hcc195 0 _ rfl
          rw [Nat.add_zero, show ((Kd.slice 3 (Kd.int .i64))).sz = 1 from rfl, Nat.mul_one] at hv195_0
          replace hv195_0 := Option.some.inj (hv195_0.symm.trans hx195_0)
          rw [hv195_0] at ge195_0
          have HL195_0 := Aside0.mk (show Kd.R (Kd.int .i64) 3 _ _ _ _ (rd_L7 x5_2 (ji36)) from ge195_0)
          clear hv195_0 ge195_0
          have HX195_0 := Aside0.mk hx195_0
          clear hcc195 hce195
          (first | simp only [add_plain] at hx195_0 | simp only [add_at] at hx195_0 | simp only [Addr.add, Nat.zero_add] at hx195_0 | skip)
          have HR195_0 := Aside0.mk hi195_0
          have HC195_0 := Aside0.mk hl195_0
          clear hi195_0 hl195_0
          replace p195 := eq_true p195
          replace q195 := eq_true q195
          have p196 : 0 ≤ (x7_2 : Int) := of_decide_eq_true (by assumption)
          have q196 : x7_2 < ((rd_L7 x5_2 (ji36)).length : Int) := of_decide_eq_true (by assumption)
          obtain ⟨ad196, e196, hx196_0⟩ := Kd.at_int (by repeat (first | (with_reducible exact HR195_0.out) | (with_reducible refine Kd.C_alloc ?_ _) | (with_reducible refine Kd.C_drewN ?_ _) | (with_reducible refine Kd.C_drew ?_) | exact HR195_0.out)) x7_2 p196 q196
          cases e196
          replace p196 := eq_true p196
          replace q196 := eq_true q196
          have p197 : 0 ≤ (x6_1 : Int) := of_decide_eq_true (by assumption)
          have q197 : x6_1 < (x5_2.length : Int) := of_decide_eq_true (by assumption)
          obtain ⟨ad197, A197_0, c197_0, e197, hx197_0, hl197_0, hi197_0⟩ := at_L7 (Kd.S_reads' HO_5.out).2.2 x6_1 p197 q197
          obtain rfl : (⟨go14, 0, none⟩ : Addr) = ad197 := (by injection e197)
          obtain ⟨ce197, hce197, hMe197, hcc197⟩ := Kd.S_get HO_5.out [] x6_1 p197 (by first | exact q197 | exact of_decide_eq_true (by assumption) | (have e_ := (Kd.S_reads' HO_5.out).1; omega))
          obtain ⟨ve197_0, rfl, ge197_0⟩ := hMe197
          have hv197_0 := hcc197 0 _ rfl
          rw [Nat.add_zero, show ((Kd.slice 3 (Kd.int .i64))).sz = 1 from rfl, Nat.mul_one] at hv197_0
          replace hv197_0 := Option.some.inj (hv197_0.symm.trans hx197_0)
          rw [hv197_0] at ge197_0
          have HL197_0 := Aside0.mk (show Kd.R (Kd.int .i64) 3 _ _ _ _ (rd_L7 x5_2 x6_1) from ge197_0)
          clear hv197_0 ge197_0
          have HX197_0 := Aside0.mk hx197_0
          clear hcc197 hce197
          (first | simp only [add_plain] at hx197_0 | simp only [add_at] at hx197_0 | simp only [Addr.add, Nat.zero_add] at hx197_0 | skip)
          have HR197_0 := Aside0.mk hi197_0
          have HC197_0 := Aside0.mk hl197_0
          clear hi197_0 hl197_0
          replace p197 := eq_true p197
          replace q197 := eq_true q197
          have p198 : 0 ≤ ((ji43) : Int) := of_decide_eq_true (by assumption)
          have q198 : (ji43) < ((rd_L7 x5_2 x6_1).length : Int) := of_decide_eq_true (by assumption)
          obtain ⟨ad198, e198, hx198_0⟩ := Kd.at_int (by repeat (first | (with_reducible exact HR197_0.out) | (with_reducible refine Kd.C_alloc ?_ _) | (with_reducible refine Kd.C_drewN ?_ _) | (with_reducible refine Kd.C_drew ?_) | exact HR197_0.out)) (ji43) p198 q198
          cases e198
          replace p198 := eq_true p198
          replace q198 := eq_true q198
          have p199 : 0 ≤ ((ji36) : Int) := of_decide_eq_true (by assumption)
          have q199 : (ji36) < (x5_2.length : Int) := of_decide_eq_true (by assumption)
          obtain ⟨ad199, A199_0, c199_0, e199, hx199_0, hl199_0, hi199_0⟩ := at_L7 (Kd.S_reads' HO_5.out).2.2 (ji36) p199 q199
          obtain rfl : (⟨go14, 0, none⟩ : Addr) = ad199 := (by injection e199)
          obtain ⟨ce199, hce199, hMe199, hcc199⟩ := Kd.S_get HO_5.out [] (ji36) p199 (by first | exact q199 | exact of_decide_eq_true (by assumption) | (have e_ := (Kd.S_reads' HO_5.out).1; omega))
          obtain ⟨ve199_0, rfl, ge199_0⟩ := hMe199
          have hv199_0 := hcc199 0 _ rfl
          rw [Nat.add_zero, show ((Kd.slice 3 (Kd.int .i64))).sz = 1 from rfl, Nat.mul_one] at hv199_0
          replace hv199_0 := Option.some.inj (hv199_0.symm.trans hx199_0)
          rw [hv199_0] at ge199_0
          have HL199_0 := Aside0.mk (show Kd.R (Kd.int .i64) 3 _ _ _ _ (rd_L7 x5_2 (ji36)) from ge199_0)
          clear hv199_0 ge199_0
          have HX199_0 := Aside0.mk hx199_0
          clear hcc199 hce199
          (first | simp only [add_plain] at hx199_0 | simp only [add_at] at hx199_0 | simp only [Addr.add, Nat.zero_add] at hx199_0 | skip)
          have HR199_0 := Aside0.mk hi199_0
          have HC199_0 := Aside0.mk hl199_0
          clear hi199_0 hl199_0
          replace p199 := eq_true p199
          replace q199 := eq_true q199
          have ea_ := Option.some.inj (hx195_0.symm.trans hx199_0)
          injection ea_ with ea_ en_ ec_
          subst ea_
          subst ec_
          clear en_
          have p200 : 0 ≤ ((ji43) : Int) := of_decide_eq_true (by assumption)
          have q200 : (ji43) < ((rd_L7 x5_2 (ji36)).length : Int) := of_decide_eq_true (by assumption)
          obtain ⟨ad200, e200, hx200_0⟩ := Kd.at_int (by repeat (first | (with_reducible exact HR199_0.out) | (with_reducible refine Kd.C_alloc ?_ _) | (with_reducible refine Kd.C_drewN ?_ _) | (with_reducible refine Kd.C_drew ?_) | exact HR199_0.out)) (ji43) p200 q200
          cases e200
          replace p200 := eq_true p200
          replace q200 := eq_true q200
          refine start_ (n := 28) (S := fun w' => w'.cell? ⟨go14, ((ji36)).toNat, none⟩ = some (.slice (some ad196) (rd_L7 x5_2 (ji36)).length c195_0) ∧ w'.cell? (ad196.add (x7_2).toNat) = some (.int .i64 (rd (rd_L7 x5_2 (ji36)) x7_2)) ∧ w'.cell? ⟨go14, (x6_1).toNat, none⟩ = some (.slice (some ad198) (rd_L7 x5_2 x6_1).length c197_0) ∧ w'.cell? (ad198.add ((ji43)).toNat) = some (.int .i64 (rd (rd_L7 x5_2 x6_1) (ji43))) ∧ w'.cell? ⟨go14, ((ji36)).toNat, none⟩ = some (.slice (some ad196) (rd_L7 x5_2 (ji36)).length c195_0) ∧ w'.cell? (ad196.add ((ji43)).toNat) = some (.int .i64 (rd (rd_L7 x5_2 (ji36)) (ji43)))) (ds := []) #[false,false,false,false,false,false,false,false,false,false,false,false,false,false,false,false,false,false,false,false,false,false,false,false,false,false,false,false] (by kernel_rfl) rfl rfl ⟨hx195_0, hx196_0, hx197_0, hx198_0, hx199_0, hx200_0⟩ (fun hHeld => ?_); refine with_tabW siglumref08_rests.tab9 siglumref08_rests.bits9 (fun HT_ HW_ => ?_)
          generalize wr.drew = w56 at HO_5 HB HL195_0 HL197_0 HL199_0 HR195_0 HR197_0 HR199_0 HX195_0 HX197_0 HX199_0 hx195_0 hx196_0 hx197_0 hx198_0 hx199_0 hx200_0 hHeld ⊢
          refine pure_ (i := 0) (N := some 32) (v := ?_) (a' := ?_) #[true,false,false,false,false,false,false,false,false,false,false,false,false,false,false,false,false,false,false,false,false,false,false,false,false,false,false,false] rfl rfl (any_of HT_.out (by kernel_rfl)) (fun _ _ _ h => h) (Or.inl ⟨by rfl, ?_⟩) ?_ ?_; rotate_left; (· intro w'; go_simp; with_reducible rfl); rotate_left; (· simp only [Act.put,List.setIfInBounds_toArray,List.set_cons_zero,List.set_cons_succ,i64_w,i32_w]; rfl)
          refine pure_ (i := 1) (N := some 33) (v := ?_) (a' := ?_) #[true,true,false,false,false,false,false,false,false,false,false,false,false,false,false,false,false,false,false,false,false,false,false,false,false,false,false,false] rfl rfl (any_of HT_.out (by kernel_rfl)) (fun _ _ _ h => h) (Or.inl ⟨by rfl, ?_⟩) ?_ ?_; rotate_left; (· intro w'; go_simp; with_reducible rfl); rotate_left; (· simp only [Act.put,List.setIfInBounds_toArray,List.set_cons_zero,List.set_cons_succ,i64_w,i32_w]; rfl)
          refine pure_ (i := 2) (N := some 34) (v := ?_) (a' := ?_) #[true,true,true,false,false,false,false,false,false,false,false,false,false,false,false,false,false,false,false,false,false,false,false,false,false,false,false,false] rfl rfl (any_of HT_.out (by kernel_rfl)) (fun _ _ _ h => h) (Or.inl ⟨by rfl, ?_⟩) ?_ ?_; rotate_left; (· intro w'; go_simp; with_reducible rfl); rotate_left; (· simp only [Act.put,List.setIfInBounds_toArray,List.set_cons_zero,List.set_cons_succ,i64_w,i32_w]; rfl)
          refine pure_ (i := 3) (N := some 35) (v := ?_) (a' := ?_) #[true,true,true,true,false,false,false,false,false,false,false,false,false,false,false,false,false,false,false,false,false,false,false,false,false,false,false,false] rfl rfl (any_of HT_.out (by kernel_rfl)) (fun _ _ _ h => h) (Or.inl ⟨by rfl, ?_⟩) ?_ ?_; rotate_left; (· intro w'; go_simp; with_reducible rfl); rotate_left; (· simp only [Act.put,List.setIfInBounds_toArray,List.set_cons_zero,List.set_cons_succ,i64_w,i32_w]; rfl)
          refine pure_ (i := 5) (N := some 37) (v := ?_) (a' := ?_) #[true,true,true,true,false,true,false,false,false,false,false,false,false,false,false,false,false,false,false,false,false,false,false,false,false,false,false,false] rfl rfl (any_of HT_.out (by kernel_rfl)) (fun _ _ _ h => h) (Or.inl ⟨by rfl, ?_⟩) ?_ ?_; rotate_left; (· intro w'; go_simp; with_reducible rfl); rotate_left; (· simp only [Act.put,List.setIfInBounds_toArray,List.set_cons_zero,List.set_cons_succ,i64_w,i32_w]; rfl)
          refine pure_ (i := 8) (N := some 40) (v := ?_) (a' := ?_) #[true,true,true,true,false,true,false,false,true,false,false,false,false,false,false,false,false,false,false,false,false,false,false,false,false,false,false,false] rfl rfl (any_of HT_.out (by kernel_rfl)) (fun _ _ _ h => h) (Or.inl ⟨by rfl, ?_⟩) ?_ ?_; rotate_left; (· intro w'; go_simp; with_reducible rfl); rotate_left; (· simp only [Act.put,List.setIfInBounds_toArray,List.set_cons_zero,List.set_cons_succ,i64_w,i32_w]; rfl)
          refine pure_ (i := 9) (N := some 41) (v := ?_) (a' := ?_) #[true,true,true,true,false,true,false,false,true,true,false,false,false,false,false,false,false,false,false,false,false,false,false,false,false,false,false,false] rfl rfl (any_of HT_.out (by kernel_rfl)) (fun _ _ _ h => h) (Or.inl ⟨by rfl, ?_⟩) ?_ ?_; rotate_left; (· intro w'; go_simp; with_reducible rfl); rotate_left; (· simp only [Act.put,List.setIfInBounds_toArray,List.set_cons_zero,List.set_cons_succ,i64_w,i32_w]; rfl)
          refine pure_ (i := 10) (N := some 42) (v := ?_) (a' := ?_) #[true,true,true,true,false,true,false,false,true,true,true,false,false,false,false,false,false,false,false,false,false,false,false,false,false,false,false,false] rfl rfl (any_of HT_.out (by kernel_rfl)) (fun _ _ _ h => h) (Or.inl ⟨by rfl, ?_⟩) ?_ ?_; rotate_left; (· intro w'; go_simp; with_reducible rfl); rotate_left; (· simp only [Act.put,List.setIfInBounds_toArray,List.set_cons_zero,List.set_cons_succ,i64_w,i32_w]; rfl)
          refine pure_ (i := 12) (N := some 44) (v := ?_) (a' := ?_) #[true,true,true,true,false,true,false,false,true,true,true,false,true,false,false,false,false,false,false,false,false,false,false,false,false,false,false,false] rfl rfl (any_of HT_.out (by kernel_rfl)) (fun _ _ _ h => h) (Or.inl ⟨by rfl, ?_⟩) ?_ ?_; rotate_left; (· intro w'; go_simp; with_reducible rfl); rotate_left; (· simp only [Act.put,List.setIfInBounds_toArray,List.set_cons_zero,List.set_cons_succ,i64_w,i32_w]; rfl)
          refine pure_ (i := 13) (N := some 45) (v := ?_) (a' := ?_) #[true,true,true,true,false,true,false,false,true,true,true,false,true,true,false,false,false,false,false,false,false,false,false,false,false,false,false,false] rfl rfl (any_of HT_.out (by kernel_rfl)) (fun _ _ _ h => h) (Or.inl ⟨by rfl, ?_⟩) ?_ ?_; rotate_left; (· intro w'; go_simp; with_reducible rfl); rotate_left; (· simp only [Act.put,List.setIfInBounds_toArray,List.set_cons_zero,List.set_cons_succ,i64_w,i32_w]; rfl)
          refine pure_ (i := 16) (N := some 48) (v := ?_) (a' := ?_) #[true,true,true,true,false,true,false,false,true,true,true,false,true,true,false,false,true,false,false,false,false,false,false,false,false,false,false,false] rfl rfl (any_of HT_.out (by kernel_rfl)) (fun _ _ _ h => h) (Or.inl ⟨by rfl, ?_⟩) ?_ ?_; rotate_left; (· intro w'; go_simp; with_reducible rfl); rotate_left; (· simp only [Act.put,List.setIfInBounds_toArray,List.set_cons_zero,List.set_cons_succ,i64_w,i32_w]; rfl)
          refine pure_ (i := 17) (N := some 49) (v := ?_) (a' := ?_) #[true,true,true,true,false,true,false,false,true,true,true,false,true,true,false,false,true,true,false,false,false,false,false,false,false,false,false,false] rfl rfl (any_of HT_.out (by kernel_rfl)) (fun _ _ _ h => h) (Or.inl ⟨by rfl, ?_⟩) ?_ ?_; rotate_left; (· intro w'; go_simp; with_reducible rfl); rotate_left; (· simp only [Act.put,List.setIfInBounds_toArray,List.set_cons_zero,List.set_cons_succ,i64_w,i32_w]; rfl)
          refine pure_ (i := 18) (N := some 50) (v := ?_) (a' := ?_) #[true,true,true,true,false,true,false,false,true,true,true,false,true,true,false,false,true,true,true,false,false,false,false,false,false,false,false,false] rfl rfl (any_of HT_.out (by kernel_rfl)) (fun _ _ _ h => h) (Or.inl ⟨by rfl, ?_⟩) ?_ ?_; rotate_left; (· intro w'; go_simp; with_reducible rfl); rotate_left; (· simp only [Act.put,List.setIfInBounds_toArray,List.set_cons_zero,List.set_cons_succ,i64_w,i32_w]; rfl)
          refine pure_ (i := 19) (N := some 51) (v := ?_) (a' := ?_) #[true,true,true,true,false,true,false,false,true,true,true,false,true,true,false,false,true,true,true,true,false,false,false,false,false,false,false,false] rfl rfl (any_of HT_.out (by kernel_rfl)) (fun _ _ _ h => h) (Or.inl ⟨by rfl, ?_⟩) ?_ ?_; rotate_left; (· intro w'; go_simp; with_reducible rfl); rotate_left; (· simp only [Act.put,List.setIfInBounds_toArray,List.set_cons_zero,List.set_cons_succ,i64_w,i32_w]; rfl)
          refine pure_ (i := 21) (N := some 53) (v := ?_) (a' := ?_) #[true,true,true,true,false,true,false,false,true,true,true,false,true,true,false,false,true,true,true,true,false,true,false,false,false,false,false,false] rfl rfl (any_of HT_.out (by kernel_rfl)) (fun _ _ _ h => h) (Or.inl ⟨by rfl, ?_⟩) ?_ ?_; rotate_left; (· intro w'; go_simp; with_reducible rfl); rotate_left; (· simp only [Act.put,List.setIfInBounds_toArray,List.set_cons_zero,List.set_cons_succ,i64_w,i32_w]; rfl)
          refine pure_ (i := 22) (N := some 54) (v := ?_) (a' := ?_) #[true,true,true,true,false,true,false,false,true,true,true,false,true,true,false,false,true,true,true,true,false,true,true,false,false,false,false,false] rfl rfl (any_of HT_.out (by kernel_rfl)) (fun _ _ _ h => h) (Or.inl ⟨by rfl, ?_⟩) ?_ ?_; rotate_left; (· intro w'; go_simp; with_reducible rfl); rotate_left; (· simp only [Act.put,List.setIfInBounds_toArray,List.set_cons_zero,List.set_cons_succ,i64_w,i32_w]; rfl)
          refine take_ (i := 4) (N := some 36) (v := ?_) (a' := ?_) #[true,true,true,true,true,true,false,false,true,true,true,false,true,true,false,false,true,true,true,true,false,true,true,false,false,false,false,false] rfl rfl (take_ofW HT_.out HW_.out (by kernel_rfl)) (fun _ _ _ h => h) (Or.inl ⟨by rfl, ?_⟩) hHeld ?_ ?_; rotate_left; (· rintro w' ⟨s0, s1, s2, s3, s4, s5⟩; go_simp; with_reducible rfl); rotate_left; (· simp only [Act.put,List.setIfInBounds_toArray,List.set_cons_zero,List.set_cons_succ,i64_w,i32_w]; rfl)
          refine pure_ (i := 6) (N := some 38) (v := ?_) (a' := ?_) #[true,true,true,true,true,true,true,false,true,true,true,false,true,true,false,false,true,true,true,true,false,true,true,false,false,false,false,false] rfl rfl (any_of HT_.out (by kernel_rfl)) (fun _ _ _ h => h) (Or.inl ⟨by rfl, ?_⟩) ?_ ?_; rotate_left; (· intro w'; go_simp; with_reducible rfl); rotate_left; (· simp only [Act.put,List.setIfInBounds_toArray,List.set_cons_zero,List.set_cons_succ,i64_w,i32_w]; rfl)
          refine take_ (i := 7) (N := some 39) (v := ?_) (a' := ?_) #[true,true,true,true,true,true,true,true,true,true,true,false,true,true,false,false,true,true,true,true,false,true,true,false,false,false,false,false] rfl rfl (take_ofW HT_.out HW_.out (by kernel_rfl)) (fun _ _ _ h => h) (Or.inl ⟨by rfl, ?_⟩) hHeld ?_ ?_; rotate_left; (· rintro w' ⟨s0, s1, s2, s3, s4, s5⟩; go_simp; with_reducible rfl); rotate_left; (· simp only [Act.put,List.setIfInBounds_toArray,List.set_cons_zero,List.set_cons_succ,i64_w,i32_w]; rfl)
          refine take_ (i := 11) (N := some 43) (v := ?_) (a' := ?_) #[true,true,true,true,true,true,true,true,true,true,true,true,true,true,false,false,true,true,true,true,false,true,true,false,false,false,false,false] rfl rfl (take_ofW HT_.out HW_.out (by kernel_rfl)) (fun _ _ _ h => h) (Or.inl ⟨by rfl, ?_⟩) hHeld ?_ ?_; rotate_left; (· rintro w' ⟨s0, s1, s2, s3, s4, s5⟩; go_simp; with_reducible rfl); rotate_left; (· simp only [Act.put,List.setIfInBounds_toArray,List.set_cons_zero,List.set_cons_succ,i64_w,i32_w]; rfl)
          refine pure_ (i := 14) (N := some 46) (v := ?_) (a' := ?_) #[true,true,true,true,true,true,true,true,true,true,true,true,true,true,true,false,true,true,true,true,false,true,true,false,false,false,false,false] rfl rfl (any_of HT_.out (by kernel_rfl)) (fun _ _ _ h => h) (Or.inl ⟨by rfl, ?_⟩) ?_ ?_; rotate_left; (· intro w'; go_simp; with_reducible rfl); rotate_left; (· simp only [Act.put,List.setIfInBounds_toArray,List.set_cons_zero,List.set_cons_succ,i64_w,i32_w]; rfl)
          refine take_ (i := 15) (N := some 47) (v := ?_) (a' := ?_) #[true,true,true,true,true,true,true,true,true,true,true,true,true,true,true,true,true,true,true,true,false,true,true,false,false,false,false,false] rfl rfl (take_ofW HT_.out HW_.out (by kernel_rfl)) (fun _ _ _ h => h) (Or.inl ⟨by rfl, ?_⟩) hHeld ?_ ?_; rotate_left; (· rintro w' ⟨s0, s1, s2, s3, s4, s5⟩; go_simp; with_reducible rfl); rotate_left; (· simp only [Act.put,List.setIfInBounds_toArray,List.set_cons_zero,List.set_cons_succ,i64_w,i32_w]; rfl)
          refine take_ (i := 20) (N := some 52) (v := ?_) (a' := ?_) #[true,true,true,true,true,true,true,true,true,true,true,true,true,true,true,true,true,true,true,true,true,true,true,false,false,false,false,false] rfl rfl (take_ofW HT_.out HW_.out (by kernel_rfl)) (fun _ _ _ h => h) (Or.inl ⟨by rfl, ?_⟩) hHeld ?_ ?_; rotate_left; (· rintro w' ⟨s0, s1, s2, s3, s4, s5⟩; go_simp; with_reducible rfl); rotate_left; (· simp only [Act.put,List.setIfInBounds_toArray,List.set_cons_zero,List.set_cons_succ,i64_w,i32_w]; rfl)
          refine pure_ (i := 23) (N := some 55) (v := ?_) (a' := ?_) #[true,true,true,true,true,true,true,true,true,true,true,true,true,true,true,true,true,true,true,true,true,true,true,true,false,false,false,false] rfl rfl (any_of HT_.out (by kernel_rfl)) (fun _ _ _ h => h) (Or.inl ⟨by rfl, ?_⟩) ?_ ?_; rotate_left; (· intro w'; go_simp; with_reducible rfl); rotate_left; (· simp only [Act.put,List.setIfInBounds_toArray,List.set_cons_zero,List.set_cons_succ,i64_w,i32_w]; rfl)
          refine take_ (i := 24) (N := some 56) (v := ?_) (a' := ?_) #[true,true,true,true,true,true,true,true,true,true,true,true,true,true,true,true,true,true,true,true,true,true,true,true,true,false,false,false] rfl rfl (take_ofW HT_.out HW_.out (by kernel_rfl)) (fun _ _ _ h => h) (Or.inl ⟨by rfl, ?_⟩) hHeld ?_ ?_; rotate_left; (· rintro w' ⟨s0, s1, s2, s3, s4, s5⟩; go_simp; with_reducible rfl); rotate_left; (· simp only [Act.put,List.setIfInBounds_toArray,List.set_cons_zero,List.set_cons_succ,i64_w,i32_w]; rfl)
          refine pure_ (i := 25) (N := some 57) (v := ?_) (a' := ?_) #[true,true,true,true,true,true,true,true,true,true,true,true,true,true,true,true,true,true,true,true,true,true,true,true,true,true,false,false] rfl rfl (any_of HT_.out (by kernel_rfl)) (fun _ _ _ h => h) (Or.inl ⟨by rfl, ?_⟩) ?_ ?_; rotate_left; (· intro w'; go_simp; with_reducible rfl); rotate_left; (· simp only [Act.put,List.setIfInBounds_toArray,List.set_cons_zero,List.set_cons_succ,i64_w,i32_w]; rfl)
          refine pure_ (i := 26) (N := some 58) (v := ?_) (a' := ?_) #[true,true,true,true,true,true,true,true,true,true,true,true,true,true,true,true,true,true,true,true,true,true,true,true,true,true,true,false] rfl rfl (any_of HT_.out (by kernel_rfl)) (fun _ _ _ h => h) (Or.inl ⟨by rfl, ?_⟩) ?_ ?_; rotate_left; (· intro w'; go_simp; with_reducible rfl); rotate_left; (· simp only [Act.put,List.setIfInBounds_toArray,List.set_cons_zero,List.set_cons_succ,i64_w,i32_w]; rfl)
          refine pure_ (i := 27) (N := some 8) (v := ?_) (a' := ?_) #[true,true,true,true,true,true,true,true,true,true,true,true,true,true,true,true,true,true,true,true,true,true,true,true,true,true,true,true] rfl rfl (any_of HT_.out (by kernel_rfl)) (fun _ _ _ h => h) (Or.inl ⟨by rfl, ?_⟩) ?_ ?_; rotate_left; (· intro w'; go_simp; with_reducible rfl); rotate_left; (· simp only [Act.put,List.setIfInBounds_toArray,List.set_cons_zero,List.set_cons_succ,i64_w,i32_w]; rfl)
          refine done_ (done_of HT_.out (by kernel_rfl)) ?_
          try go_wp2
          have n0_ := Aside0.mk (Kd.S_drew HO_5.out)
          have n1_ := Aside0.mk (Kd.R_drew HL195_0.out)
          have n2_ := Aside0.mk (Kd.R_drew HL197_0.out)
          have n3_ := Aside0.mk (Kd.R_drew HL199_0.out)
          have n4_ := Aside0.mk (Kd.C_drew HR195_0.out)
          have n5_ := Aside0.mk (Kd.C_drew HR197_0.out)
          have n6_ := Aside0.mk (Kd.C_drew HR199_0.out)
          have n7_ := Aside0.mk (below_drew1 HB.out)
          clear HO_5
          clear HL195_0
          clear HL197_0
          clear HL199_0
          clear HR195_0
          clear HR197_0
          clear HR199_0
          clear HB
          have HO_5 := n0_
          have HL195_0 := n1_
          have HL197_0 := n2_
          have HL199_0 := n3_
          have HR195_0 := n4_
          have HR197_0 := n5_
          have HR199_0 := n6_
          have HB := n7_
          clear n0_ n1_ n2_ n3_ n4_ n5_ n6_ n7_
          have p201 : 0 ≤ (x6_1 : Int) := of_decide_eq_true (by assumption)
          have q201 : x6_1 < (l0.length : Int) := of_decide_eq_true (by assumption)
          obtain ⟨ad201, e201, hx201_0, hx201_1, hx201_2, hx201_3, hx201_4⟩ := at_T75 HR0.out x6_1 p201 q201
          have hw201_4 := hx201_4
          have hw201_3 := hx201_3
          have hw201_2 := hx201_2
          have hw201_1 := hx201_1
          have hw201_0 := hx201_0
          cases e201
          replace hx201_0 := (HB.out.cell (World.block_lt_of_cell? w _ hx201_0)).trans hx201_0
          replace hx201_1 := (HB.out.cell (World.block_lt_of_cell? w _ hx201_1)).trans hx201_1
          replace hx201_2 := (HB.out.cell (World.block_lt_of_cell? w _ hx201_2)).trans hx201_2
          replace hx201_3 := (HB.out.cell (World.block_lt_of_cell? w _ hx201_3)).trans hx201_3
          replace hx201_4 := (HB.out.cell (World.block_lt_of_cell? w _ hx201_4)).trans hx201_4
          replace p201 := eq_true p201
          replace q201 := eq_true q201
          have p202 : 0 ≤ (x7_2 : Int) := of_decide_eq_true (by assumption)
          have q202 : x7_2 < (l1.length : Int) := of_decide_eq_true (by assumption)
          obtain ⟨ad202, e202, hx202_0, hx202_1, hx202_2, hx202_3, hx202_4⟩ := at_T75 HR1.out x7_2 p202 q202
          have hw202_4 := hx202_4
          have hw202_3 := hx202_3
          have hw202_2 := hx202_2
          have hw202_1 := hx202_1
          have hw202_0 := hx202_0
          cases e202
          replace hx202_0 := (HB.out.cell (World.block_lt_of_cell? w _ hx202_0)).trans hx202_0
          replace hx202_1 := (HB.out.cell (World.block_lt_of_cell? w _ hx202_1)).trans hx202_1
          replace hx202_2 := (HB.out.cell (World.block_lt_of_cell? w _ hx202_2)).trans hx202_2
          replace hx202_3 := (HB.out.cell (World.block_lt_of_cell? w _ hx202_3)).trans hx202_3
          replace hx202_4 := (HB.out.cell (World.block_lt_of_cell? w _ hx202_4)).trans hx202_4
          replace p202 := eq_true p202
          replace q202 := eq_true q202
          refine start_ (n := 9) (S := fun w' => w'.cell? (ad201.add ((x6_1).toNat * 5)) = some (.int .i64 ((rd_T75 l0 x6_1).f0)) ∧ w'.cell? ⟨(ad201.add ((x6_1).toNat * 5)).block, (ad201.add ((x6_1).toNat * 5)).off + 1, none⟩ = some (.int .i64 ((rd_T75 l0 x6_1).f1)) ∧ w'.cell? ⟨(ad201.add ((x6_1).toNat * 5)).block, (ad201.add ((x6_1).toNat * 5)).off + 2, none⟩ = some (.int .i32 ((rd_T75 l0 x6_1).f2)) ∧ w'.cell? ⟨(ad201.add ((x6_1).toNat * 5)).block, (ad201.add ((x6_1).toNat * 5)).off + 3, none⟩ = some (.bool ((rd_T75 l0 x6_1).f3)) ∧ w'.cell? ⟨(ad201.add ((x6_1).toNat * 5)).block, (ad201.add ((x6_1).toNat * 5)).off + 4, none⟩ = some (.int .u8 ((rd_T75 l0 x6_1).f4)) ∧ w'.cell? (ad202.add ((x7_2).toNat * 5)) = some (.int .i64 ((rd_T75 l1 x7_2).f0)) ∧ w'.cell? ⟨(ad202.add ((x7_2).toNat * 5)).block, (ad202.add ((x7_2).toNat * 5)).off + 1, none⟩ = some (.int .i64 ((rd_T75 l1 x7_2).f1)) ∧ w'.cell? ⟨(ad202.add ((x7_2).toNat * 5)).block, (ad202.add ((x7_2).toNat * 5)).off + 2, none⟩ = some (.int .i32 ((rd_T75 l1 x7_2).f2)) ∧ w'.cell? ⟨(ad202.add ((x7_2).toNat * 5)).block, (ad202.add ((x7_2).toNat * 5)).off + 3, none⟩ = some (.bool ((rd_T75 l1 x7_2).f3)) ∧ w'.cell? ⟨(ad202.add ((x7_2).toNat * 5)).block, (ad202.add ((x7_2).toNat * 5)).off + 4, none⟩ = some (.int .u8 ((rd_T75 l1 x7_2).f4))) (ds := []) #[false,false,false,false,false,false,false,false,false] (by kernel_rfl) rfl rfl ⟨((HB.out.cell (World.block_lt_of_cell? w _ hw201_0)).trans hw201_0), ((HB.out.cell (World.block_lt_of_cell? w _ hw201_1)).trans hw201_1), ((HB.out.cell (World.block_lt_of_cell? w _ hw201_2)).trans hw201_2), ((HB.out.cell (World.block_lt_of_cell? w _ hw201_3)).trans hw201_3), ((HB.out.cell (World.block_lt_of_cell? w _ hw201_4)).trans hw201_4), ((HB.out.cell (World.block_lt_of_cell? w _ hw202_0)).trans hw202_0), ((HB.out.cell (World.block_lt_of_cell? w _ hw202_1)).trans hw202_1), ((HB.out.cell (World.block_lt_of_cell? w _ hw202_2)).trans hw202_2), ((HB.out.cell (World.block_lt_of_cell? w _ hw202_3)).trans hw202_3), ((HB.out.cell (World.block_lt_of_cell? w _ hw202_4)).trans hw202_4)⟩ (fun hHeld => ?_); refine with_tabW siglumref08_rests.tab10 siglumref08_rests.bits10 (fun HT_ HW_ => ?_)
          generalize w56.drew = w57 at HO_5 HL195_0 HL197_0 HL199_0 HR195_0 HR197_0 HR199_0 HB hx201_0 hx201_1 hx201_2 hx201_3 hx201_4 hx202_0 hx202_1 hx202_2 hx202_3 hx202_4 hHeld ⊢
          refine pure_ (i := 0) (N := some 59) (v := ?_) (a' := ?_) #[true,false,false,false,false,false,false,false,false] rfl rfl (any_of HT_.out (by kernel_rfl)) (fun _ _ _ h => h) (Or.inl ⟨by rfl, ?_⟩) ?_ ?_; rotate_left; (· intro w'; go_simp; with_reducible rfl); rotate_left; (· simp only [Act.put,List.setIfInBounds_toArray,List.set_cons_zero,List.set_cons_succ,i64_w,i32_w]; rfl)
          refine pure_ (i := 1) (N := some 60) (v := ?_) (a' := ?_) #[true,true,false,false,false,false,false,false,false] rfl rfl (any_of HT_.out (by kernel_rfl)) (fun _ _ _ h => h) (Or.inl ⟨by rfl, ?_⟩) ?_ ?_; rotate_left; (· intro w'; go_simp; with_reducible rfl); rotate_left; (· simp only [Act.put,List.setIfInBounds_toArray,List.set_cons_zero,List.set_cons_succ,i64_w,i32_w]; rfl)
          refine pure_ (i := 2) (N := some 61) (v := ?_) (a' := ?_) #[true,true,true,false,false,false,false,false,false] rfl rfl (any_of HT_.out (by kernel_rfl)) (fun _ _ _ h => h) (Or.inl ⟨by rfl, ?_⟩) ?_ ?_; rotate_left; (· intro w'; go_simp; with_reducible rfl); rotate_left; (· simp only [Act.put,List.setIfInBounds_toArray,List.set_cons_zero,List.set_cons_succ,i64_w,i32_w]; rfl)
          refine pure_ (i := 4) (N := some 63) (v := ?_) (a' := ?_) #[true,true,true,false,true,false,false,false,false] rfl rfl (any_of HT_.out (by kernel_rfl)) (fun _ _ _ h => h) (Or.inl ⟨by rfl, ?_⟩) ?_ ?_; rotate_left; (· intro w'; go_simp; with_reducible rfl); rotate_left; (· simp only [Act.put,List.setIfInBounds_toArray,List.set_cons_zero,List.set_cons_succ,i64_w,i32_w]; rfl)
          refine pure_ (i := 5) (N := some 64) (v := ?_) (a' := ?_) #[true,true,true,false,true,true,false,false,false] rfl rfl (any_of HT_.out (by kernel_rfl)) (fun _ _ _ h => h) (Or.inl ⟨by rfl, ?_⟩) ?_ ?_; rotate_left; (· intro w'; go_simp; with_reducible rfl); rotate_left; (· simp only [Act.put,List.setIfInBounds_toArray,List.set_cons_zero,List.set_cons_succ,i64_w,i32_w]; rfl)
          refine pure_ (i := 6) (N := some 65) (v := ?_) (a' := ?_) #[true,true,true,false,true,true,true,false,false] rfl rfl (any_of HT_.out (by kernel_rfl)) (fun _ _ _ h => h) (Or.inl ⟨by rfl, ?_⟩) ?_ ?_; rotate_left; (· intro w'; go_simp; with_reducible rfl); rotate_left; (· simp only [Act.put,List.setIfInBounds_toArray,List.set_cons_zero,List.set_cons_succ,i64_w,i32_w]; rfl)
          refine take_ (i := 3) (N := some 62) (v := ?_) (a' := ?_) #[true,true,true,true,true,true,true,false,false] rfl rfl (take_ofW HT_.out HW_.out (by kernel_rfl)) (fun _ _ _ h => h) (Or.inl ⟨by rfl, ?_⟩) hHeld ?_ ?_; rotate_left; (· rintro w' ⟨s0, s1, s2, s3, s4, s5, s6, s7, s8, s9⟩; go_simp; with_reducible rfl); rotate_left; (· simp only [Act.put,List.setIfInBounds_toArray,List.set_cons_zero,List.set_cons_succ,i64_w,i32_w]; rfl)
          refine take_ (i := 7) (N := some 66) (v := ?_) (a' := ?_) #[true,true,true,true,true,true,true,true,false] rfl rfl (take_ofW HT_.out HW_.out (by kernel_rfl)) (fun _ _ _ h => h) (Or.inl ⟨by rfl, ?_⟩) hHeld ?_ ?_; rotate_left; (· rintro w' ⟨s0, s1, s2, s3, s4, s5, s6, s7, s8, s9⟩; go_simp; with_reducible rfl); rotate_left; (· simp only [Act.put,List.setIfInBounds_toArray,List.set_cons_zero,List.set_cons_succ,i64_w,i32_w]; rfl)
          refine one_ (i := 8) (N := some 67) #[true,true,true,true,true,true,true,true,true] rfl rfl (one_of HT_.out (by kernel_rfl)) (by decide) (fun K hK => ?_)
          refine goes_ Tryd.func37 (by kernel_rfl) rfl #[.agg #[.int .i64 ((rd_T75 l0 x6_1).f0), .int .i64 ((rd_T75 l0 x6_1).f1), .int .i32 ((rd_T75 l0 x6_1).f2), .bool ((rd_T75 l0 x6_1).f3), .int .u8 ((rd_T75 l0 x6_1).f4)], .agg #[.int .i64 ((rd_T75 l1 x7_2).f0), .int .i64 ((rd_T75 l1 x7_2).f1), .int .i32 ((rd_T75 l1 x7_2).f2), .bool ((rd_T75 l1 x7_2).f3), .int .u8 ((rd_T75 l1 x7_2).f4)]] (by rfl) rfl rfl (by (try simp only [List.map_toArray, List.map_cons, List.map_nil]); first | done | rfl | (simp only [List.length_drop, List.length_take]; rfl)) ?_
          with_reducible refine (siglumref08_Same.calls ((rd_T75 l0 x6_1).f0) ((rd_T75 l0 x6_1).f1) ((rd_T75 l0 x6_1).f2) ((rd_T75 l0 x6_1).f3) ((rd_T75 l0 x6_1).f4) ((rd_T75 l1 x7_2).f0) ((rd_T75 l1 x7_2).f1) ((rd_T75 l1 x7_2).f2) ((rd_T75 l1 x7_2).f3) ((rd_T75 l1 x7_2).f4) true _ A51.out).mono ?_
          rintro e w58 ⟨rfl, hb⟩
          refine ⟨_, rfl, ?_⟩
          have n0_ := Aside0.mk (Kd.S_below (by (with_reducible repeat (first | apply Kd.S_alloc | apply Kd.S_drewN | apply Kd.S_drew)); exact HO_5.out) hb)
          have n1_ := Aside0.mk (Kd.R_below (by (with_reducible repeat (first | apply Kd.R_alloc | apply Kd.R_drewN | apply Kd.R_drew)); exact HL195_0.out) hb)
          have n2_ := Aside0.mk (Kd.R_below (by (with_reducible repeat (first | apply Kd.R_alloc | apply Kd.R_drewN | apply Kd.R_drew)); exact HL197_0.out) hb)
          have n3_ := Aside0.mk (Kd.R_below (by (with_reducible repeat (first | apply Kd.R_alloc | apply Kd.R_drewN | apply Kd.R_drew)); exact HL199_0.out) hb)
          have n4_ := Aside0.mk (Kd.C_below (by repeat (first | (with_reducible exact HR195_0.out) | (with_reducible refine Kd.C_alloc ?_ _) | (with_reducible refine Kd.C_drewN ?_ _) | (with_reducible refine Kd.C_drew ?_) | exact HR195_0.out)) hb)
          have n5_ := Aside0.mk (Kd.C_below (by repeat (first | (with_reducible exact HR197_0.out) | (with_reducible refine Kd.C_alloc ?_ _) | (with_reducible refine Kd.C_drewN ?_ _) | (with_reducible refine Kd.C_drew ?_) | exact HR197_0.out)) hb)
          have n6_ := Aside0.mk (Kd.C_below (by repeat (first | (with_reducible exact HR199_0.out) | (with_reducible refine Kd.C_alloc ?_ _) | (with_reducible refine Kd.C_drewN ?_ _) | (with_reducible refine Kd.C_drew ?_) | exact HR199_0.out)) hb)
          have n7_ := Aside0.mk (below_step (by repeat (first | (with_reducible first | exact HB.out | apply below_alloc | apply pw_below_drewN | apply below_drew1) | exact HB.out)) hb)
          clear HO_5
          clear HL195_0
          clear HL197_0
          clear HL199_0
          clear HR195_0
          clear HR197_0
          clear HR199_0
          clear HB
          have HO_5 := n0_
          have HL195_0 := n1_
          have HL197_0 := n2_
          have HL199_0 := n3_
          have HR195_0 := n4_
          have HR197_0 := n5_
          have HR199_0 := n6_
          have HB := n7_
          clear n0_ n1_ n2_ n3_ n4_ n5_ n6_ n7_
          (try clear hb); (try clear hb2); (try clear hk); (try clear hi)
          refine hK.out _ _ ⟨((HB.out.cell (World.block_lt_of_cell? w _ hw201_0)).trans hw201_0), ((HB.out.cell (World.block_lt_of_cell? w _ hw201_1)).trans hw201_1), ((HB.out.cell (World.block_lt_of_cell? w _ hw201_2)).trans hw201_2), ((HB.out.cell (World.block_lt_of_cell? w _ hw201_3)).trans hw201_3), ((HB.out.cell (World.block_lt_of_cell? w _ hw201_4)).trans hw201_4), ((HB.out.cell (World.block_lt_of_cell? w _ hw202_0)).trans hw202_0), ((HB.out.cell (World.block_lt_of_cell? w _ hw202_1)).trans hw202_1), ((HB.out.cell (World.block_lt_of_cell? w _ hw202_2)).trans hw202_2), ((HB.out.cell (World.block_lt_of_cell? w _ hw202_3)).trans hw202_3), ((HB.out.cell (World.block_lt_of_cell? w _ hw202_4)).trans hw202_4)⟩ (fun hHeld => ?_)
          clear hK K
          refine norm_ (a' := ?_) ?_ ?_
          rotate_left
          ·
           show Act.put _ (some 67) _ = _
           simp only [Act.put,List.setIfInBounds_toArray,List.set_cons_zero,List.set_cons_succ,i64_w,i32_w]
           rfl
          refine done_ (done_of HT_.out (by kernel_rfl)) ?_
          have p204 : 0 ≤ ((ji36) : Int) := of_decide_eq_true (by assumption)
          have q204 : (ji36) < (x5_2.length : Int) := of_decide_eq_true (by assumption)
          obtain ⟨ad204, A204_0, c204_0, e204, hx204_0, hl204_0, hi204_0⟩ := at_L7 (Kd.S_reads' HO_5.out).2.2 (ji36) p204 q204
          obtain rfl : (⟨go14, 0, none⟩ : Addr) = ad204 := (by injection e204)
          obtain ⟨ce204, hce204, hMe204, hcc204⟩ := Kd.S_get HO_5.out [] (ji36) p204 (by first | exact q204 | exact of_decide_eq_true (by assumption) | (have e_ := (Kd.S_reads' HO_5.out).1; omega))
          obtain ⟨ve204_0, rfl, ge204_0⟩ := hMe204
          have hv204_0 := hcc204 0 _ rfl
          rw [Nat.add_zero, show ((Kd.slice 3 (Kd.int .i64))).sz = 1 from rfl, Nat.mul_one] at hv204_0
          replace hv204_0 := Option.some.inj (hv204_0.symm.trans hx204_0)
          rw [hv204_0] at ge204_0
          have HL204_0 := Aside0.mk (show Kd.R (Kd.int .i64) 3 _ _ _ _ (rd_L7 x5_2 (ji36)) from ge204_0)
          clear hv204_0 ge204_0
          have HX204_0 := Aside0.mk hx204_0
          clear hcc204 hce204
          (first | simp only [add_plain] at hx204_0 | simp only [add_at] at hx204_0 | simp only [Addr.add, Nat.zero_add] at hx204_0 | skip)
          have HR204_0 := Aside0.mk hi204_0
          have HC204_0 := Aside0.mk hl204_0
          clear hi204_0 hl204_0
          replace p204 := eq_true p204
          replace q204 := eq_true q204
          have p205 : 0 ≤ ((ji43) : Int) := of_decide_eq_true (by assumption)
          have q205 : (ji43) < ((rd_L7 x5_2 (ji36)).length : Int) := of_decide_eq_true (by assumption)
          obtain ⟨ad205, e205, hx205_0⟩ := Kd.at_int (by repeat (first | (with_reducible exact HR204_0.out) | (with_reducible refine Kd.C_alloc ?_ _) | (with_reducible refine Kd.C_drewN ?_ _) | (with_reducible refine Kd.C_drew ?_) | exact HR204_0.out)) (ji43) p205 q205
          cases e205
          replace p205 := eq_true p205
          replace q205 := eq_true q205
          have p206 : 0 ≤ (x6_1 : Int) := of_decide_eq_true (by assumption)
          have q206 : x6_1 < (x5_2.length : Int) := of_decide_eq_true (by assumption)
          obtain ⟨ad206, A206_0, c206_0, e206, hx206_0, hl206_0, hi206_0⟩ := at_L7 (Kd.S_reads' HO_5.out).2.2 x6_1 p206 q206
          obtain rfl : (⟨go14, 0, none⟩ : Addr) = ad206 := (by injection e206)
          obtain ⟨ce206, hce206, hMe206, hcc206⟩ := Kd.S_get HO_5.out [] x6_1 p206 (by first | exact q206 | exact of_decide_eq_true (by assumption) | (have e_ := (Kd.S_reads' HO_5.out).1; omega))
          obtain ⟨ve206_0, rfl, ge206_0⟩ := hMe206
          have hv206_0 := hcc206 0 _ rfl
          rw [Nat.add_zero, show ((Kd.slice 3 (Kd.int .i64))).sz = 1 from rfl, Nat.mul_one] at hv206_0
          replace hv206_0 := Option.some.inj (hv206_0.symm.trans hx206_0)
          rw [hv206_0] at ge206_0
          have HL206_0 := Aside0.mk (show Kd.R (Kd.int .i64) 3 _ _ _ _ (rd_L7 x5_2 x6_1) from ge206_0)
          clear hv206_0 ge206_0
          have HX206_0 := Aside0.mk hx206_0
          clear hcc206 hce206
          (first | simp only [add_plain] at hx206_0 | simp only [add_at] at hx206_0 | simp only [Addr.add, Nat.zero_add] at hx206_0 | skip)
          have HR206_0 := Aside0.mk hi206_0
          have HC206_0 := Aside0.mk hl206_0
          clear hi206_0 hl206_0
          replace p206 := eq_true p206
          replace q206 := eq_true q206
          have p55 : 0 ≤ (x7_2 : Int) := of_decide_eq_true (by assumption)
          have q55 : (x7_2 : Int) < (((rd_L7 x5_2 x6_1).length : Int) : Int) := of_decide_eq_true (by assumption)
          obtain ⟨go55, co55, eo55, gb55, gl55, cl55, HG55⟩ := Kd.R_form HL206_0.out (by omega)
          (first | cases eo55 | (injection eo55 with ea_ en_ ec_; (first | subst ea_ | (injection ea_ with ea_; subst ea_)); subst ec_; clear en_))
          have GB55 := Aside0.mk gb55
          have GG55 := Aside0.mk HG55
          clear gb55 gl55 HG55
          obtain ⟨hx55_0, hf55_0⟩ := Kd.R_celln 0 HL206_0.out (x7_2 : Int) p55 q55
          replace p55 := eq_true p55
          replace q55 := eq_true q55
          have hq59 : (x6_1 : Int) < (x5_2.length : Int) := (by have h_ : (x6_1 : Int) < ((x5_2.length : Int) : Int) := of_decide_eq_true (by assumption); first | exact h_ | (have e_ := (Kd.S_reads' HO_5.out).1; omega) | simpa only [List.length_set, List.length_set] using h_)
          obtain ⟨oki59, ce59, hcl59, hM59, hcc59, hok59, hbk59⟩ := Kd.S_borrow HO_5.out [] (x6_1 : Int) (of_decide_eq_true (by assumption)) hq59
          obtain ⟨ve59_0, rfl, ge59_0⟩ := hM59
          have hv59 := hcc59 0 _ rfl
          rw [Nat.add_zero, show ((Kd.slice 3 (Kd.int .i64))).sz = 1 from rfl, Nat.mul_one] at hv59
          replace hv59 := Option.some.inj (hv59.symm.trans HX206_0.out)
          subst hv59
          clear hcc59 hcl59
          replace ge59_0 := (show Kd.R (Kd.int .i64) 3 _ _ _ _ (rd_L7 x5_2 x6_1) from ge59_0)
          have HP59 := Kd.R_putg ge59_0 (x7_2 : Int) ji53
          try go_wp2_with (first | ((with_reducible refine gate_store (t := 3) (p := 85) rfl ?_); refine store_event (t := 3) (p := 85) (v := ?vo_w60) (w1 := (w58.setCell ⟨go55, (x7_2 : Int).toNat, none⟩ (.int .i64 ji53))) ?hg ?ho ?hn ?hr ?_; (case ho => rfl); (case hg => rfl); (case hn => rfl); (case hr => first | (go_simp; done) | (go_simp; rfl)); intro w60 hw; have hg : w58.grownBy w60 (some go55) := (by rw [hw]; exact HP59.2); have hz_ : Kd.R (Kd.int .i64) 3 w60 w.heap.size oki59 (.slice (some ⟨go55, 0, none⟩) (rd_L7 x5_2 x6_1).length c206_0) y207 := (by rw [hw, Ny207.out]; exact HP59.1); have hp_ : Kd.S (Kd.slice 3 (Kd.int .i64)) 68 w60 w.heap.size (fun _ => True) (.slice (some ⟨go14, 0, none⟩) x5_2.length co14) y209 := (by rw [Ny209.out]; exact hbk59 hg (fun k_ e_ => by injection e_ with e_; subst e_; exact ge59_0.1 _ rfl) (Kd.M_row hz_)); have hm_ := Kd.R_mono hz_ hok59; clear HP59 hbk59; have n0_ := Aside0.mk (hp_); have n1_ := Aside0.mk ((by rw [hw]; exact below_set (HB.out) GB55.out : Below w.heap.size w w60)); have n2_ := Aside0.mk (hm_); have n3_ := Aside0.mk ((Kd.R_reads' hm_).2.1); clear HO_5; clear HB; clear HL195_0; clear HL197_0; clear HL199_0; clear HL204_0; clear HL206_0; have HO_5 := n0_; have HB := n1_; have HL216 := n2_; have HC208 := n3_; clear n0_ n1_ n2_ n3_; clear hg hw hp_ hz_ hm_ hok59))
          (try simp only [← hl5_2])
          go_roundg k2
          case measure => have := HK1.out; have := HK2.out; omega
          case rel => exact ⟨(y209), (wrap64 (x7_2 - 1)), (by first | rfl | (simp; done) | (simp [*]; done)), H', ⟨by have := HK1.out; have := HK2.out; omega⟩, ⟨by (try simp only [hl5_2]); (with_reducible repeat (first | apply Kd.S_alloc | apply Kd.S_drewN | apply Kd.S_drew)); exact HO_5.out⟩, ⟨by repeat (first | (with_reducible first | exact HB.out | apply below_alloc | apply pw_below_drewN | apply below_drew1) | exact HB.out)⟩⟩
         ·
          replace c52 := Bool.eq_false_iff.mpr c52
          subst c52
          have H1 : (if x7_2 < ((rd_L7 x5_2 x6_1).length : Int) then (siglumref08_rests.l1 k2 l0 l1 (x5_2.set (x6_1 : Int).toNat ((rd_L7 x5_2 x6_1).set (x7_2 : Int).toNat (wrap64 ((ji48) + 1)))) x6_1 (wrap64 (x7_2 - 1))) else (none)) = some r := by rw [if_neg (show ¬ (false = true) by decide)] at H; exact H
          clear H
          have H := H1
          clear H1
          by_cases c61 : x7_2 < ((rd_L7 x5_2 x6_1).length : Int)
          rotate_left
          · rw [if_neg c61] at H; exact absurd H (by simp)
          rw [if_pos c61] at H
          have c61b0 : decide (x7_2 < ((rd_L7 x5_2 x6_1).length : Int)) = true := decide_eq_true c61
          clear c61
          obtain ⟨y211, hy211⟩ : ∃ y_ : List Int, y_ = ((rd_L7 x5_2 x6_1).set (x7_2 : Int).toNat (wrap64 ((ji48) + 1))) := ⟨_, rfl⟩
          replace H : (siglumref08_rests.l1 k2 l0 l1 (x5_2.set (x6_1 : Int).toNat y211) x6_1 (wrap64 (x7_2 - 1))) = some r := by first | (rw [hy211]; with_reducible exact H) | (have H2_ := (Option.bind_some _ _).symm.trans H; rw [hy211]; with_reducible exact H2_) | (have H2_ := (Option.bind_some _ _).symm.trans H; with_reducible exact H2_) | with_reducible exact H | (rw [hy211]; exact H) | exact H
          have Ny211 := Aside0.mk hy211
          clear hy211
          obtain ⟨y213, hy213⟩ : ∃ y_ : List (List Int), y_ = (x5_2.set (x6_1 : Int).toNat y211) := ⟨_, rfl⟩
          replace H : (siglumref08_rests.l1 k2 l0 l1 y213 x6_1 (wrap64 (x7_2 - 1))) = some r := by first | (rw [hy213]; with_reducible exact H) | (have H2_ := (Option.bind_some _ _).symm.trans H; rw [hy213]; with_reducible exact H2_) | (have H2_ := (Option.bind_some _ _).symm.trans H; with_reducible exact H2_) | with_reducible exact H | (rw [hy213]; exact H) | exact H
          have Ny213 := Aside0.mk hy213
          clear hy213
          have H' := Aside0.mk H
          clear H
          try go_wp2
          have n0_ := Aside0.mk (Kd.S_drew HO_5.out)
          have n1_ := Aside0.mk (below_drew1 HB.out)
          clear HO_5
          clear HB
          have HO_5 := n0_
          have HB := n1_
          clear n0_ n1_
          have p195 : 0 ≤ ((ji36) : Int) := of_decide_eq_true (by assumption)
          have q195 : (ji36) < (x5_2.length : Int) := of_decide_eq_true (by assumption)
          obtain ⟨ad195, A195_0, c195_0, e195, hx195_0, hl195_0, hi195_0⟩ := at_L7 (Kd.S_reads' HO_5.out).2.2 (ji36) p195 q195
          obtain rfl : (⟨go14, 0, none⟩ : Addr) = ad195 := (by injection e195)
          obtain ⟨ce195, hce195, hMe195, hcc195⟩ := Kd.S_get HO_5.out [] (ji36) p195 (by first | exact q195 | exact of_decide_eq_true (by assumption) | (have e_ := (Kd.S_reads' HO_5.out).1; omega))
          obtain ⟨ve195_0, rfl, ge195_0⟩ := hMe195
          have hv195_0 := hcc195 0 _ rfl
          rw [Nat.add_zero, show ((Kd.slice 3 (Kd.int .i64))).sz = 1 from rfl, Nat.mul_one] at hv195_0
          replace hv195_0 := Option.some.inj (hv195_0.symm.trans hx195_0)
          rw [hv195_0] at ge195_0
          have HL195_0 := Aside0.mk (show Kd.R (Kd.int .i64) 3 _ _ _ _ (rd_L7 x5_2 (ji36)) from ge195_0)
          clear hv195_0 ge195_0
          have HX195_0 := Aside0.mk hx195_0
          clear hcc195 hce195
          (first | simp only [add_plain] at hx195_0 | simp only [add_at] at hx195_0 | simp only [Addr.add, Nat.zero_add] at hx195_0 | skip)
          have HR195_0 := Aside0.mk hi195_0
          have HC195_0 := Aside0.mk hl195_0
          clear hi195_0 hl195_0
          replace p195 := eq_true p195
          replace q195 := eq_true q195
          have p196 : 0 ≤ (x7_2 : Int) := of_decide_eq_true (by assumption)
          have q196 : x7_2 < ((rd_L7 x5_2 (ji36)).length : Int) := of_decide_eq_true (by assumption)
          obtain ⟨ad196, e196, hx196_0⟩ := Kd.at_int (by repeat (first | (with_reducible exact HR195_0.out) | (with_reducible refine Kd.C_alloc ?_ _) | (with_reducible refine Kd.C_drewN ?_ _) | (with_reducible refine Kd.C_drew ?_) | exact HR195_0.out)) x7_2 p196 q196
          cases e196
          replace p196 := eq_true p196
          replace q196 := eq_true q196
          have p197 : 0 ≤ (x6_1 : Int) := of_decide_eq_true (by assumption)
          have q197 : x6_1 < (x5_2.length : Int) := of_decide_eq_true (by assumption)
          obtain ⟨ad197, A197_0, c197_0, e197, hx197_0, hl197_0, hi197_0⟩ := at_L7 (Kd.S_reads' HO_5.out).2.2 x6_1 p197 q197
          obtain rfl : (⟨go14, 0, none⟩ : Addr) = ad197 := (by injection e197)
          obtain ⟨ce197, hce197, hMe197, hcc197⟩ := Kd.S_get HO_5.out [] x6_1 p197 (by first | exact q197 | exact of_decide_eq_true (by assumption) | (have e_ := (Kd.S_reads' HO_5.out).1; omega))
          obtain ⟨ve197_0, rfl, ge197_0⟩ := hMe197
          have hv197_0 := hcc197 0 _ rfl
          rw [Nat.add_zero, show ((Kd.slice 3 (Kd.int .i64))).sz = 1 from rfl, Nat.mul_one] at hv197_0
          replace hv197_0 := Option.some.inj (hv197_0.symm.trans hx197_0)
          rw [hv197_0] at ge197_0
          have HL197_0 := Aside0.mk (show Kd.R (Kd.int .i64) 3 _ _ _ _ (rd_L7 x5_2 x6_1) from ge197_0)
          clear hv197_0 ge197_0
          have HX197_0 := Aside0.mk hx197_0
          clear hcc197 hce197
          (first | simp only [add_plain] at hx197_0 | simp only [add_at] at hx197_0 | simp only [Addr.add, Nat.zero_add] at hx197_0 | skip)
          have HR197_0 := Aside0.mk hi197_0
          have HC197_0 := Aside0.mk hl197_0
          clear hi197_0 hl197_0
          replace p197 := eq_true p197
          replace q197 := eq_true q197
          have p198 : 0 ≤ ((ji43) : Int) := of_decide_eq_true (by assumption)
          have q198 : (ji43) < ((rd_L7 x5_2 x6_1).length : Int) := of_decide_eq_true (by assumption)
          obtain ⟨ad198, e198, hx198_0⟩ := Kd.at_int (by repeat (first | (with_reducible exact HR197_0.out) | (with_reducible refine Kd.C_alloc ?_ _) | (with_reducible refine Kd.C_drewN ?_ _) | (with_reducible refine Kd.C_drew ?_) | exact HR197_0.out)) (ji43) p198 q198
          cases e198
          replace p198 := eq_true p198
          replace q198 := eq_true q198
          have p199 : 0 ≤ ((ji36) : Int) := of_decide_eq_true (by assumption)
          have q199 : (ji36) < (x5_2.length : Int) := of_decide_eq_true (by assumption)
          obtain ⟨ad199, A199_0, c199_0, e199, hx199_0, hl199_0, hi199_0⟩ := at_L7 (Kd.S_reads' HO_5.out).2.2 (ji36) p199 q199
          obtain rfl : (⟨go14, 0, none⟩ : Addr) = ad199 := (by injection e199)
          obtain ⟨ce199, hce199, hMe199, hcc199⟩ := Kd.S_get HO_5.out [] (ji36) p199 (by first | exact q199 | exact of_decide_eq_true (by assumption) | (have e_ := (Kd.S_reads' HO_5.out).1; omega))
          obtain ⟨ve199_0, rfl, ge199_0⟩ := hMe199
          have hv199_0 := hcc199 0 _ rfl
          rw [Nat.add_zero, show ((Kd.slice 3 (Kd.int .i64))).sz = 1 from rfl, Nat.mul_one] at hv199_0
          replace hv199_0 := Option.some.inj (hv199_0.symm.trans hx199_0)
          rw [hv199_0] at ge199_0
          have HL199_0 := Aside0.mk (show Kd.R (Kd.int .i64) 3 _ _ _ _ (rd_L7 x5_2 (ji36)) from ge199_0)
          clear hv199_0 ge199_0
          have HX199_0 := Aside0.mk hx199_0
          clear hcc199 hce199
          (first | simp only [add_plain] at hx199_0 | simp only [add_at] at hx199_0 | simp only [Addr.add, Nat.zero_add] at hx199_0 | skip)
          have HR199_0 := Aside0.mk hi199_0
          have HC199_0 := Aside0.mk hl199_0
          clear hi199_0 hl199_0
          replace p199 := eq_true p199
          replace q199 := eq_true q199
          have ea_ := Option.some.inj (hx195_0.symm.trans hx199_0)
          injection ea_ with ea_ en_ ec_
          subst ea_
          subst ec_
          clear en_
          have p200 : 0 ≤ ((ji43) : Int) := of_decide_eq_true (by assumption)
          have q200 : (ji43) < ((rd_L7 x5_2 (ji36)).length : Int) := of_decide_eq_true (by assumption)
          obtain ⟨ad200, e200, hx200_0⟩ := Kd.at_int (by repeat (first | (with_reducible exact HR199_0.out) | (with_reducible refine Kd.C_alloc ?_ _) | (with_reducible refine Kd.C_drewN ?_ _) | (with_reducible refine Kd.C_drew ?_) | exact HR199_0.out)) (ji43) p200 q200
          cases e200
          replace p200 := eq_true p200
          replace q200 := eq_true q200
          refine start_ (n := 28) (S := fun w' => w'.cell? ⟨go14, ((ji36)).toNat, none⟩ = some (.slice (some ad196) (rd_L7 x5_2 (ji36)).length c195_0) ∧ w'.cell? (ad196.add (x7_2).toNat) = some (.int .i64 (rd (rd_L7 x5_2 (ji36)) x7_2)) ∧ w'.cell? ⟨go14, (x6_1).toNat, none⟩ = some (.slice (some ad198) (rd_L7 x5_2 x6_1).length c197_0) ∧ w'.cell? (ad198.add ((ji43)).toNat) = some (.int .i64 (rd (rd_L7 x5_2 x6_1) (ji43))) ∧ w'.cell? ⟨go14, ((ji36)).toNat, none⟩ = some (.slice (some ad196) (rd_L7 x5_2 (ji36)).length c195_0) ∧ w'.cell? (ad196.add ((ji43)).toNat) = some (.int .i64 (rd (rd_L7 x5_2 (ji36)) (ji43)))) (ds := []) #[false,false,false,false,false,false,false,false,false,false,false,false,false,false,false,false,false,false,false,false,false,false,false,false,false,false,false,false] (by kernel_rfl) rfl rfl ⟨hx195_0, hx196_0, hx197_0, hx198_0, hx199_0, hx200_0⟩ (fun hHeld => ?_); refine with_tabW siglumref08_rests.tab9 siglumref08_rests.bits9 (fun HT_ HW_ => ?_)
          generalize wr.drew = w63 at HO_5 HB HL195_0 HL197_0 HL199_0 HR195_0 HR197_0 HR199_0 HX195_0 HX197_0 HX199_0 hx195_0 hx196_0 hx197_0 hx198_0 hx199_0 hx200_0 hHeld ⊢
          refine pure_ (i := 0) (N := some 32) (v := ?_) (a' := ?_) #[true,false,false,false,false,false,false,false,false,false,false,false,false,false,false,false,false,false,false,false,false,false,false,false,false,false,false,false] rfl rfl (any_of HT_.out (by kernel_rfl)) (fun _ _ _ h => h) (Or.inl ⟨by rfl, ?_⟩) ?_ ?_; rotate_left; (· intro w'; go_simp; with_reducible rfl); rotate_left; (· simp only [Act.put,List.setIfInBounds_toArray,List.set_cons_zero,List.set_cons_succ,i64_w,i32_w]; rfl)
          refine pure_ (i := 1) (N := some 33) (v := ?_) (a' := ?_) #[true,true,false,false,false,false,false,false,false,false,false,false,false,false,false,false,false,false,false,false,false,false,false,false,false,false,false,false] rfl rfl (any_of HT_.out (by kernel_rfl)) (fun _ _ _ h => h) (Or.inl ⟨by rfl, ?_⟩) ?_ ?_; rotate_left; (· intro w'; go_simp; with_reducible rfl); rotate_left; (· simp only [Act.put,List.setIfInBounds_toArray,List.set_cons_zero,List.set_cons_succ,i64_w,i32_w]; rfl)
          refine pure_ (i := 2) (N := some 34) (v := ?_) (a' := ?_) #[true,true,true,false,false,false,false,false,false,false,false,false,false,false,false,false,false,false,false,false,false,false,false,false,false,false,false,false] rfl rfl (any_of HT_.out (by kernel_rfl)) (fun _ _ _ h => h) (Or.inl ⟨by rfl, ?_⟩) ?_ ?_; rotate_left; (· intro w'; go_simp; with_reducible rfl); rotate_left; (· simp only [Act.put,List.setIfInBounds_toArray,List.set_cons_zero,List.set_cons_succ,i64_w,i32_w]; rfl)
          refine pure_ (i := 3) (N := some 35) (v := ?_) (a' := ?_) #[true,true,true,true,false,false,false,false,false,false,false,false,false,false,false,false,false,false,false,false,false,false,false,false,false,false,false,false] rfl rfl (any_of HT_.out (by kernel_rfl)) (fun _ _ _ h => h) (Or.inl ⟨by rfl, ?_⟩) ?_ ?_; rotate_left; (· intro w'; go_simp; with_reducible rfl); rotate_left; (· simp only [Act.put,List.setIfInBounds_toArray,List.set_cons_zero,List.set_cons_succ,i64_w,i32_w]; rfl)
          refine pure_ (i := 5) (N := some 37) (v := ?_) (a' := ?_) #[true,true,true,true,false,true,false,false,false,false,false,false,false,false,false,false,false,false,false,false,false,false,false,false,false,false,false,false] rfl rfl (any_of HT_.out (by kernel_rfl)) (fun _ _ _ h => h) (Or.inl ⟨by rfl, ?_⟩) ?_ ?_; rotate_left; (· intro w'; go_simp; with_reducible rfl); rotate_left; (· simp only [Act.put,List.setIfInBounds_toArray,List.set_cons_zero,List.set_cons_succ,i64_w,i32_w]; rfl)
          refine pure_ (i := 8) (N := some 40) (v := ?_) (a' := ?_) #[true,true,true,true,false,true,false,false,true,false,false,false,false,false,false,false,false,false,false,false,false,false,false,false,false,false,false,false] rfl rfl (any_of HT_.out (by kernel_rfl)) (fun _ _ _ h => h) (Or.inl ⟨by rfl, ?_⟩) ?_ ?_; rotate_left; (· intro w'; go_simp; with_reducible rfl); rotate_left; (· simp only [Act.put,List.setIfInBounds_toArray,List.set_cons_zero,List.set_cons_succ,i64_w,i32_w]; rfl)
          refine pure_ (i := 9) (N := some 41) (v := ?_) (a' := ?_) #[true,true,true,true,false,true,false,false,true,true,false,false,false,false,false,false,false,false,false,false,false,false,false,false,false,false,false,false] rfl rfl (any_of HT_.out (by kernel_rfl)) (fun _ _ _ h => h) (Or.inl ⟨by rfl, ?_⟩) ?_ ?_; rotate_left; (· intro w'; go_simp; with_reducible rfl); rotate_left; (· simp only [Act.put,List.setIfInBounds_toArray,List.set_cons_zero,List.set_cons_succ,i64_w,i32_w]; rfl)
          refine pure_ (i := 10) (N := some 42) (v := ?_) (a' := ?_) #[true,true,true,true,false,true,false,false,true,true,true,false,false,false,false,false,false,false,false,false,false,false,false,false,false,false,false,false] rfl rfl (any_of HT_.out (by kernel_rfl)) (fun _ _ _ h => h) (Or.inl ⟨by rfl, ?_⟩) ?_ ?_; rotate_left; (· intro w'; go_simp; with_reducible rfl); rotate_left; (· simp only [Act.put,List.setIfInBounds_toArray,List.set_cons_zero,List.set_cons_succ,i64_w,i32_w]; rfl)
          refine pure_ (i := 12) (N := some 44) (v := ?_) (a' := ?_) #[true,true,true,true,false,true,false,false,true,true,true,false,true,false,false,false,false,false,false,false,false,false,false,false,false,false,false,false] rfl rfl (any_of HT_.out (by kernel_rfl)) (fun _ _ _ h => h) (Or.inl ⟨by rfl, ?_⟩) ?_ ?_; rotate_left; (· intro w'; go_simp; with_reducible rfl); rotate_left; (· simp only [Act.put,List.setIfInBounds_toArray,List.set_cons_zero,List.set_cons_succ,i64_w,i32_w]; rfl)
          refine pure_ (i := 13) (N := some 45) (v := ?_) (a' := ?_) #[true,true,true,true,false,true,false,false,true,true,true,false,true,true,false,false,false,false,false,false,false,false,false,false,false,false,false,false] rfl rfl (any_of HT_.out (by kernel_rfl)) (fun _ _ _ h => h) (Or.inl ⟨by rfl, ?_⟩) ?_ ?_; rotate_left; (· intro w'; go_simp; with_reducible rfl); rotate_left; (· simp only [Act.put,List.setIfInBounds_toArray,List.set_cons_zero,List.set_cons_succ,i64_w,i32_w]; rfl)
          refine pure_ (i := 16) (N := some 48) (v := ?_) (a' := ?_) #[true,true,true,true,false,true,false,false,true,true,true,false,true,true,false,false,true,false,false,false,false,false,false,false,false,false,false,false] rfl rfl (any_of HT_.out (by kernel_rfl)) (fun _ _ _ h => h) (Or.inl ⟨by rfl, ?_⟩) ?_ ?_; rotate_left; (· intro w'; go_simp; with_reducible rfl); rotate_left; (· simp only [Act.put,List.setIfInBounds_toArray,List.set_cons_zero,List.set_cons_succ,i64_w,i32_w]; rfl)
          refine pure_ (i := 17) (N := some 49) (v := ?_) (a' := ?_) #[true,true,true,true,false,true,false,false,true,true,true,false,true,true,false,false,true,true,false,false,false,false,false,false,false,false,false,false] rfl rfl (any_of HT_.out (by kernel_rfl)) (fun _ _ _ h => h) (Or.inl ⟨by rfl, ?_⟩) ?_ ?_; rotate_left; (· intro w'; go_simp; with_reducible rfl); rotate_left; (· simp only [Act.put,List.setIfInBounds_toArray,List.set_cons_zero,List.set_cons_succ,i64_w,i32_w]; rfl)
          refine pure_ (i := 18) (N := some 50) (v := ?_) (a' := ?_) #[true,true,true,true,false,true,false,false,true,true,true,false,true,true,false,false,true,true,true,false,false,false,false,false,false,false,false,false] rfl rfl (any_of HT_.out (by kernel_rfl)) (fun _ _ _ h => h) (Or.inl ⟨by rfl, ?_⟩) ?_ ?_; rotate_left; (· intro w'; go_simp; with_reducible rfl); rotate_left; (· simp only [Act.put,List.setIfInBounds_toArray,List.set_cons_zero,List.set_cons_succ,i64_w,i32_w]; rfl)
          refine pure_ (i := 19) (N := some 51) (v := ?_) (a' := ?_) #[true,true,true,true,false,true,false,false,true,true,true,false,true,true,false,false,true,true,true,true,false,false,false,false,false,false,false,false] rfl rfl (any_of HT_.out (by kernel_rfl)) (fun _ _ _ h => h) (Or.inl ⟨by rfl, ?_⟩) ?_ ?_; rotate_left; (· intro w'; go_simp; with_reducible rfl); rotate_left; (· simp only [Act.put,List.setIfInBounds_toArray,List.set_cons_zero,List.set_cons_succ,i64_w,i32_w]; rfl)
          refine pure_ (i := 21) (N := some 53) (v := ?_) (a' := ?_) #[true,true,true,true,false,true,false,false,true,true,true,false,true,true,false,false,true,true,true,true,false,true,false,false,false,false,false,false] rfl rfl (any_of HT_.out (by kernel_rfl)) (fun _ _ _ h => h) (Or.inl ⟨by rfl, ?_⟩) ?_ ?_; rotate_left; (· intro w'; go_simp; with_reducible rfl); rotate_left; (· simp only [Act.put,List.setIfInBounds_toArray,List.set_cons_zero,List.set_cons_succ,i64_w,i32_w]; rfl)
          refine pure_ (i := 22) (N := some 54) (v := ?_) (a' := ?_) #[true,true,true,true,false,true,false,false,true,true,true,false,true,true,false,false,true,true,true,true,false,true,true,false,false,false,false,false] rfl rfl (any_of HT_.out (by kernel_rfl)) (fun _ _ _ h => h) (Or.inl ⟨by rfl, ?_⟩) ?_ ?_; rotate_left; (· intro w'; go_simp; with_reducible rfl); rotate_left; (· simp only [Act.put,List.setIfInBounds_toArray,List.set_cons_zero,List.set_cons_succ,i64_w,i32_w]; rfl)
          refine take_ (i := 4) (N := some 36) (v := ?_) (a' := ?_) #[true,true,true,true,true,true,false,false,true,true,true,false,true,true,false,false,true,true,true,true,false,true,true,false,false,false,false,false] rfl rfl (take_ofW HT_.out HW_.out (by kernel_rfl)) (fun _ _ _ h => h) (Or.inl ⟨by rfl, ?_⟩) hHeld ?_ ?_; rotate_left; (· rintro w' ⟨s0, s1, s2, s3, s4, s5⟩; go_simp; with_reducible rfl); rotate_left; (· simp only [Act.put,List.setIfInBounds_toArray,List.set_cons_zero,List.set_cons_succ,i64_w,i32_w]; rfl)
          refine pure_ (i := 6) (N := some 38) (v := ?_) (a' := ?_) #[true,true,true,true,true,true,true,false,true,true,true,false,true,true,false,false,true,true,true,true,false,true,true,false,false,false,false,false] rfl rfl (any_of HT_.out (by kernel_rfl)) (fun _ _ _ h => h) (Or.inl ⟨by rfl, ?_⟩) ?_ ?_; rotate_left; (· intro w'; go_simp; with_reducible rfl); rotate_left; (· simp only [Act.put,List.setIfInBounds_toArray,List.set_cons_zero,List.set_cons_succ,i64_w,i32_w]; rfl)
          refine take_ (i := 7) (N := some 39) (v := ?_) (a' := ?_) #[true,true,true,true,true,true,true,true,true,true,true,false,true,true,false,false,true,true,true,true,false,true,true,false,false,false,false,false] rfl rfl (take_ofW HT_.out HW_.out (by kernel_rfl)) (fun _ _ _ h => h) (Or.inl ⟨by rfl, ?_⟩) hHeld ?_ ?_; rotate_left; (· rintro w' ⟨s0, s1, s2, s3, s4, s5⟩; go_simp; with_reducible rfl); rotate_left; (· simp only [Act.put,List.setIfInBounds_toArray,List.set_cons_zero,List.set_cons_succ,i64_w,i32_w]; rfl)
          refine take_ (i := 11) (N := some 43) (v := ?_) (a' := ?_) #[true,true,true,true,true,true,true,true,true,true,true,true,true,true,false,false,true,true,true,true,false,true,true,false,false,false,false,false] rfl rfl (take_ofW HT_.out HW_.out (by kernel_rfl)) (fun _ _ _ h => h) (Or.inl ⟨by rfl, ?_⟩) hHeld ?_ ?_; rotate_left; (· rintro w' ⟨s0, s1, s2, s3, s4, s5⟩; go_simp; with_reducible rfl); rotate_left; (· simp only [Act.put,List.setIfInBounds_toArray,List.set_cons_zero,List.set_cons_succ,i64_w,i32_w]; rfl)
          refine pure_ (i := 14) (N := some 46) (v := ?_) (a' := ?_) #[true,true,true,true,true,true,true,true,true,true,true,true,true,true,true,false,true,true,true,true,false,true,true,false,false,false,false,false] rfl rfl (any_of HT_.out (by kernel_rfl)) (fun _ _ _ h => h) (Or.inl ⟨by rfl, ?_⟩) ?_ ?_; rotate_left; (· intro w'; go_simp; with_reducible rfl); rotate_left; (· simp only [Act.put,List.setIfInBounds_toArray,List.set_cons_zero,List.set_cons_succ,i64_w,i32_w]; rfl)
          refine take_ (i := 15) (N := some 47) (v := ?_) (a' := ?_) #[true,true,true,true,true,true,true,true,true,true,true,true,true,true,true,true,true,true,true,true,false,true,true,false,false,false,false,false] rfl rfl (take_ofW HT_.out HW_.out (by kernel_rfl)) (fun _ _ _ h => h) (Or.inl ⟨by rfl, ?_⟩) hHeld ?_ ?_; rotate_left; (· rintro w' ⟨s0, s1, s2, s3, s4, s5⟩; go_simp; with_reducible rfl); rotate_left; (· simp only [Act.put,List.setIfInBounds_toArray,List.set_cons_zero,List.set_cons_succ,i64_w,i32_w]; rfl)
          refine take_ (i := 20) (N := some 52) (v := ?_) (a' := ?_) #[true,true,true,true,true,true,true,true,true,true,true,true,true,true,true,true,true,true,true,true,true,true,true,false,false,false,false,false] rfl rfl (take_ofW HT_.out HW_.out (by kernel_rfl)) (fun _ _ _ h => h) (Or.inl ⟨by rfl, ?_⟩) hHeld ?_ ?_; rotate_left; (· rintro w' ⟨s0, s1, s2, s3, s4, s5⟩; go_simp; with_reducible rfl); rotate_left; (· simp only [Act.put,List.setIfInBounds_toArray,List.set_cons_zero,List.set_cons_succ,i64_w,i32_w]; rfl)
          refine pure_ (i := 23) (N := some 55) (v := ?_) (a' := ?_) #[true,true,true,true,true,true,true,true,true,true,true,true,true,true,true,true,true,true,true,true,true,true,true,true,false,false,false,false] rfl rfl (any_of HT_.out (by kernel_rfl)) (fun _ _ _ h => h) (Or.inl ⟨by rfl, ?_⟩) ?_ ?_; rotate_left; (· intro w'; go_simp; with_reducible rfl); rotate_left; (· simp only [Act.put,List.setIfInBounds_toArray,List.set_cons_zero,List.set_cons_succ,i64_w,i32_w]; rfl)
          refine take_ (i := 24) (N := some 56) (v := ?_) (a' := ?_) #[true,true,true,true,true,true,true,true,true,true,true,true,true,true,true,true,true,true,true,true,true,true,true,true,true,false,false,false] rfl rfl (take_ofW HT_.out HW_.out (by kernel_rfl)) (fun _ _ _ h => h) (Or.inl ⟨by rfl, ?_⟩) hHeld ?_ ?_; rotate_left; (· rintro w' ⟨s0, s1, s2, s3, s4, s5⟩; go_simp; with_reducible rfl); rotate_left; (· simp only [Act.put,List.setIfInBounds_toArray,List.set_cons_zero,List.set_cons_succ,i64_w,i32_w]; rfl)
          refine pure_ (i := 25) (N := some 57) (v := ?_) (a' := ?_) #[true,true,true,true,true,true,true,true,true,true,true,true,true,true,true,true,true,true,true,true,true,true,true,true,true,true,false,false] rfl rfl (any_of HT_.out (by kernel_rfl)) (fun _ _ _ h => h) (Or.inl ⟨by rfl, ?_⟩) ?_ ?_; rotate_left; (· intro w'; go_simp; with_reducible rfl); rotate_left; (· simp only [Act.put,List.setIfInBounds_toArray,List.set_cons_zero,List.set_cons_succ,i64_w,i32_w]; rfl)
          refine pure_ (i := 26) (N := some 58) (v := ?_) (a' := ?_) #[true,true,true,true,true,true,true,true,true,true,true,true,true,true,true,true,true,true,true,true,true,true,true,true,true,true,true,false] rfl rfl (any_of HT_.out (by kernel_rfl)) (fun _ _ _ h => h) (Or.inl ⟨by rfl, ?_⟩) ?_ ?_; rotate_left; (· intro w'; go_simp; with_reducible rfl); rotate_left; (· simp only [Act.put,List.setIfInBounds_toArray,List.set_cons_zero,List.set_cons_succ,i64_w,i32_w]; rfl)
          refine pure_ (i := 27) (N := some 8) (v := ?_) (a' := ?_) #[true,true,true,true,true,true,true,true,true,true,true,true,true,true,true,true,true,true,true,true,true,true,true,true,true,true,true,true] rfl rfl (any_of HT_.out (by kernel_rfl)) (fun _ _ _ h => h) (Or.inl ⟨by rfl, ?_⟩) ?_ ?_; rotate_left; (· intro w'; go_simp; with_reducible rfl); rotate_left; (· simp only [Act.put,List.setIfInBounds_toArray,List.set_cons_zero,List.set_cons_succ,i64_w,i32_w]; rfl)
          refine done_ (done_of HT_.out (by kernel_rfl)) ?_
          try go_wp2
          have n0_ := Aside0.mk (Kd.S_drew HO_5.out)
          have n1_ := Aside0.mk (Kd.R_drew HL195_0.out)
          have n2_ := Aside0.mk (Kd.R_drew HL197_0.out)
          have n3_ := Aside0.mk (Kd.R_drew HL199_0.out)
          have n4_ := Aside0.mk (Kd.C_drew HR195_0.out)
          have n5_ := Aside0.mk (Kd.C_drew HR197_0.out)
          have n6_ := Aside0.mk (Kd.C_drew HR199_0.out)
          have n7_ := Aside0.mk (below_drew1 HB.out)
          clear HO_5
          clear HL195_0
          clear HL197_0
          clear HL199_0
          clear HR195_0
          clear HR197_0
          clear HR199_0
          clear HB
          have HO_5 := n0_
          have HL195_0 := n1_
          have HL197_0 := n2_
          have HL199_0 := n3_
          have HR195_0 := n4_
          have HR197_0 := n5_
          have HR199_0 := n6_
          have HB := n7_
          clear n0_ n1_ n2_ n3_ n4_ n5_ n6_ n7_
          have p201 : 0 ≤ (x6_1 : Int) := of_decide_eq_true (by assumption)
          have q201 : x6_1 < (l0.length : Int) := of_decide_eq_true (by assumption)
          obtain ⟨ad201, e201, hx201_0, hx201_1, hx201_2, hx201_3, hx201_4⟩ := at_T75 HR0.out x6_1 p201 q201
          have hw201_4 := hx201_4
          have hw201_3 := hx201_3
          have hw201_2 := hx201_2
          have hw201_1 := hx201_1
          have hw201_0 := hx201_0
          cases e201
          replace hx201_0 := (HB.out.cell (World.block_lt_of_cell? w _ hx201_0)).trans hx201_0
          replace hx201_1 := (HB.out.cell (World.block_lt_of_cell? w _ hx201_1)).trans hx201_1
          replace hx201_2 := (HB.out.cell (World.block_lt_of_cell? w _ hx201_2)).trans hx201_2
          replace hx201_3 := (HB.out.cell (World.block_lt_of_cell? w _ hx201_3)).trans hx201_3
          replace hx201_4 := (HB.out.cell (World.block_lt_of_cell? w _ hx201_4)).trans hx201_4
          replace p201 := eq_true p201
          replace q201 := eq_true q201
          have p202 : 0 ≤ (x7_2 : Int) := of_decide_eq_true (by assumption)
          have q202 : x7_2 < (l1.length : Int) := of_decide_eq_true (by assumption)
          obtain ⟨ad202, e202, hx202_0, hx202_1, hx202_2, hx202_3, hx202_4⟩ := at_T75 HR1.out x7_2 p202 q202
          have hw202_4 := hx202_4
          have hw202_3 := hx202_3
          have hw202_2 := hx202_2
          have hw202_1 := hx202_1
          have hw202_0 := hx202_0
          cases e202
          replace hx202_0 := (HB.out.cell (World.block_lt_of_cell? w _ hx202_0)).trans hx202_0
          replace hx202_1 := (HB.out.cell (World.block_lt_of_cell? w _ hx202_1)).trans hx202_1
          replace hx202_2 := (HB.out.cell (World.block_lt_of_cell? w _ hx202_2)).trans hx202_2
          replace hx202_3 := (HB.out.cell (World.block_lt_of_cell? w _ hx202_3)).trans hx202_3
          replace hx202_4 := (HB.out.cell (World.block_lt_of_cell? w _ hx202_4)).trans hx202_4
          replace p202 := eq_true p202
          replace q202 := eq_true q202
          refine start_ (n := 9) (S := fun w' => w'.cell? (ad201.add ((x6_1).toNat * 5)) = some (.int .i64 ((rd_T75 l0 x6_1).f0)) ∧ w'.cell? ⟨(ad201.add ((x6_1).toNat * 5)).block, (ad201.add ((x6_1).toNat * 5)).off + 1, none⟩ = some (.int .i64 ((rd_T75 l0 x6_1).f1)) ∧ w'.cell? ⟨(ad201.add ((x6_1).toNat * 5)).block, (ad201.add ((x6_1).toNat * 5)).off + 2, none⟩ = some (.int .i32 ((rd_T75 l0 x6_1).f2)) ∧ w'.cell? ⟨(ad201.add ((x6_1).toNat * 5)).block, (ad201.add ((x6_1).toNat * 5)).off + 3, none⟩ = some (.bool ((rd_T75 l0 x6_1).f3)) ∧ w'.cell? ⟨(ad201.add ((x6_1).toNat * 5)).block, (ad201.add ((x6_1).toNat * 5)).off + 4, none⟩ = some (.int .u8 ((rd_T75 l0 x6_1).f4)) ∧ w'.cell? (ad202.add ((x7_2).toNat * 5)) = some (.int .i64 ((rd_T75 l1 x7_2).f0)) ∧ w'.cell? ⟨(ad202.add ((x7_2).toNat * 5)).block, (ad202.add ((x7_2).toNat * 5)).off + 1, none⟩ = some (.int .i64 ((rd_T75 l1 x7_2).f1)) ∧ w'.cell? ⟨(ad202.add ((x7_2).toNat * 5)).block, (ad202.add ((x7_2).toNat * 5)).off + 2, none⟩ = some (.int .i32 ((rd_T75 l1 x7_2).f2)) ∧ w'.cell? ⟨(ad202.add ((x7_2).toNat * 5)).block, (ad202.add ((x7_2).toNat * 5)).off + 3, none⟩ = some (.bool ((rd_T75 l1 x7_2).f3)) ∧ w'.cell? ⟨(ad202.add ((x7_2).toNat * 5)).block, (ad202.add ((x7_2).toNat * 5)).off + 4, none⟩ = some (.int .u8 ((rd_T75 l1 x7_2).f4))) (ds := []) #[false,false,false,false,false,false,false,false,false] (by kernel_rfl) rfl rfl ⟨((HB.out.cell (World.block_lt_of_cell? w _ hw201_0)).trans hw201_0), ((HB.out.cell (World.block_lt_of_cell? w _ hw201_1)).trans hw201_1), ((HB.out.cell (World.block_lt_of_cell? w _ hw201_2)).trans hw201_2), ((HB.out.cell (World.block_lt_of_cell? w _ hw201_3)).trans hw201_3), ((HB.out.cell (World.block_lt_of_cell? w _ hw201_4)).trans hw201_4), ((HB.out.cell (World.block_lt_of_cell? w _ hw202_0)).trans hw202_0), ((HB.out.cell (World.block_lt_of_cell? w _ hw202_1)).trans hw202_1), ((HB.out.cell (World.block_lt_of_cell? w _ hw202_2)).trans hw202_2), ((HB.out.cell (World.block_lt_of_cell? w _ hw202_3)).trans hw202_3), ((HB.out.cell (World.block_lt_of_cell? w _ hw202_4)).trans hw202_4)⟩ (fun hHeld => ?_); refine with_tabW siglumref08_rests.tab10 siglumref08_rests.bits10 (fun HT_ HW_ => ?_)
          generalize w63.drew = w64 at HO_5 HL195_0 HL197_0 HL199_0 HR195_0 HR197_0 HR199_0 HB hx201_0 hx201_1 hx201_2 hx201_3 hx201_4 hx202_0 hx202_1 hx202_2 hx202_3 hx202_4 hHeld ⊢
          refine pure_ (i := 0) (N := some 59) (v := ?_) (a' := ?_) #[true,false,false,false,false,false,false,false,false] rfl rfl (any_of HT_.out (by kernel_rfl)) (fun _ _ _ h => h) (Or.inl ⟨by rfl, ?_⟩) ?_ ?_; rotate_left; (· intro w'; go_simp; with_reducible rfl); rotate_left; (· simp only [Act.put,List.setIfInBounds_toArray,List.set_cons_zero,List.set_cons_succ,i64_w,i32_w]; rfl)
          refine pure_ (i := 1) (N := some 60) (v := ?_) (a' := ?_) #[true,true,false,false,false,false,false,false,false] rfl rfl (any_of HT_.out (by kernel_rfl)) (fun _ _ _ h => h) (Or.inl ⟨by rfl, ?_⟩) ?_ ?_; rotate_left; (· intro w'; go_simp; with_reducible rfl); rotate_left; (· simp only [Act.put,List.setIfInBounds_toArray,List.set_cons_zero,List.set_cons_succ,i64_w,i32_w]; rfl)
          refine pure_ (i := 2) (N := some 61) (v := ?_) (a' := ?_) #[true,true,true,false,false,false,false,false,false] rfl rfl (any_of HT_.out (by kernel_rfl)) (fun _ _ _ h => h) (Or.inl ⟨by rfl, ?_⟩) ?_ ?_; rotate_left; (· intro w'; go_simp; with_reducible rfl); rotate_left; (· simp only [Act.put,List.setIfInBounds_toArray,List.set_cons_zero,List.set_cons_succ,i64_w,i32_w]; rfl)
          refine pure_ (i := 4) (N := some 63) (v := ?_) (a' := ?_) #[true,true,true,false,true,false,false,false,false] rfl rfl (any_of HT_.out (by kernel_rfl)) (fun _ _ _ h => h) (Or.inl ⟨by rfl, ?_⟩) ?_ ?_; rotate_left; (· intro w'; go_simp; with_reducible rfl); rotate_left; (· simp only [Act.put,List.setIfInBounds_toArray,List.set_cons_zero,List.set_cons_succ,i64_w,i32_w]; rfl)
          refine pure_ (i := 5) (N := some 64) (v := ?_) (a' := ?_) #[true,true,true,false,true,true,false,false,false] rfl rfl (any_of HT_.out (by kernel_rfl)) (fun _ _ _ h => h) (Or.inl ⟨by rfl, ?_⟩) ?_ ?_; rotate_left; (· intro w'; go_simp; with_reducible rfl); rotate_left; (· simp only [Act.put,List.setIfInBounds_toArray,List.set_cons_zero,List.set_cons_succ,i64_w,i32_w]; rfl)
          refine pure_ (i := 6) (N := some 65) (v := ?_) (a' := ?_) #[true,true,true,false,true,true,true,false,false] rfl rfl (any_of HT_.out (by kernel_rfl)) (fun _ _ _ h => h) (Or.inl ⟨by rfl, ?_⟩) ?_ ?_; rotate_left; (· intro w'; go_simp; with_reducible rfl); rotate_left; (· simp only [Act.put,List.setIfInBounds_toArray,List.set_cons_zero,List.set_cons_succ,i64_w,i32_w]; rfl)
          refine take_ (i := 3) (N := some 62) (v := ?_) (a' := ?_) #[true,true,true,true,true,true,true,false,false] rfl rfl (take_ofW HT_.out HW_.out (by kernel_rfl)) (fun _ _ _ h => h) (Or.inl ⟨by rfl, ?_⟩) hHeld ?_ ?_; rotate_left; (· rintro w' ⟨s0, s1, s2, s3, s4, s5, s6, s7, s8, s9⟩; go_simp; with_reducible rfl); rotate_left; (· simp only [Act.put,List.setIfInBounds_toArray,List.set_cons_zero,List.set_cons_succ,i64_w,i32_w]; rfl)
          refine take_ (i := 7) (N := some 66) (v := ?_) (a' := ?_) #[true,true,true,true,true,true,true,true,false] rfl rfl (take_ofW HT_.out HW_.out (by kernel_rfl)) (fun _ _ _ h => h) (Or.inl ⟨by rfl, ?_⟩) hHeld ?_ ?_; rotate_left; (· rintro w' ⟨s0, s1, s2, s3, s4, s5, s6, s7, s8, s9⟩; go_simp; with_reducible rfl); rotate_left; (· simp only [Act.put,List.setIfInBounds_toArray,List.set_cons_zero,List.set_cons_succ,i64_w,i32_w]; rfl)
          refine one_ (i := 8) (N := some 67) #[true,true,true,true,true,true,true,true,true] rfl rfl (one_of HT_.out (by kernel_rfl)) (by decide) (fun K hK => ?_)
          refine goes_ Tryd.func37 (by kernel_rfl) rfl #[.agg #[.int .i64 ((rd_T75 l0 x6_1).f0), .int .i64 ((rd_T75 l0 x6_1).f1), .int .i32 ((rd_T75 l0 x6_1).f2), .bool ((rd_T75 l0 x6_1).f3), .int .u8 ((rd_T75 l0 x6_1).f4)], .agg #[.int .i64 ((rd_T75 l1 x7_2).f0), .int .i64 ((rd_T75 l1 x7_2).f1), .int .i32 ((rd_T75 l1 x7_2).f2), .bool ((rd_T75 l1 x7_2).f3), .int .u8 ((rd_T75 l1 x7_2).f4)]] (by rfl) rfl rfl (by (try simp only [List.map_toArray, List.map_cons, List.map_nil]); first | done | rfl | (simp only [List.length_drop, List.length_take]; rfl)) ?_
          with_reducible refine (siglumref08_Same.calls ((rd_T75 l0 x6_1).f0) ((rd_T75 l0 x6_1).f1) ((rd_T75 l0 x6_1).f2) ((rd_T75 l0 x6_1).f3) ((rd_T75 l0 x6_1).f4) ((rd_T75 l1 x7_2).f0) ((rd_T75 l1 x7_2).f1) ((rd_T75 l1 x7_2).f2) ((rd_T75 l1 x7_2).f3) ((rd_T75 l1 x7_2).f4) false _ A51.out).mono ?_
          rintro e w65 ⟨rfl, hb⟩
          refine ⟨_, rfl, ?_⟩
          have n0_ := Aside0.mk (Kd.S_below (by (with_reducible repeat (first | apply Kd.S_alloc | apply Kd.S_drewN | apply Kd.S_drew)); exact HO_5.out) hb)
          have n1_ := Aside0.mk (Kd.R_below (by (with_reducible repeat (first | apply Kd.R_alloc | apply Kd.R_drewN | apply Kd.R_drew)); exact HL195_0.out) hb)
          have n2_ := Aside0.mk (Kd.R_below (by (with_reducible repeat (first | apply Kd.R_alloc | apply Kd.R_drewN | apply Kd.R_drew)); exact HL197_0.out) hb)
          have n3_ := Aside0.mk (Kd.R_below (by (with_reducible repeat (first | apply Kd.R_alloc | apply Kd.R_drewN | apply Kd.R_drew)); exact HL199_0.out) hb)
          have n4_ := Aside0.mk (Kd.C_below (by repeat (first | (with_reducible exact HR195_0.out) | (with_reducible refine Kd.C_alloc ?_ _) | (with_reducible refine Kd.C_drewN ?_ _) | (with_reducible refine Kd.C_drew ?_) | exact HR195_0.out)) hb)
          have n5_ := Aside0.mk (Kd.C_below (by repeat (first | (with_reducible exact HR197_0.out) | (with_reducible refine Kd.C_alloc ?_ _) | (with_reducible refine Kd.C_drewN ?_ _) | (with_reducible refine Kd.C_drew ?_) | exact HR197_0.out)) hb)
          have n6_ := Aside0.mk (Kd.C_below (by repeat (first | (with_reducible exact HR199_0.out) | (with_reducible refine Kd.C_alloc ?_ _) | (with_reducible refine Kd.C_drewN ?_ _) | (with_reducible refine Kd.C_drew ?_) | exact HR199_0.out)) hb)
          have n7_ := Aside0.mk (below_step (by repeat (first | (with_reducible first | exact HB.out | apply below_alloc | apply pw_below_drewN | apply below_drew1) | exact HB.out)) hb)
          clear HO_5
          clear HL195_0
          clear HL197_0
          clear HL199_0
          clear HR195_0
          clear HR197_0
          clear HR199_0
          clear HB
          have HO_5 := n0_
          have HL195_0 := n1_
          have HL197_0 := n2_
          have HL199_0 := n3_
          have HR195_0 := n4_
          have HR197_0 := n5_
          have HR199_0 := n6_
          have HB := n7_
          clear n0_ n1_ n2_ n3_ n4_ n5_ n6_ n7_
          (try clear hb); (try clear hb2); (try clear hk); (try clear hi)
          refine hK.out _ _ ⟨((HB.out.cell (World.block_lt_of_cell? w _ hw201_0)).trans hw201_0), ((HB.out.cell (World.block_lt_of_cell? w _ hw201_1)).trans hw201_1), ((HB.out.cell (World.block_lt_of_cell? w _ hw201_2)).trans hw201_2), ((HB.out.cell (World.block_lt_of_cell? w _ hw201_3)).trans hw201_3), ((HB.out.cell (World.block_lt_of_cell? w _ hw201_4)).trans hw201_4), ((HB.out.cell (World.block_lt_of_cell? w _ hw202_0)).trans hw202_0), ((HB.out.cell (World.block_lt_of_cell? w _ hw202_1)).trans hw202_1), ((HB.out.cell (World.block_lt_of_cell? w _ hw202_2)).trans hw202_2), ((HB.out.cell (World.block_lt_of_cell? w _ hw202_3)).trans hw202_3), ((HB.out.cell (World.block_lt_of_cell? w _ hw202_4)).trans hw202_4)⟩ (fun hHeld => ?_)
          clear hK K
          refine norm_ (a' := ?_) ?_ ?_
          rotate_left
          ·
           show Act.put _ (some 67) _ = _
           simp only [Act.put,List.setIfInBounds_toArray,List.set_cons_zero,List.set_cons_succ,i64_w,i32_w]
           rfl
          refine done_ (done_of HT_.out (by kernel_rfl)) ?_
          have p210 : 0 ≤ (x6_1 : Int) := of_decide_eq_true (by assumption)
          have q210 : x6_1 < (x5_2.length : Int) := of_decide_eq_true (by assumption)
          obtain ⟨ad210, A210_0, c210_0, e210, hx210_0, hl210_0, hi210_0⟩ := at_L7 (Kd.S_reads' HO_5.out).2.2 x6_1 p210 q210
          obtain rfl : (⟨go14, 0, none⟩ : Addr) = ad210 := (by injection e210)
          obtain ⟨ce210, hce210, hMe210, hcc210⟩ := Kd.S_get HO_5.out [] x6_1 p210 (by first | exact q210 | exact of_decide_eq_true (by assumption) | (have e_ := (Kd.S_reads' HO_5.out).1; omega))
          obtain ⟨ve210_0, rfl, ge210_0⟩ := hMe210
          have hv210_0 := hcc210 0 _ rfl
          rw [Nat.add_zero, show ((Kd.slice 3 (Kd.int .i64))).sz = 1 from rfl, Nat.mul_one] at hv210_0
          replace hv210_0 := Option.some.inj (hv210_0.symm.trans hx210_0)
          rw [hv210_0] at ge210_0
          have HL210_0 := Aside0.mk (show Kd.R (Kd.int .i64) 3 _ _ _ _ (rd_L7 x5_2 x6_1) from ge210_0)
          clear hv210_0 ge210_0
          have HX210_0 := Aside0.mk hx210_0
          clear hcc210 hce210
          (first | simp only [add_plain] at hx210_0 | simp only [add_at] at hx210_0 | simp only [Addr.add, Nat.zero_add] at hx210_0 | skip)
          have HR210_0 := Aside0.mk hi210_0
          have HC210_0 := Aside0.mk hl210_0
          clear hi210_0 hl210_0
          replace p210 := eq_true p210
          replace q210 := eq_true q210
          have p62 : 0 ≤ (x7_2 : Int) := of_decide_eq_true (by assumption)
          have q62 : (x7_2 : Int) < (((rd_L7 x5_2 x6_1).length : Int) : Int) := of_decide_eq_true (by assumption)
          obtain ⟨go62, co62, eo62, gb62, gl62, cl62, HG62⟩ := Kd.R_form HL210_0.out (by omega)
          (first | cases eo62 | (injection eo62 with ea_ en_ ec_; (first | subst ea_ | (injection ea_ with ea_; subst ea_)); subst ec_; clear en_))
          have GB62 := Aside0.mk gb62
          have GG62 := Aside0.mk HG62
          clear gb62 gl62 HG62
          obtain ⟨hx62_0, hf62_0⟩ := Kd.R_celln 0 HL210_0.out (x7_2 : Int) p62 q62
          replace p62 := eq_true p62
          replace q62 := eq_true q62
          have hq66 : (x6_1 : Int) < (x5_2.length : Int) := (by have h_ : (x6_1 : Int) < ((x5_2.length : Int) : Int) := of_decide_eq_true (by assumption); first | exact h_ | (have e_ := (Kd.S_reads' HO_5.out).1; omega) | simpa only [List.length_set, List.length_set] using h_)
          obtain ⟨oki66, ce66, hcl66, hM66, hcc66, hok66, hbk66⟩ := Kd.S_borrow HO_5.out [] (x6_1 : Int) (of_decide_eq_true (by assumption)) hq66
          obtain ⟨ve66_0, rfl, ge66_0⟩ := hM66
          have hv66 := hcc66 0 _ rfl
          rw [Nat.add_zero, show ((Kd.slice 3 (Kd.int .i64))).sz = 1 from rfl, Nat.mul_one] at hv66
          replace hv66 := Option.some.inj (hv66.symm.trans HX210_0.out)
          subst hv66
          clear hcc66 hcl66
          replace ge66_0 := (show Kd.R (Kd.int .i64) 3 _ _ _ _ (rd_L7 x5_2 x6_1) from ge66_0)
          have HP66 := Kd.R_putg ge66_0 (x7_2 : Int) (wrap64 ((ji48) + 1))
          try go_wp2_with (first | ((with_reducible refine gate_store (t := 3) (p := 85) rfl ?_); refine store_event (t := 3) (p := 85) (v := ?vo_w67) (w1 := (w65.setCell ⟨go62, (x7_2 : Int).toNat, none⟩ (.int .i64 (wrap64 ((ji48) + 1))))) ?hg ?ho ?hn ?hr ?_; (case ho => rfl); (case hg => rfl); (case hn => rfl); (case hr => first | (go_simp; done) | (go_simp; rfl)); intro w67 hw; have hg : w65.grownBy w67 (some go62) := (by rw [hw]; exact HP66.2); have hz_ : Kd.R (Kd.int .i64) 3 w67 w.heap.size oki66 (.slice (some ⟨go62, 0, none⟩) (rd_L7 x5_2 x6_1).length c210_0) y211 := (by rw [hw, Ny211.out]; exact HP66.1); have hp_ : Kd.S (Kd.slice 3 (Kd.int .i64)) 68 w67 w.heap.size (fun _ => True) (.slice (some ⟨go14, 0, none⟩) x5_2.length co14) y213 := (by rw [Ny213.out]; exact hbk66 hg (fun k_ e_ => by injection e_ with e_; subst e_; exact ge66_0.1 _ rfl) (Kd.M_row hz_)); have hm_ := Kd.R_mono hz_ hok66; clear HP66 hbk66; have n0_ := Aside0.mk (hp_); have n1_ := Aside0.mk ((by rw [hw]; exact below_set (HB.out) GB62.out : Below w.heap.size w w67)); have n2_ := Aside0.mk (hm_); have n3_ := Aside0.mk ((Kd.R_reads' hm_).2.1); clear HO_5; clear HB; clear HL195_0; clear HL197_0; clear HL199_0; clear HL210_0; have HO_5 := n0_; have HB := n1_; have HL217 := n2_; have HC212 := n3_; clear n0_ n1_ n2_ n3_; clear hg hw hp_ hz_ hm_ hok66))
          (try simp only [← hl5_2])
          go_roundg k2
          case measure => have := HK1.out; have := HK2.out; omega
          case rel => exact ⟨(y213), (wrap64 (x7_2 - 1)), (by first | rfl | (simp; done) | (simp [*]; done)), H', ⟨by have := HK1.out; have := HK2.out; omega⟩, ⟨by (try simp only [hl5_2]); (with_reducible repeat (first | apply Kd.S_alloc | apply Kd.S_drewN | apply Kd.S_drew)); exact HO_5.out⟩, ⟨by repeat (first | (with_reducible first | exact HB.out | apply below_alloc | apply pw_below_drewN | apply below_drew1) | exact HB.out)⟩⟩
      ·
       rw [if_neg c19] at H
       have c19b0 : decide (0 ≤ x7_2) = false := decide_eq_false c19
       clear c19
       have H' := Aside0.mk H
       clear H
       go_wp2
       (try simp only [← hl5_2])
       go_roundg k2
       case measure => have := HK1.out; have := HK2.out; omega
       case rel => exact ⟨(x5_2), (wrap64 (x6_1 - 1)), (by first | rfl | (simp; done) | (simp [*]; done)), H', ⟨by have := HK1.out; have := HK2.out; omega⟩, ⟨by (try simp only [hl5_2]); (with_reducible repeat (first | apply Kd.S_alloc | apply Kd.S_drewN | apply Kd.S_drew)); exact HO_5.out⟩, ⟨by repeat (first | (with_reducible first | exact HB.out | apply below_alloc | apply pw_below_drewN | apply below_drew1) | exact HB.out)⟩⟩
   ·
    rw [if_neg c8] at H
    have c8b0 : decide (0 ≤ x6_1) = false := decide_eq_false c8
    clear c8
    obtain rfl := Option.some.inj H
    go_wp2
    go_ret
    exact ⟨_, by first | rfl | (simp [errW_none, errW_some] <;> rfl) | (simp only [← hji3]; first | rfl | (simp [errW_none, errW_some] <;> rfl)) | (simp [*, errW_none, errW_some] <;> rfl), by (with_reducible repeat (first | apply Kd.S_alloc | apply Kd.S_drewN | apply Kd.S_drew)); exact HO_5.out, by repeat (first | (with_reducible first | exact HB.out | apply below_alloc | apply pw_below_drewN | apply below_drew1) | exact HB.out)⟩

end Go.Proofs.YtalogampkkjcdaaDoor.P
