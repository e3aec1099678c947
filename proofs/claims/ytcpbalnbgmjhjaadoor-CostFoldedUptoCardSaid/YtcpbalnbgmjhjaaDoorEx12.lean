-- Printed by hprint.py (this session's program over the kit's print) out of the translation; the parts 'by hand' are the session's own.
import Derived.Test.YtcpbalnbgmjhjaaDoorEx0
import Derived.Test.YtcpbalnbgmjhjaaDoorEx11
namespace Go.Proofs.YtcpbalnbgmjhjaaDoor.E
open Go.RowKit Go.Proofs.YtcpbalnbgmjhjaaDoorW.PrintWords Go.Proofs.YtcpbalnbgmjhjaaDoorW.PrintLast Go.Proofs.YtcpbalnbgmjhjaaDoorW.PrintMore
attribute [local go_sem] max2_int min2_int max_two min_two max_three min_three max_four min_four   -- for this text's walks alone
set_option linter.unusedVariables false
set_option linter.unusedSimpArgs false

/-! ### dist_Of: function 52 -/
mutual
def dist_Of.l0 : Nat → List ByteArray → List ByteArray → List Int → Int → Int → Option (Int × Int)
 | 0, _, _, _, _, _ => none
 | k + 1, x6, x7, x9, x32, x33 => if x33 < x32 then (if 0 ≤ x33 then (if x33 < (x9.length : Int) then (dist_Of.l0 k x6 x7 (x9.set (x33 : Int).toNat x33) x32 (wrap64 (x33 + 1))) else (none)) else (none)) else (if 0 ≤ (x9.length : Int) then (if ((x9.length : Int) : Int).toNat ≤ 35184372088832 then (dist_Of.l1 k x7 x9 (List.replicate ((x9.length : Int) : Int).toNat 0) x6 (x6.length : Int) 0) else (none)) else (none))
def dist_Of.l1 : Nat → List ByteArray → List Int → List Int → List ByteArray → Int → Int → Option (Int × Int)
 | 0, _, _, _, _, _, _ => none
 | k + 1, x7, x9, x11, x44, x45, x46 => if x46 < x45 then (if 0 ≤ x46 then (if x46 < (x44.length : Int) then (if 0 < (x11.length : Int) then (if (x9.length : Int) = (x11.length : Int) then (if 0 < (x9.length : Int) then (dist_Of.l2 k x7 (x9.set (0 : Int).toNat (wrap64 (x46 + 1))) (x9) (rdOf ByteArray.empty x44 x46) x44 x45 x46 x7 (x7.length : Int) 0) else (none)) else (none)) else (none)) else (none)) else (none)) else (if 0 ≤ (x7.length : Int) then (if (x7.length : Int) < (x9.length : Int) then (some (rd x9 (x7.length : Int), 0)) else (none)) else (none))
def dist_Of.l2 : Nat → List ByteArray → List Int → List Int → ByteArray → List ByteArray → Int → Int → List ByteArray → Int → Int → Option (Int × Int)
 | 0, _, _, _, _, _, _, _, _, _, _ => none
 | k + 1, x7, x9, x11, x13, x44, x45, x46, x58, x59, x60 => if x60 < x59 then (if 0 ≤ x60 then (if x60 < (x58.length : Int) then (if x60 < (x11.length : Int) then (if x13.toList = (rdOf ByteArray.empty x58 x60).toList then (if 0 ≤ (wrap64 (x60 + 1)) then (if (wrap64 (x60 + 1)) < (x11.length : Int) then (if x60 < (x9.length : Int) then (if (wrap64 (x60 + 1)) < (x9.length : Int) then (dist_Of.l2 k x7 (x9.set ((wrap64 (x60 + 1)) : Int).toNat (mn (mn (rd x11 x60) (wrap64 ((rd x11 (wrap64 (x60 + 1))) + 1))) (wrap64 ((rd x9 x60) + 1)))) x11 x13 x44 x45 x46 x58 x59 (wrap64 (x60 + 1))) else (none)) else (none)) else (none)) else (none)) else (if 0 ≤ (wrap64 (x60 + 1)) then (if (wrap64 (x60 + 1)) < (x11.length : Int) then (if x60 < (x9.length : Int) then (if (wrap64 (x60 + 1)) < (x9.length : Int) then (dist_Of.l2 k x7 (x9.set ((wrap64 (x60 + 1)) : Int).toNat (mn (mn (wrap64 ((rd x11 x60) + 1)) (wrap64 ((rd x11 (wrap64 (x60 + 1))) + 1))) (wrap64 ((rd x9 x60) + 1)))) x11 x13 x44 x45 x46 x58 x59 (wrap64 (x60 + 1))) else (none)) else (none)) else (none)) else (none))) else (none)) else (none)) else (none)) else (dist_Of.l1 k x7 x9 x11 x44 x45 (wrap64 (x46 + 1)))
end
def dist_Of.f (k : Nat) (a0 : ByteArray) (a1 : ByteArray) : Option (Int × Int) := (dist_both.f k a0 a1).bind fun bt144 => (if bt144.2.2 = 0 then (if 0 ≤ (wrap64 ((bt144.2.1.length : Int) + 1)) then (if (wrap64 ((bt144.2.1.length : Int) + 1) : Int).toNat ≤ 35184372088832 then ((some (List.replicate (wrap64 ((bt144.2.1.length : Int) + 1) : Int).toNat 0 : List Int)).bind fun y151 => (dist_Of.l0 k bt144.1 bt144.2.1 y151 (y151.length : Int) 0)) else (none)) else (none)) else (some (0, bt144.2.2)))
theorem dist_Of.mono_l : ∀ k, (∀ y0 y1 y2 y3 y4, LeO (dist_Of.l0 k y0 y1 y2 y3 y4) (dist_Of.l0 (k + 1) y0 y1 y2 y3 y4)) ∧ (∀ y0 y1 y2 y3 y4 y5, LeO (dist_Of.l1 k y0 y1 y2 y3 y4 y5) (dist_Of.l1 (k + 1) y0 y1 y2 y3 y4 y5)) ∧ (∀ y0 y1 y2 y3 y4 y5 y6 y7 y8 y9, LeO (dist_Of.l2 k y0 y1 y2 y3 y4 y5 y6 y7 y8 y9) (dist_Of.l2 (k + 1) y0 y1 y2 y3 y4 y5 y6 y7 y8 y9))
 | 0 => ⟨fun _ _ _ _ _ r h => by simp [dist_Of.l0] at h, fun _ _ _ _ _ _ r h => by simp [dist_Of.l1] at h, fun _ _ _ _ _ _ _ _ _ _ r h => by simp [dist_Of.l2] at h⟩
 | k + 1 => by
  obtain ⟨ih0, ih1, ih2⟩ := dist_Of.mono_l k
  refine ⟨?_, ?_, ?_⟩
  ·
   intro y0 y1 y2 y3 y4
   unfold dist_Of.l0
   repeat' first
   | (with_reducible exact ih0 _ _ _ _ _)
   | (with_reducible exact ih1 _ _ _ _ _ _)
   | (with_reducible exact ih2 _ _ _ _ _ _ _ _ _ _)
   | (with_reducible exact dist_both.mono _ _ _)
   | (with_reducible exact LeO.refl _)
   | (with_reducible exact LeO.none _)
   | (with_reducible refine LeO.ite ?_ ?_)
   | (with_reducible refine LeO.bind ?_ (fun _ => ?_))
   | exact ih0 _ _ _ _ _
   | exact ih1 _ _ _ _ _ _
   | exact ih2 _ _ _ _ _ _ _ _ _ _
   | exact dist_both.mono _ _ _
   | exact LeO.none _
   | refine LeO.ite ?_ ?_
   | refine LeO.bind ?_ (fun _ => ?_)
  ·
   intro y0 y1 y2 y3 y4 y5
   unfold dist_Of.l1
   repeat' first
   | (with_reducible exact ih0 _ _ _ _ _)
   | (with_reducible exact ih1 _ _ _ _ _ _)
   | (with_reducible exact ih2 _ _ _ _ _ _ _ _ _ _)
   | (with_reducible exact dist_both.mono _ _ _)
   | (with_reducible exact LeO.refl _)
   | (with_reducible exact LeO.none _)
   | (with_reducible refine LeO.ite ?_ ?_)
   | (with_reducible refine LeO.bind ?_ (fun _ => ?_))
   | exact ih0 _ _ _ _ _
   | exact ih1 _ _ _ _ _ _
   | exact ih2 _ _ _ _ _ _ _ _ _ _
   | exact dist_both.mono _ _ _
   | exact LeO.none _
   | refine LeO.ite ?_ ?_
   | refine LeO.bind ?_ (fun _ => ?_)
  ·
   intro y0 y1 y2 y3 y4 y5 y6 y7 y8 y9
   unfold dist_Of.l2
   repeat' first
   | (with_reducible exact ih0 _ _ _ _ _)
   | (with_reducible exact ih1 _ _ _ _ _ _)
   | (with_reducible exact ih2 _ _ _ _ _ _ _ _ _ _)
   | (with_reducible exact dist_both.mono _ _ _)
   | (with_reducible exact LeO.refl _)
   | (with_reducible exact LeO.none _)
   | (with_reducible refine LeO.ite ?_ ?_)
   | (with_reducible refine LeO.bind ?_ (fun _ => ?_))
   | exact ih0 _ _ _ _ _
   | exact ih1 _ _ _ _ _ _
   | exact ih2 _ _ _ _ _ _ _ _ _ _
   | exact dist_both.mono _ _ _
   | exact LeO.none _
   | refine LeO.ite ?_ ?_
   | refine LeO.bind ?_ (fun _ => ?_)
theorem dist_Of.mono : ∀ a0 a1 k, LeO (dist_Of.f k a0 a1) (dist_Of.f (k + 1) a0 a1) := by
 intro a0 a1 k
 obtain ⟨ih0, ih1, ih2⟩ := dist_Of.mono_l k
 unfold dist_Of.f
 repeat' first
  | (with_reducible exact ih0 _ _ _ _ _)
  | (with_reducible exact ih1 _ _ _ _ _ _)
  | (with_reducible exact ih2 _ _ _ _ _ _ _ _ _ _)
  | (with_reducible exact dist_both.mono _ _ _)
  | (with_reducible exact LeO.refl _)
  | (with_reducible exact LeO.none _)
  | (with_reducible refine LeO.ite ?_ ?_)
  | (with_reducible refine LeO.bind ?_ (fun _ => ?_))
  | exact ih0 _ _ _ _ _
  | exact ih1 _ _ _ _ _ _
  | exact ih2 _ _ _ _ _ _ _ _ _ _
  | exact dist_both.mono _ _ _
  | exact LeO.none _
  | refine LeO.ite ?_ ?_
  | refine LeO.bind ?_ (fun _ => ?_)
def dist_Of.T22 : Bool × List (List Nat × List Nat) := (true, [([], []), ([], []), ([1], [1]), ([], []), ([], []), ([], []), ([5], [5]), ([4, 6], [4, 6]), ([7], [7]), ([8], [8]), ([], []), ([], []), ([10, 11], [10, 11]), ([12], [12]), ([13], [13]), ([3, 9, 14], [3, 9, 14]), ([0, 2, 0, 1, 2, 3, 4, 5, 6, 7, 8, 9, 10, 11, 12, 13, 14, 15], [0, 2]), ([16, 15, 0, 1, 2, 3, 4, 5, 6, 7, 8, 9, 10, 11, 12, 13, 14, 15], [15, 16])])
def dist_Of.B22 : List Nat := [0, 0, 2, 0, 0, 0, 32, 112, 240, 496, 0, 0, 3072, 7168, 15360, 32760, 65535, 131071]
theorem dist_Of.tab22 : rtab .any (opsOf Tryd.f52 22) = dist_Of.T22 := by kernel_rfl
theorem dist_Of.bits22 : waitsOk dist_Of.T22.2 dist_Of.B22 = true := by kernel_rfl
set_option maxHeartbeats 8000000 in
set_option maxRecDepth 100000 in
theorem dist_Of.calls (k : Nat) (a0 : ByteArray) (a1 : ByteArray) (r1 : Int) (r2 : Int) (w : World) (hT : Lib.Utf8Tabs 0 1 w) (h : dist_Of.f k a0 a1 = some (r1, r2)) :
 Calls Tryd.prog 52 #[.string a0, .string a1] w fun e w' => e = .returned (.tuple #[.int .i64 r1, .int .i64 r2]) ∧ Below w.heap.size w w' := by
 have HT := Aside0.mk hT
 clear hT
 have HB := Aside0.mk (Below.refl w.heap.size w)
 have H : ((dist_both.f k a0 a1).bind fun bt144 => (if bt144.2.2 = 0 then (if 0 ≤ (wrap64 ((bt144.2.1.length : Int) + 1)) then (if (wrap64 ((bt144.2.1.length : Int) + 1) : Int).toNat ≤ 35184372088832 then ((some (List.replicate (wrap64 ((bt144.2.1.length : Int) + 1) : Int).toNat 0 : List Int)).bind fun y151 => (dist_Of.l0 k bt144.1 bt144.2.1 y151 (y151.length : Int) 0)) else (none)) else (none)) else (some (0, bt144.2.2)))) = some (r1, r2) := h
 clear h
 replace H := Option.bind_eq_some_iff.mp H
 obtain ⟨⟨t144, t145, t146⟩, A30, H⟩ := H
 replace H : (if t146 = 0 then (if 0 ≤ (wrap64 ((t145.length : Int) + 1)) then (if (wrap64 ((t145.length : Int) + 1) : Int).toNat ≤ 35184372088832 then ((some (List.replicate (wrap64 ((t145.length : Int) + 1) : Int).toNat 0 : List Int)).bind fun y151 => (dist_Of.l0 k t144 t145 y151 (y151.length : Int) 0)) else (none)) else (none)) else (some (0, t146))) = some (r1, r2) := H
 have A3 := Aside0.mk A30
 clear A30
 by_cases c4 : t146 = 0
 ·
  rw [if_pos c4] at H
  have c4b0 : (t146 == 0) = true := beq_iff_eq.mpr c4
  have c4b1 : (t146 != 0) = false := bne_eq_false_iff_eq.mpr c4
  clear c4
  obtain ⟨ji5, hji5⟩ : ∃ j_ : Int, (wrap64 ((t145.length : Int) + 1)) = j_ := ⟨_, rfl⟩
  replace H : (if 0 ≤ (ji5) then (if (ji5 : Int).toNat ≤ 35184372088832 then ((some (List.replicate (ji5 : Int).toNat 0 : List Int)).bind fun y151 => (dist_Of.l0 k t144 t145 y151 (y151.length : Int) 0)) else (none)) else (none)) = some (r1, r2) := by first | (rw [hji5] at H; exact H) | (simp only [hji5] at H ⊢; exact H)
  (try rw [hji5] at A3)
  have hji5w : (IntKind.i64.wrap ((t145.length : Int) + 1)) = ji5 := (i64_w _).trans hji5
  by_cases c6 : 0 ≤ (ji5)
  ·
   rw [if_pos c6] at H
   have c6b0 := eq_true c6
   have c6b1 : decide (0 ≤ (ji5)) = true := decide_eq_true c6
   clear c6
   by_cases c7 : (ji5 : Int).toNat ≤ 35184372088832
   ·
    rw [if_pos c7] at H
    have c7b0 := eq_true c7
    have c7b1 : decide ((ji5 : Int).toNat ≤ 35184372088832) = true := decide_eq_true c7
    clear c7
    obtain ⟨y151, hy151⟩ : ∃ y_ : List Int, y_ = (List.replicate (ji5 : Int).toNat 0) := ⟨_, rfl⟩
    replace H : (dist_Of.l0 k t144 t145 y151 (y151.length : Int) 0) = some (r1, r2) := by first | (rw [hy151]; with_reducible exact H) | (have H2_ := (Option.bind_some _ _).symm.trans H; rw [hy151]; with_reducible exact H2_) | (have H2_ := (Option.bind_some _ _).symm.trans H; with_reducible exact H2_) | with_reducible exact H | (rw [hy151]; exact H) | exact H
    have Ny151 := Aside0.mk hy151
    clear hy151
    have H' := Aside0.mk H
    clear H
    go_enter Tryd.func52, Tryd.ntmps52
    go_wp2_with (first | ((with_reducible refine gate_callee (f := 70) rfl ?_); refine goesL_ (some 20) rfl rfl Tryd.func70 (by kernel_rfl) rfl #[.string a0, .string a1] rfl (by (try simp only [List.map_toArray, List.map_cons, List.map_nil]); first | done | rfl | (simp only [List.length_drop, List.length_take]; rfl)) ?_; (with_reducible refine (dist_both.calls k a0 a1 t144 t145 t146 _ ?side1 A3.out).mono ?_); (case side1 => exact Utf.tabs_step HT.out (by repeat (first | (with_reducible first | exact HB.out | apply below_alloc | apply pw_below_drewN | apply below_drew1) | exact HB.out))); rintro e w8 ⟨v147, v149, rfl, ho0, ho1, hb⟩; refine ⟨_, rfl, ?_⟩; have n0_ := Aside0.mk (Kd.R_lower ho0 (below_size (by repeat (first | (with_reducible first | exact HB.out | apply below_alloc | apply pw_below_drewN | apply below_drew1) | exact HB.out)))); have n1_ := Aside0.mk (Kd.R_lower ho1 (below_size (by repeat (first | (with_reducible first | exact HB.out | apply below_alloc | apply pw_below_drewN | apply below_drew1) | exact HB.out)))); have n2_ := Aside0.mk (below_step (by repeat (first | (with_reducible first | exact HB.out | apply below_alloc | apply pw_below_drewN | apply below_drew1) | exact HB.out)) hb); clear HB; have HO148 := n0_; have HO150 := n1_; have HB := n2_; clear n0_ n1_ n2_; (try clear hb); (try clear hb2); (try clear hk); (try clear hi); (try clear ho0); (try clear ho1); obtain ⟨Ao9, co9, eo9⟩ := Kd.R_slice HO150.out; subst eo9) | ((with_reducible refine gate_dst (N := 30) rfl ?_); refine Kd.R_make (Kd.int .i64) _ 3 rfl (N := 30) rfl 45 _ _ rfl ji5 rfl rfl Tryd.underlying45 (.int .i64 0) 8 info3 rfl (by decide) (by omega) 0 (ok := fun _ => True) (okp := fun _ => True) rfl (fun _ hk => hk) trivial (of_decide_eq_true (by first | (with_reducible assumption) | assumption)) (Nat.le_trans (Nat.mul_le_mul_right _ (of_decide_eq_true (by first | (with_reducible assumption) | assumption) : ji5.toNat ≤ 35184372088832)) (by omega)) (Below.refl _ _) (Nat.le_refl _) ?_; intro v152 w10 ho11 hb hg_ hnew_; clear hg_ hnew_; (first | rw [← Ny151.out] at ho11 | (simp only [Int.reduceToNat] at ho11; rw [← Ny151.out] at ho11)); have n0_ := Aside0.mk (Kd.R_below (by (with_reducible repeat (first | apply Kd.R_alloc | apply Kd.R_drewN | apply Kd.R_drew)); exact HO148.out) hb); have n1_ := Aside0.mk (Kd.R_below (by (with_reducible repeat (first | apply Kd.R_alloc | apply Kd.R_drewN | apply Kd.R_drew)); exact HO150.out) hb); have n2_ := Aside0.mk (Kd.R_lower ho11 (below_size (by repeat (first | (with_reducible first | exact HB.out | apply below_alloc | apply pw_below_drewN | apply below_drew1) | exact HB.out)))); have n3_ := Aside0.mk (below_step (by repeat (first | (with_reducible first | exact HB.out | apply below_alloc | apply pw_below_drewN | apply below_drew1) | exact HB.out)) hb); clear HO148; clear HO150; clear HB; have HO148 := n0_; have HO150 := n1_; have HO153 := n2_; have HB := n3_; clear n0_ n1_ n2_ n3_; clear hb ho11; obtain ⟨Ao12, co12, eo12⟩ := Kd.R_slice HO153.out; subst eo12))
    go_loopg [33] k (fun kq v33 w' => ∃ (x9_1 : List Int) (x33_1 : Int), v33 = .int .i64 x33_1 ∧ Aside0 (dist_Of.l0 kq t144 t145 x9_1 (y151.length : Int) x33_1 = some (r1, r2)) ∧ Aside0 (kq ≤ k) ∧ Aside0 (Kd.R Kd.string 9 w' w.heap.size (fun k_ => some k_ ≠ ((.slice Ao9 t145.length co9) : Value).ownBlock) v147 t144) ∧ Aside0 (Kd.R Kd.string 9 w' w.heap.size (fun k_ => some k_ ≠ (v147 : Value).ownBlock) (.slice Ao9 t145.length co9) t145) ∧ Aside0 (Kd.R (Kd.int .i64) 3 w' w.heap.size (fun _ => True) (.slice Ao12 y151.length co12) x9_1) ∧ Aside0 (Below w.heap.size w w'))
    case atStart => exact ⟨(y151), (0), (by first | rfl | (simp; done) | (simp [*]; done)), H', ⟨Nat.le_refl _⟩, ⟨by (with_reducible repeat (first | apply Kd.R_alloc | apply Kd.R_drewN | apply Kd.R_drew)); exact HO148.out⟩, ⟨by (with_reducible repeat (first | apply Kd.R_alloc | apply Kd.R_drewN | apply Kd.R_drew)); exact HO150.out⟩, ⟨by (with_reducible repeat (first | apply Kd.R_alloc | apply Kd.R_drewN | apply Kd.R_drew)); exact HO153.out⟩, ⟨by repeat (first | (with_reducible first | exact HB.out | apply below_alloc | apply pw_below_drewN | apply below_drew1) | exact HB.out)⟩⟩
    case round =>
     clear H'
     (try clear p2); (try clear c4); (try clear c4b0); (try clear c4b1); (try clear c5); (try clear c6); (try clear c6b0); (try clear c6b1); (try clear p6); (try clear c7); (try clear c7b0); (try clear c7b1)
     obtain ⟨x9_1, x33_1, rfl, HA, HK1, HO_6, HO_7, HO_9, HB⟩ := hrel
     have hl9_1 := (Kd.R_reads' HO_9.out).1
     rw [hl9_1] at HO_9
     (try simp only [hl9_1])
     (try simp only [hl9_1] at HO_6)
     (try simp only [hl9_1] at HO_7)
     cases gk with
     | zero => exact absurd HA.out (by simp [dist_Of.l0])
     | succ k1 =>
      have H := HA.out
      clear HA
      simp only [dist_Of.l0] at H
      by_cases c13 : x33_1 < (y151.length : Int)
      ·
       rw [if_pos c13] at H
       have c13b0 : decide (x33_1 < (y151.length : Int)) = true := decide_eq_true c13
       have c13b0z := c13b0
       (try rw [hl9_1] at c13b0z)
       clear c13
       by_cases c14 : 0 ≤ x33_1
       ·
        rw [if_pos c14] at H
        have c14b0 : decide (0 ≤ x33_1) = true := decide_eq_true c14
        clear c14
        by_cases c15 : x33_1 < (x9_1.length : Int)
        ·
         rw [if_pos c15] at H
         have c15b0 : decide (x33_1 < (x9_1.length : Int)) = true := decide_eq_true c15
         have c15b0z := c15b0
         (try rw [hl9_1] at c15b0z)
         clear c15
         obtain ⟨y154, hy154⟩ : ∃ y_ : List Int, y_ = (x9_1.set (x33_1 : Int).toNat x33_1) := ⟨_, rfl⟩
         replace H : (dist_Of.l0 k1 t144 t145 y154 (y151.length : Int) (wrap64 (x33_1 + 1))) = some (r1, r2) := by first | (rw [hy154]; with_reducible exact H) | (have H2_ := (Option.bind_some _ _).symm.trans H; rw [hy154]; with_reducible exact H2_) | (have H2_ := (Option.bind_some _ _).symm.trans H; with_reducible exact H2_) | with_reducible exact H | (rw [hy154]; exact H) | exact H
         have Ny154 := Aside0.mk hy154
         clear hy154
         have H' := Aside0.mk H
         clear H
         have p16 : 0 ≤ (x33_1 : Int) := of_decide_eq_true (by first | (with_reducible assumption) | assumption)
         have q16 : (x33_1 : Int) < ((x9_1.length : Int) : Int) := of_decide_eq_true (by first | (with_reducible assumption) | assumption)
         obtain ⟨go16, co16, eo16, gb16, gl16, cl16, HG16⟩ := Kd.R_form HO_9.out (by omega)
         (first | cases eo16 | (injection eo16 with ea_ en_ ec_; (first | subst ea_ | (injection ea_ with ea_; subst ea_)); subst ec_; clear en_))
         have GB16 := Aside0.mk gb16
         have GG16 := Aside0.mk HG16
         clear gb16 gl16 HG16
         obtain ⟨hx16_0, hf16_0⟩ := Kd.R_celln 0 HO_9.out (x33_1 : Int) p16 q16
         replace p16 := eq_true p16
         replace q16 := eq_true q16
         have HP17 := Kd.R_putg HO_9.out (x33_1 : Int) x33_1
         go_wp2_with (first | ((with_reducible refine gate_store (t := 3) (p := 39) rfl ?_); refine store_event (t := 3) (p := 39) (v := ?vo_w18) (w1 := (wr.setCell ⟨go16, (x33_1 : Int).toNat, none⟩ (.int .i64 x33_1))) ?hg ?ho ?hn ?hr ?_; (case ho => rfl); (case hg => rfl); (case hn => rfl); (case hr => first | (go_simp; done) | (go_simp; rfl)); intro w18 hw; have hg : wr.grownBy w18 (some go16) := (by rw [hw]; exact HP17.2); have hp_ : Kd.R (Kd.int .i64) 3 w18 w.heap.size (fun _ => True) (.slice (some ⟨go16, 0, none⟩) x9_1.length co12) y154 := (by rw [hw, Ny154.out]; exact HP17.1); clear HP17; have n0_ := Aside0.mk (Kd.R_over' (v := (.slice (some ⟨go16, 0, none⟩) x9_1.length co12)) (by (with_reducible repeat (first | apply Kd.R_alloc | apply Kd.R_drewN | apply Kd.R_drew)); exact HO_6.out) (Kd.R_typed HO_9.out) (by decide) hg); have n1_ := Aside0.mk (Kd.R_over' (v := (.slice (some ⟨go16, 0, none⟩) x9_1.length co12)) (by (with_reducible repeat (first | apply Kd.R_alloc | apply Kd.R_drewN | apply Kd.R_drew)); exact HO_7.out) (Kd.R_typed HO_9.out) (by decide) hg); have n2_ := Aside0.mk (hp_); have n3_ := Aside0.mk ((by rw [hw]; exact below_set (HB.out) GB16.out : Below w.heap.size w w18)); clear HO_6; clear HO_7; clear HO_9; clear HB; have HO_6 := n0_; have HO_7 := n1_; have HO_9 := n2_; have HB := n3_; clear n0_ n1_ n2_ n3_; clear hg hw hp_))
         (try simp only [← hl9_1])
         go_roundg k1
         case measure => have := HK1.out; omega
         case rel => exact ⟨(y154), (wrap64 (x33_1 + 1)), (by first | rfl | (simp; done) | (simp [*]; done)), H', ⟨by have := HK1.out; omega⟩, ⟨by (try simp only [hl9_1]); (with_reducible repeat (first | apply Kd.R_alloc | apply Kd.R_drewN | apply Kd.R_drew)); exact HO_6.out⟩, ⟨by (try simp only [hl9_1]); (with_reducible repeat (first | apply Kd.R_alloc | apply Kd.R_drewN | apply Kd.R_drew)); exact HO_7.out⟩, ⟨by (try simp only [hl9_1]); (with_reducible repeat (first | apply Kd.R_alloc | apply Kd.R_drewN | apply Kd.R_drew)); exact HO_9.out⟩, ⟨by repeat (first | (with_reducible first | exact HB.out | apply below_alloc | apply pw_below_drewN | apply below_drew1) | exact HB.out)⟩⟩
        ·
         rw [if_neg c15] at H
         exact absurd H (by simp)
       ·
        rw [if_neg c14] at H
        exact absurd H (by simp)
      ·
       rw [if_neg c13] at H
       have c13b0 : decide (x33_1 < (y151.length : Int)) = false := decide_eq_false c13
       have c13b0z := c13b0
       (try rw [hl9_1] at c13b0z)
       clear c13
       by_cases c19 : 0 ≤ (x9_1.length : Int)
       ·
        rw [if_pos c19] at H
        have c19b0 := eq_true c19
        have c19b1 : decide (0 ≤ (x9_1.length : Int)) = true := decide_eq_true c19
        have c19b1z := c19b1
        (try rw [hl9_1] at c19b1z)
        clear c19
        by_cases c20 : ((x9_1.length : Int) : Int).toNat ≤ 35184372088832
        ·
         rw [if_pos c20] at H
         have c20b0 := eq_true c20
         have c20b1 : decide (((x9_1.length : Int) : Int).toNat ≤ 35184372088832) = true := decide_eq_true c20
         have c20b1z := c20b1
         (try rw [hl9_1] at c20b1z)
         clear c20
         obtain ⟨y155, hy155⟩ : ∃ y_ : List Int, y_ = (List.replicate ((x9_1.length : Int) : Int).toNat 0) := ⟨_, rfl⟩
         replace H : (dist_Of.l1 k1 t145 x9_1 y155 t144 (t144.length : Int) 0) = some (r1, r2) := by first | (rw [hy155]; with_reducible exact H) | (have H2_ := (Option.bind_some _ _).symm.trans H; rw [hy155]; with_reducible exact H2_) | (have H2_ := (Option.bind_some _ _).symm.trans H; with_reducible exact H2_) | with_reducible exact H | (rw [hy155]; exact H) | exact H
         have Ny155 := Aside0.mk hy155
         clear hy155
         have H' := Aside0.mk H
         clear H
         go_wp2_with (first | ((with_reducible refine gate_dst (N := 43) rfl ?_); refine Kd.R_make (Kd.int .i64) _ 3 rfl (N := 43) rfl 45 _ _ rfl (x9_1.length : Int) rfl rfl Tryd.underlying45 (.int .i64 0) 8 info3 rfl (by decide) (by omega) 0 (ok := fun _ => True) (okp := fun _ => True) rfl (fun _ hk => hk) trivial (of_decide_eq_true (by first | (with_reducible assumption) | assumption)) (Nat.le_trans (Nat.mul_le_mul_right _ (of_decide_eq_true (by first | (with_reducible assumption) | assumption) : (x9_1.length : Int).toNat ≤ 35184372088832)) (by omega)) (Below.refl _ _) (Nat.le_refl _) ?_; intro v156 w21 ho22 hb hg_ hnew_; clear hg_ hnew_; (first | rw [← Ny155.out] at ho22 | (simp only [Int.reduceToNat] at ho22; rw [← Ny155.out] at ho22)); have n0_ := Aside0.mk (Kd.R_below (by (with_reducible repeat (first | apply Kd.R_alloc | apply Kd.R_drewN | apply Kd.R_drew)); exact HO_6.out) hb); have n1_ := Aside0.mk (Kd.R_below (by (with_reducible repeat (first | apply Kd.R_alloc | apply Kd.R_drewN | apply Kd.R_drew)); exact HO_7.out) hb); have n2_ := Aside0.mk (Kd.R_elder' (by (with_reducible repeat (first | apply Kd.R_alloc | apply Kd.R_drewN | apply Kd.R_drew)); exact HO_9.out) (Kd.R_base ho22) hb); have n3_ := Aside0.mk (Kd.R_lower (Kd.R_new' ho22 (Kd.R_lt (by (with_reducible repeat (first | apply Kd.R_alloc | apply Kd.R_drewN | apply Kd.R_drew)); exact HO_9.out))) (below_size (by repeat (first | (with_reducible first | exact HB.out | apply below_alloc | apply pw_below_drewN | apply below_drew1) | exact HB.out)))); have n4_ := Aside0.mk (below_step (by repeat (first | (with_reducible first | exact HB.out | apply below_alloc | apply pw_below_drewN | apply below_drew1) | exact HB.out)) hb); clear HO_6; clear HO_7; clear HO_9; clear HB; have HO_6 := n0_; have HO_7 := n1_; have HO_9 := n2_; have HO157 := n3_; have HB := n4_; clear n0_ n1_ n2_ n3_ n4_; clear hb ho22; obtain ⟨Ao23, co23, eo23⟩ := Kd.R_slice HO_6.out; subst eo23))
         go_loopg [46] k1 (fun kq v46 w' => ∃ (x9_2 : List Int) (x11_2 : List Int) (x46_2 : Int), v46 = .int .i64 x46_2 ∧ Aside0 (dist_Of.l1 kq t145 x9_2 x11_2 t144 (t144.length : Int) x46_2 = some (r1, r2)) ∧ Aside0 (kq ≤ k1) ∧ Aside0 (Kd.R Kd.string 9 w' w.heap.size (fun k_ => some k_ ≠ ((.slice Ao23 t144.length co23) : Value).ownBlock) (.slice Ao9 t145.length co9) t145) ∧ Aside0 (Kd.R (Kd.int .i64) 3 w' w.heap.size (fun k_ => some k_ ≠ (v156 : Value).ownBlock) (.slice Ao12 x9_1.length co12) x9_2) ∧ Aside0 (Kd.R (Kd.int .i64) 3 w' w.heap.size (fun k_ => some k_ ≠ ((.slice Ao12 x9_1.length co12) : Value).ownBlock) v156 x11_2) ∧ Aside0 (Kd.R Kd.string 9 w' w.heap.size (fun k_ => some k_ ≠ ((.slice Ao9 t145.length co9) : Value).ownBlock) (.slice Ao23 t144.length co23) t144) ∧ Aside0 (Below w.heap.size w w'))
         case atStart => exact ⟨(x9_1), (y155), (0), (by first | rfl | (simp; done) | (simp [*]; done)), H', ⟨Nat.le_refl _⟩, ⟨by (try simp only [hl9_1]); (with_reducible repeat (first | apply Kd.R_alloc | apply Kd.R_drewN | apply Kd.R_drew)); exact HO_7.out⟩, ⟨by (try simp only [hl9_1]); (with_reducible repeat (first | apply Kd.R_alloc | apply Kd.R_drewN | apply Kd.R_drew)); exact Kd.R_mono HO_9.out (fun _ hk => hk.2)⟩, ⟨by (try simp only [hl9_1]); (with_reducible repeat (first | apply Kd.R_alloc | apply Kd.R_drewN | apply Kd.R_drew)); exact Kd.R_mono HO157.out (fun _ hk => hk.2)⟩, ⟨by (try simp only [hl9_1]); (with_reducible repeat (first | apply Kd.R_alloc | apply Kd.R_drewN | apply Kd.R_drew)); exact HO_6.out⟩, ⟨by repeat (first | (with_reducible first | exact HB.out | apply below_alloc | apply pw_below_drewN | apply below_drew1) | exact HB.out)⟩⟩
         case round =>
          clear H'
          (try clear c1); (try clear p1); (try clear q1); (try clear hx1); (try clear c2); (try clear p2); (try clear c4); (try clear c4b0); (try clear c4b1); (try clear c5); (try clear c6); (try clear c6b0); (try clear c6b1); (try clear p6); (try clear c7); (try clear c7b0); (try clear c7b1); (try clear c13); (try clear c13b0); (try clear c14); (try clear c14b0); (try clear c15); (try clear c15b0); (try clear p16); (try clear q16); (try clear hx16); (try clear hf16); (try clear c19); (try clear c19b0); (try clear c19b1); (try clear c20); (try clear c20b0); (try clear c20b1); (try clear hx16_0)
          obtain ⟨x9_2, x11_2, x46_2, rfl, HA, HK2, HO_7, HO_9, HO_11, HO_44, HB⟩ := hrel
          have hl9_2 := (Kd.R_reads' HO_9.out).1
          rw [hl9_2] at HO_9
          (try simp only [hl9_2])
          (try simp only [hl9_2] at HO_7)
          (try simp only [hl9_2] at HO_11)
          (try simp only [hl9_2] at HO_44)
          cases gk with
          | zero => exact absurd HA.out (by simp [dist_Of.l1])
          | succ k2 =>
           have H := HA.out
           clear HA
           simp only [dist_Of.l1] at H
           by_cases c24 : x46_2 < (t144.length : Int)
           ·
            rw [if_pos c24] at H
            have c24b0 : decide (x46_2 < (t144.length : Int)) = true := decide_eq_true c24
            clear c24
            by_cases c25 : 0 ≤ x46_2
            ·
             rw [if_pos c25] at H
             have c25b0 : decide (0 ≤ x46_2) = true := decide_eq_true c25
             clear c25
             by_cases c26 : x46_2 < (t144.length : Int)
             ·
              rw [if_pos c26] at H
              have c26b0 : decide (x46_2 < (t144.length : Int)) = true := decide_eq_true c26
              clear c26
              by_cases c27 : 0 < (x11_2.length : Int)
              ·
               rw [if_pos c27] at H
               have c27b0 := eq_true c27
               have c27b1 : decide (0 < (x11_2.length : Int)) = true := decide_eq_true c27
               have c27b1z := c27b1
               (try rw [hl9_1] at c27b1z)
               have c27b1z := c27b1
               (try rw [hl9_2] at c27b1z)
               clear c27
               by_cases c28 : (x9_2.length : Int) = (x11_2.length : Int)
               ·
                rw [if_pos c28] at H
                have c28b0 := eq_true c28
                have c28b1 : decide ((x9_2.length : Int) = (x11_2.length : Int)) = true := decide_eq_true c28
                have c28b1z := c28b1
                (try rw [hl9_1] at c28b1z)
                have c28b1z := c28b1
                (try rw [hl9_2] at c28b1z)
                clear c28
                obtain ⟨y160, hy160⟩ : ∃ y_ : List Int, y_ = (x9_2) := ⟨_, rfl⟩
                replace H : (if 0 < (x9_2.length : Int) then (dist_Of.l2 k2 t145 (x9_2.set (0 : Int).toNat (wrap64 (x46_2 + 1))) y160 (rdOf ByteArray.empty t144 x46_2) t144 (t144.length : Int) x46_2 t145 (t145.length : Int) 0) else (none)) = some (r1, r2) := by first | (rw [hy160]; with_reducible exact H) | (have H2_ := (Option.bind_some _ _).symm.trans H; rw [hy160]; with_reducible exact H2_) | (have H2_ := (Option.bind_some _ _).symm.trans H; with_reducible exact H2_) | with_reducible exact H | (rw [hy160]; exact H) | exact H
                have Ny160 := Aside0.mk hy160
                clear hy160
                by_cases c29 : 0 < (x9_2.length : Int)
                ·
                 rw [if_pos c29] at H
                 have c29b0 : decide (0 < (x9_2.length : Int)) = true := decide_eq_true c29
                 have c29b0z := c29b0
                 (try rw [hl9_1] at c29b0z)
                 have c29b0z := c29b0
                 (try rw [hl9_2] at c29b0z)
                 have c29b1 : decide (0 < x9_2.length) = true := decide_eq_true (by omega)
                 have c29b1z := c29b1
                 (try rw [hl9_1] at c29b1z)
                 have c29b1z := c29b1
                 (try rw [hl9_2] at c29b1z)
                 clear c29
                 obtain ⟨y161, hy161⟩ : ∃ y_ : List Int, y_ = (x9_2.set (0 : Int).toNat (wrap64 (x46_2 + 1))) := ⟨_, rfl⟩
                 replace H : (dist_Of.l2 k2 t145 y161 y160 (rdOf ByteArray.empty t144 x46_2) t144 (t144.length : Int) x46_2 t145 (t145.length : Int) 0) = some (r1, r2) := by first | (rw [hy161]; with_reducible exact H) | (have H2_ := (Option.bind_some _ _).symm.trans H; rw [hy161]; with_reducible exact H2_) | (have H2_ := (Option.bind_some _ _).symm.trans H; with_reducible exact H2_) | with_reducible exact H | (rw [hy161]; exact H) | exact H
                 have Ny161 := Aside0.mk hy161
                 clear hy161
                 have H' := Aside0.mk H
                 clear H
                 have p159 : 0 ≤ (x46_2 : Int) := of_decide_eq_true (by first | (with_reducible assumption) | assumption)
                 have q159 : x46_2 < (t144.length : Int) := of_decide_eq_true (by first | (with_reducible assumption) | assumption)
                 obtain ⟨ad159, e159, hx159_0⟩ := Kd.at_string (Kd.R_reads' HO_44.out).2.2 x46_2 p159 q159
                 cases e159
                 replace p159 := eq_true p159
                 replace q159 := eq_true q159
                 obtain ⟨Ao31, co31, eo31⟩ := Kd.R_slice HO_11.out
                 subst eo31
                 obtain ⟨go33, co33, eo33, gb33, gl33, cl33, HG33⟩ := Kd.R_form HO_11.out (by have h_ : 0 < ((x11_2.length : Int) : Int) := of_decide_eq_true (by first | (with_reducible assumption) | assumption); omega)
                 (first | cases eo33 | (injection eo33 with ea_ en_ ec_; (first | subst ea_ | (injection ea_ with ea_; subst ea_)); subst ec_; clear en_))
                 have GB33 := Aside0.mk gb33
                 have GG33 := Aside0.mk HG33
                 clear gb33 gl33 HG33
                 go_wp2_with (first | ((with_reducible refine gate_builtin (b := .copy) (xs := #[.tmp 51, .tmp 52]) rfl ?_); have hp0_ : 0 < ((x11_2.length : Int) : Int) := of_decide_eq_true (by first | (with_reducible assumption) | assumption); have hq0_ : ((x9_2.length : Int) : Int) = (x11_2.length : Int) := beq_iff_eq.1 (by first | (with_reducible assumption) | assumption); have hr0_ := (Kd.R_reads' HO_11.out).1; have hr1_ := (Kd.R_reads' HO_9.out).1; refine Cp.copy_all (w0 := w) (base := w.heap.size) (L := (x11_2.length : Int)) rfl (.tmp 51) (.tmp 52) 45 45 rfl Tryd.underlying45 (by kernel_rfl) rfl rfl (by (with_reducible repeat (first | apply Kd.R_alloc | apply Kd.R_drewN | apply Kd.R_drew)); exact HO_11.out) (Kd.R_reads' (by (with_reducible repeat (first | apply Kd.R_alloc | apply Kd.R_drewN | apply Kd.R_drew)); exact HO_9.out)).2.2 (by omega) (by omega) (by omega) (by repeat (first | (with_reducible first | exact HB.out | apply below_alloc | apply pw_below_drewN | apply below_drew1) | exact HB.out)) GB33.out ?_; intro w32 ho hb hg; clear hp0_ hq0_ hr0_ hr1_; have hp_ : Kd.R (Kd.int .i64) 3 w32 w.heap.size (fun k_ => some k_ ≠ (.slice Ao12 x9_2.length co12 : Value).ownBlock) (.slice (some ⟨go33, 0, none⟩) x11_2.length co31) y160 := (by rw [Ny160.out]; exact ho); have n0_ := Aside0.mk (Kd.R_over' (v := (.slice (some ⟨go33, 0, none⟩) x11_2.length co31)) (by (with_reducible repeat (first | apply Kd.R_alloc | apply Kd.R_drewN | apply Kd.R_drew)); exact HO_7.out) (Kd.R_typed HO_11.out) (by decide) hg); have n1_ := Aside0.mk (Kd.R_after (v := (.slice (some ⟨go33, 0, none⟩) x11_2.length co31)) (v1 := (.slice (some ⟨go33, 0, none⟩) x11_2.length co31)) (ok := (fun _ => True)) (by (with_reducible repeat (first | apply Kd.R_alloc | apply Kd.R_drewN | apply Kd.R_drew)); exact Kd.R_mono HO_9.out (fun _ hk => ⟨trivial, hk⟩)) hg (.inl rfl)); have n2_ := Aside0.mk (hp_); have n3_ := Aside0.mk (Kd.R_over' (v := (.slice (some ⟨go33, 0, none⟩) x11_2.length co31)) (by (with_reducible repeat (first | apply Kd.R_alloc | apply Kd.R_drewN | apply Kd.R_drew)); exact HO_44.out) (Kd.R_typed HO_11.out) (by decide) hg); have n4_ := Aside0.mk (hb); clear HO_7; clear HO_9; clear HO_11; clear HO_44; clear HB; have HO_7 := n0_; have HO_9 := n1_; have HO_11 := n2_; have HO_44 := n3_; have HB := n4_; clear n0_ n1_ n2_ n3_ n4_; clear ho hb hg hp_; have p30 : 0 ≤ (0 : Int) := (by omega); have q30 : (0 : Int) < ((x9_2.length : Int) : Int) := of_decide_eq_true (by first | (with_reducible assumption) | assumption); have qi30 : (0 < x9_2.length) = True := eq_true (by omega); obtain ⟨go30, co30, eo30, gb30, gl30, cl30, HG30⟩ := Kd.R_form HO_9.out (by omega); (first | cases eo30 | (injection eo30 with ea_ en_ ec_; (first | subst ea_ | (injection ea_ with ea_; subst ea_)); subst ec_; clear en_)); have GB30 := Aside0.mk gb30; have GG30 := Aside0.mk HG30; clear gb30 gl30 HG30; obtain ⟨hx30_0, hf30_0⟩ := Kd.R_celln 0 HO_9.out (0 : Int) p30 q30; (try rw [show ((0 : Int)).toNat = 0 from rfl] at hx30_0); (try simp only [Nat.reduceMul, Nat.zero_mul, Nat.zero_add, Nat.reduceAdd] at hx30_0); (try rw [show ((0 : Int)).toNat = 0 from rfl] at hf30_0); (try simp only [Nat.reduceMul, Nat.zero_mul, Nat.zero_add, Nat.reduceAdd] at hf30_0); replace p30 := eq_true p30; replace q30 := eq_true q30; have n_ := Aside0.mk (Kd.R_mono (ok' := (fun k_ => some k_ ≠ (.slice (some ⟨go33, 0, none⟩) x11_2.length co31 : Value).ownBlock)) HO_9.out (fun k_ hk => hk.2)); clear HO_9; have HO_9 := n_; clear n_; obtain ⟨hy34_, hz34_⟩ := Kd.R_celln 0 HO_9.out (0 : Int) (by omega) (of_decide_eq_true (by first | (with_reducible assumption) | assumption)); (try simp only [Int.reduceToNat, Int.toNat_zero, Int.toNat_ofNat, Nat.reduceMul, Nat.zero_mul, Nat.zero_add] at hy34_ hz34_); (try rw [show ((0 : Int)).toNat = 0 from rfl] at hy34_); (try rw [show ((0 : Int)).toNat = 0 from rfl] at hz34_); have HP34 := Kd.R_putg HO_9.out (0 : Int) (wrap64 (x46_2 + 1))) | ((with_reducible refine gate_store (t := 3) (p := 57) rfl ?_); refine store_event (t := 3) (p := 57) (v := ?vo_w35) (w1 := (w32.setCell ⟨go30, (0 : Int).toNat, none⟩ (.int .i64 (wrap64 (x46_2 + 1))))) ?hg ?ho ?hn ?hr ?_; (case ho => rfl); (case hg => rfl); (case hn => rfl); (case hr => first | (go_simp; done) | (go_simp; rfl)); intro w35 hw; have hg : w32.grownBy w35 (some go30) := (by rw [hw]; exact HP34.2); have hp_ : Kd.R (Kd.int .i64) 3 w35 w.heap.size (fun k_ => some k_ ≠ (.slice (some ⟨go33, 0, none⟩) x11_2.length co31 : Value).ownBlock) (.slice (some ⟨go30, 0, none⟩) x9_2.length co12) y161 := (by rw [hw, Ny161.out]; exact HP34.1); clear HP34; have n0_ := Aside0.mk (Kd.R_over' (v := (.slice (some ⟨go30, 0, none⟩) x9_2.length co12)) (by (with_reducible repeat (first | apply Kd.R_alloc | apply Kd.R_drewN | apply Kd.R_drew)); exact HO_7.out) (Kd.R_typed HO_9.out) (by decide) hg); have n1_ := Aside0.mk (hp_); have n2_ := Aside0.mk (Kd.R_after (v := (.slice (some ⟨go30, 0, none⟩) x9_2.length co12)) (v1 := (.slice (some ⟨go30, 0, none⟩) x9_2.length co12)) (ok := (fun _ => True)) (by (with_reducible repeat (first | apply Kd.R_alloc | apply Kd.R_drewN | apply Kd.R_drew)); exact Kd.R_mono HO_11.out (fun _ hk => ⟨trivial, hk⟩)) hg (.inl rfl)); have n3_ := Aside0.mk (Kd.R_over' (v := (.slice (some ⟨go30, 0, none⟩) x9_2.length co12)) (by (with_reducible repeat (first | apply Kd.R_alloc | apply Kd.R_drewN | apply Kd.R_drew)); exact HO_44.out) (Kd.R_typed HO_9.out) (by decide) hg); have n4_ := Aside0.mk ((by rw [hw]; exact below_set (HB.out) GB30.out : Below w.heap.size w w35)); clear HO_7; clear HO_9; clear HO_11; clear HO_44; clear HB; have HO_7 := n0_; have HO_9 := n1_; have HO_11 := n2_; have HO_44 := n3_; have HB := n4_; clear n0_ n1_ n2_ n3_ n4_; clear hg hw hp_))
                 go_loopg [60] k2 (fun kq v60 w' => ∃ (x9_3 : List Int) (x60_3 : Int), v60 = .int .i64 x60_3 ∧ Aside0 (dist_Of.l2 kq t145 x9_3 y160 (rdOf ByteArray.empty t144 x46_2) t144 (t144.length : Int) x46_2 t145 (t145.length : Int) x60_3 = some (r1, r2)) ∧ Aside0 (kq ≤ k2) ∧ Aside0 (Kd.R Kd.string 9 w' w.heap.size (fun k_ => some k_ ≠ ((.slice (some ad159) t144.length co23) : Value).ownBlock) (.slice Ao9 t145.length co9) t145) ∧ Aside0 (Kd.R (Kd.int .i64) 3 w' w.heap.size (fun k_ => some k_ ≠ ((.slice (some ⟨go33, 0, none⟩) x11_2.length co31) : Value).ownBlock) (.slice (some ⟨go30, 0, none⟩) x9_2.length co12) x9_3) ∧ Aside0 (Kd.R (Kd.int .i64) 3 w' w.heap.size (fun k_ => some k_ ≠ ((.slice (some ⟨go30, 0, none⟩) x9_2.length co12) : Value).ownBlock) (.slice (some ⟨go33, 0, none⟩) x11_2.length co31) y160) ∧ Aside0 (Kd.R Kd.string 9 w' w.heap.size (fun k_ => some k_ ≠ ((.slice Ao9 t145.length co9) : Value).ownBlock ∧ some k_ ≠ ((.slice Ao9 t145.length co9) : Value).ownBlock) (.slice (some ad159) t144.length co23) t144) ∧ Aside0 (Kd.R Kd.string 9 w' w.heap.size (fun k_ => some k_ ≠ ((.slice (some ad159) t144.length co23) : Value).ownBlock) (.slice Ao9 t145.length co9) t145) ∧ Aside0 (Below w.heap.size w w'))
                 case atStart => exact ⟨(y161), (0), (by first | rfl | (simp; done) | (simp [*]; done)), H', ⟨Nat.le_refl _⟩, ⟨by (try simp only [hl9_1]); (try simp only [hl9_2]); (with_reducible repeat (first | apply Kd.R_alloc | apply Kd.R_drewN | apply Kd.R_drew)); exact HO_7.out⟩, ⟨by (try simp only [hl9_1]); (try simp only [hl9_2]); (with_reducible repeat (first | apply Kd.R_alloc | apply Kd.R_drewN | apply Kd.R_drew)); exact HO_9.out⟩, ⟨by (try simp only [hl9_1]); (try simp only [hl9_2]); (with_reducible repeat (first | apply Kd.R_alloc | apply Kd.R_drewN | apply Kd.R_drew)); exact Kd.R_mono HO_11.out (fun _ hk => hk.2)⟩, ⟨by (try simp only [hl9_1]); (try simp only [hl9_2]); (with_reducible repeat (first | apply Kd.R_alloc | apply Kd.R_drewN | apply Kd.R_drew)); exact Kd.R_mono HO_44.out (fun _ hk => ⟨hk, hk⟩)⟩, ⟨by (try simp only [hl9_1]); (try simp only [hl9_2]); (with_reducible repeat (first | apply Kd.R_alloc | apply Kd.R_drewN | apply Kd.R_drew)); exact HO_7.out⟩, ⟨by repeat (first | (with_reducible first | exact HB.out | apply below_alloc | apply pw_below_drewN | apply below_drew1) | exact HB.out)⟩⟩
                 case round =>
                  clear H'
                  (try clear c1); (try clear p1); (try clear q1); (try clear hx1); (try clear c2); (try clear p2); (try clear p3); (try clear q3); (try clear hx3); (try clear qi3); (try clear hf3); (try clear c4); (try clear c4b0); (try clear c4b1); (try clear c5); (try clear c6); (try clear c6b0); (try clear c6b1); (try clear p6); (try clear c7); (try clear c7b0); (try clear c7b1); (try clear c13); (try clear c13b0); (try clear c14); (try clear c14b0); (try clear c15); (try clear c15b0); (try clear p15); (try clear q15); (try clear hx15); (try clear p16); (try clear q16); (try clear hx16); (try clear hf16); (try clear c19); (try clear c19b0); (try clear c19b1); (try clear c20); (try clear c20b0); (try clear c20b1); (try clear c24); (try clear c24b0); (try clear c25); (try clear c25b0); (try clear c26); (try clear c26b0); (try clear c27); (try clear c27b0); (try clear c27b1); (try clear c28); (try clear c28b0); (try clear c28b1); (try clear c29); (try clear c29b0); (try clear c29b1); (try clear p30); (try clear q30); (try clear hx30); (try clear qi30); (try clear hf30); (try clear hx159_0); (try clear hx16_0); (try clear hx30_0); (try clear p159); (try clear q159)
                  obtain ⟨x9_3, x60_3, rfl, HA, HK3, HO_7, HO_9, HO_11, HO_44, HO_58, HB⟩ := hrel
                  (try (obtain ⟨_, hgg_⟩ := Cp.R_headAt HO_9.out; clear GG30; have GG30 := Aside0.mk hgg_; clear hgg_))
                  (try (obtain ⟨_, hgg_⟩ := Cp.R_headAt HO_11.out; clear GG33; have GG33 := Aside0.mk hgg_; clear hgg_))
                  have hl9_3 := (Kd.R_reads' HO_9.out).1
                  rw [hl9_3] at HO_9
                  (try simp only [hl9_3])
                  (try simp only [hl9_3] at HO_7)
                  (try simp only [hl9_3] at HO_11)
                  (try simp only [hl9_3] at HO_44)
                  (try simp only [hl9_3] at HO_58)
                  have hl11_3 := (Kd.R_reads' HO_11.out).1
                  rw [hl11_3] at HO_11
                  (try simp only [hl11_3])
                  (try simp only [hl11_3] at HO_7)
                  (try simp only [hl11_3] at HO_9)
                  (try simp only [hl11_3] at HO_44)
                  (try simp only [hl11_3] at HO_58)
                  cases gk with
                  | zero => exact absurd HA.out (by simp [dist_Of.l2])
                  | succ k3 =>
                   have H := HA.out
                   clear HA
                   simp only [dist_Of.l2] at H
                   by_cases c36 : x60_3 < (t145.length : Int)
                   ·
                    rw [if_pos c36] at H
                    have c36b0 : decide (x60_3 < (t145.length : Int)) = true := decide_eq_true c36
                    clear c36
                    by_cases c37 : 0 ≤ x60_3
                    ·
                     rw [if_pos c37] at H
                     have c37b0 : decide (0 ≤ x60_3) = true := decide_eq_true c37
                     clear c37
                     by_cases c38 : x60_3 < (t145.length : Int)
                     ·
                      rw [if_pos c38] at H
                      have c38b0 : decide (x60_3 < (t145.length : Int)) = true := decide_eq_true c38
                      clear c38
                      by_cases c39 : x60_3 < (y160.length : Int)
                      ·
                       rw [if_pos c39] at H
                       have c39b0 : decide (x60_3 < (y160.length : Int)) = true := decide_eq_true c39
                       have c39b0z := c39b0
                       (try rw [hl9_1] at c39b0z)
                       have c39b0z := c39b0
                       (try rw [hl9_2] at c39b0z)
                       have c39b0z := c39b0
                       (try rw [hl9_3] at c39b0z)
                       have c39b0z := c39b0
                       (try rw [hl11_3] at c39b0z)
                       clear c39
                       by_cases c40 : (rdOf ByteArray.empty t144 x46_2).toList = (rdOf ByteArray.empty t145 x60_3).toList
                       ·
                        rw [if_pos c40] at H
                        have c40b0 : ((rdOf ByteArray.empty t144 x46_2).toList == (rdOf ByteArray.empty t145 x60_3).toList) = true := beq_iff_eq.mpr c40
                        have c40b1 : ((rdOf ByteArray.empty t144 x46_2).toList != (rdOf ByteArray.empty t145 x60_3).toList) = false := bne_eq_false_iff_eq.mpr c40
                        clear c40
                        obtain ⟨ji41, hji41⟩ : ∃ j_ : Int, (wrap64 (x60_3 + 1)) = j_ := ⟨_, rfl⟩
                        replace H : (if 0 ≤ (ji41) then (if (ji41) < (y160.length : Int) then (if x60_3 < (x9_3.length : Int) then (if (ji41) < (x9_3.length : Int) then (dist_Of.l2 k3 t145 (x9_3.set ((ji41) : Int).toNat (mn (mn (rd y160 x60_3) (wrap64 ((rd y160 (ji41)) + 1))) (wrap64 ((rd x9_3 x60_3) + 1)))) y160 (rdOf ByteArray.empty t144 x46_2) t144 (t144.length : Int) x46_2 t145 (t145.length : Int) ji41) else (none)) else (none)) else (none)) else (none)) = some (r1, r2) := by first | (rw [hji41] at H; exact H) | (simp only [hji41] at H ⊢; exact H)
                        have hji41w : (IntKind.i64.wrap (x60_3 + 1)) = ji41 := (i64_w _).trans hji41
                        by_cases c42 : 0 ≤ (ji41)
                        ·
                         rw [if_pos c42] at H
                         have c42b0 : decide (0 ≤ (ji41)) = true := decide_eq_true c42
                         clear c42
                         by_cases c43 : (ji41) < (y160.length : Int)
                         ·
                          rw [if_pos c43] at H
                          have c43b0 : decide ((ji41) < (y160.length : Int)) = true := decide_eq_true c43
                          have c43b0z := c43b0
                          (try rw [hl9_1] at c43b0z)
                          have c43b0z := c43b0
                          (try rw [hl9_2] at c43b0z)
                          have c43b0z := c43b0
                          (try rw [hl9_3] at c43b0z)
                          have c43b0z := c43b0
                          (try rw [hl11_3] at c43b0z)
                          clear c43
                          by_cases c44 : x60_3 < (x9_3.length : Int)
                          ·
                           rw [if_pos c44] at H
                           have c44b0 : decide (x60_3 < (x9_3.length : Int)) = true := decide_eq_true c44
                           have c44b0z := c44b0
                           (try rw [hl9_1] at c44b0z)
                           have c44b0z := c44b0
                           (try rw [hl9_2] at c44b0z)
                           have c44b0z := c44b0
                           (try rw [hl9_3] at c44b0z)
                           have c44b0z := c44b0
                           (try rw [hl11_3] at c44b0z)
                           clear c44
                           obtain ⟨ji45, hji45⟩ : ∃ j_ : Int, (mn (rd y160 x60_3) (wrap64 ((rd y160 (ji41)) + 1))) = j_ := ⟨_, rfl⟩
                           replace H : (if (ji41) < (x9_3.length : Int) then (dist_Of.l2 k3 t145 (x9_3.set ((ji41) : Int).toNat (mn (ji45) (wrap64 ((rd x9_3 x60_3) + 1)))) y160 (rdOf ByteArray.empty t144 x46_2) t144 (t144.length : Int) x46_2 t145 (t145.length : Int) ji41) else (none)) = some (r1, r2) := by first | (rw [hji45] at H; exact H) | (simp only [hji45] at H ⊢; exact H)
                           have hji45_ : (if (wrap64 ((rd y160 (ji41)) + 1)) < (rd y160 x60_3) then (wrap64 ((rd y160 (ji41)) + 1)) else (rd y160 x60_3)) = ji45 := hji45
                           obtain ⟨ji46, hji46⟩ : ∃ j_ : Int, (mn (ji45) (wrap64 ((rd x9_3 x60_3) + 1))) = j_ := ⟨_, rfl⟩
                           replace H : (if (ji41) < (x9_3.length : Int) then (dist_Of.l2 k3 t145 (x9_3.set ((ji41) : Int).toNat (ji46)) y160 (rdOf ByteArray.empty t144 x46_2) t144 (t144.length : Int) x46_2 t145 (t145.length : Int) ji41) else (none)) = some (r1, r2) := by first | (rw [hji46] at H; exact H) | (simp only [hji46] at H ⊢; exact H)
                           have hji46_ : (if (wrap64 ((rd x9_3 x60_3) + 1)) < (ji45) then (wrap64 ((rd x9_3 x60_3) + 1)) else (ji45)) = ji46 := hji46
                           by_cases c47 : (ji41) < (x9_3.length : Int)
                           ·
                            rw [if_pos c47] at H
                            have c47b0 : decide ((ji41) < (x9_3.length : Int)) = true := decide_eq_true c47
                            have c47b0z := c47b0
                            (try rw [hl9_1] at c47b0z)
                            have c47b0z := c47b0
                            (try rw [hl9_2] at c47b0z)
                            have c47b0z := c47b0
                            (try rw [hl9_3] at c47b0z)
                            have c47b0z := c47b0
                            (try rw [hl11_3] at c47b0z)
                            clear c47
                            obtain ⟨y166, hy166⟩ : ∃ y_ : List Int, y_ = (x9_3.set ((ji41) : Int).toNat (ji46)) := ⟨_, rfl⟩
                            replace H : (dist_Of.l2 k3 t145 y166 y160 (rdOf ByteArray.empty t144 x46_2) t144 (t144.length : Int) x46_2 t145 (t145.length : Int) ji41) = some (r1, r2) := by first | (rw [hy166]; with_reducible exact H) | (have H2_ := (Option.bind_some _ _).symm.trans H; rw [hy166]; with_reducible exact H2_) | (have H2_ := (Option.bind_some _ _).symm.trans H; with_reducible exact H2_) | with_reducible exact H | (rw [hy166]; exact H) | exact H
                            have Ny166 := Aside0.mk hy166
                            clear hy166
                            have H' := Aside0.mk H
                            clear H
                            have p162 : 0 ≤ (x60_3 : Int) := of_decide_eq_true (by first | (with_reducible assumption) | assumption)
                            have q162 : x60_3 < (t145.length : Int) := of_decide_eq_true (by first | (with_reducible assumption) | assumption)
                            obtain ⟨ad162, e162, hx162_0⟩ := Kd.at_string (Kd.R_reads' HO_58.out).2.2 x60_3 p162 q162
                            cases e162
                            replace p162 := eq_true p162
                            replace q162 := eq_true q162
                            have p163 : 0 ≤ (x60_3 : Int) := of_decide_eq_true (by first | (with_reducible assumption) | assumption)
                            have q163 : x60_3 < (y160.length : Int) := of_decide_eq_true (by first | (with_reducible assumption) | assumption)
                            obtain ⟨ad163, e163, hx163_0⟩ := Kd.at_int (Kd.R_reads' HO_11.out).2.2 x60_3 p163 q163
                            obtain rfl : (⟨go33, 0, none⟩ : Addr) = ad163 := (by injection e163)
                            (first | simp only [add_plain] at hx163_0 | simp only [add_at] at hx163_0 | simp only [Addr.add, Nat.zero_add] at hx163_0 | skip)
                            replace p163 := eq_true p163
                            replace q163 := eq_true q163
                            try go_wp2
                            have n0_ := Aside0.mk (Kd.R_drew HO_7.out)
                            have n1_ := Aside0.mk (Kd.R_drew HO_9.out)
                            have n2_ := Aside0.mk (Kd.R_drew HO_11.out)
                            have n3_ := Aside0.mk (Kd.R_drew HO_44.out)
                            have n4_ := Aside0.mk (Kd.R_drew HO_58.out)
                            have n5_ := Aside0.mk (below_drew1 HB.out)
                            clear HO_7
                            clear HO_9
                            clear HO_11
                            clear HO_44
                            clear HO_58
                            clear HB
                            have HO_7 := n0_
                            have HO_9 := n1_
                            have HO_11 := n2_
                            have HO_44 := n3_
                            have HO_58 := n4_
                            have HB := n5_
                            clear n0_ n1_ n2_ n3_ n4_ n5_
                            have p164 : 0 ≤ ((ji41) : Int) := of_decide_eq_true (by first | (with_reducible assumption) | assumption)
                            have q164 : (ji41) < (y160.length : Int) := of_decide_eq_true (by first | (with_reducible assumption) | assumption)
                            obtain ⟨ad164, e164, hx164_0⟩ := Kd.at_int (Kd.R_reads' HO_11.out).2.2 (ji41) p164 q164
                            obtain rfl : (⟨go33, 0, none⟩ : Addr) = ad164 := (by injection e164)
                            (first | simp only [add_plain] at hx164_0 | simp only [add_at] at hx164_0 | simp only [Addr.add, Nat.zero_add] at hx164_0 | skip)
                            replace p164 := eq_true p164
                            replace q164 := eq_true q164
                            have p165 : 0 ≤ (x60_3 : Int) := of_decide_eq_true (by first | (with_reducible assumption) | assumption)
                            have q165 : x60_3 < (x9_3.length : Int) := of_decide_eq_true (by first | (with_reducible assumption) | assumption)
                            obtain ⟨ad165, e165, hx165_0⟩ := Kd.at_int (Kd.R_reads' HO_9.out).2.2 x60_3 p165 q165
                            obtain rfl : (⟨go30, 0, none⟩ : Addr) = ad165 := (by injection e165)
                            (first | simp only [add_plain] at hx165_0 | simp only [add_at] at hx165_0 | simp only [Addr.add, Nat.zero_add] at hx165_0 | skip)
                            replace p165 := eq_true p165
                            replace q165 := eq_true q165
                            have p48 : 0 ≤ ((ji41) : Int) := of_decide_eq_true (by first | (with_reducible assumption) | assumption)
                            have q48 : ((ji41) : Int) < ((x9_3.length : Int) : Int) := of_decide_eq_true (by first | (with_reducible assumption) | assumption)
                            obtain ⟨hx48_0, hf48_0⟩ := Kd.R_celln 0 HO_9.out ((ji41) : Int) p48 q48
                            replace p48 := eq_true p48
                            replace q48 := eq_true q48
                            have HP50 := Kd.R_putn HO_9.out ((ji41) : Int) ji46
                            rw [← Ny166.out] at HP50
                            have HQ50 := Aside0.mk HP50
                            clear HP50
                            refine start_ (n := 18) (S := fun w' => w'.cell? ⟨go33, ((ji41)).toNat, none⟩ = some (.int .i64 (rd y160 (ji41))) ∧ w'.cell? ⟨go30, (x60_3).toNat, none⟩ = some (.int .i64 (rd x9_3 x60_3))) (ds := [17]) #[false,false,false,false,false,false,false,false,false,false,false,false,false,false,false,false,false,false] (by kernel_rfl) rfl rfl ⟨hx164_0, hx165_0⟩ (fun hHeld => ?_); refine with_tabW dist_Of.tab22 dist_Of.bits22 (fun HT_ HW_ => ?_)
                            generalize wr.drew = w49 at HO_7 HO_9 HO_11 HO_44 HO_58 HB HQ50 hf48_0 hx164_0 hx165_0 hx48_0 hHeld ⊢
                            (try (obtain ⟨_, hgg_⟩ := Cp.R_headAt HO_9.out; clear GG30; have GG30 := Aside0.mk hgg_; clear hgg_))
                            (try (obtain ⟨_, hgg_⟩ := Cp.R_headAt HO_11.out; clear GG33; have GG33 := Aside0.mk hgg_; clear hgg_))
                            refine pure_ (i := 0) (N := some 74) (v := ?_) (a' := ?_) #[true,false,false,false,false,false,false,false,false,false,false,false,false,false,false,false,false,false] rfl rfl (any_of HT_.out (by kernel_rfl)) (fun _ _ _ h => h) (Or.inl ⟨by rfl, ?_⟩) ?_ ?_; rotate_left; (· intro w'; go_simp; with_reducible rfl); rotate_left; (· simp only [Act.put,List.setIfInBounds_toArray,List.set_cons_zero,List.set_cons_succ,i64_w,i32_w]; rfl)
                            refine pure_ (i := 1) (N := some 75) (v := ?_) (a' := ?_) #[true,true,false,false,false,false,false,false,false,false,false,false,false,false,false,false,false,false] rfl rfl (any_of HT_.out (by kernel_rfl)) (fun _ _ _ h => h) (Or.inl ⟨by rfl, ?_⟩) ?_ ?_; rotate_left; (· intro w'; go_simp; with_reducible rfl); rotate_left; (· simp only [Act.put,List.setIfInBounds_toArray,List.set_cons_zero,List.set_cons_succ,i64_w,i32_w]; rfl)
                            refine pure_ (i := 2) (N := some 76) (v := ?_) (a' := ?_) #[true,true,true,false,false,false,false,false,false,false,false,false,false,false,false,false,false,false] rfl rfl (any_of HT_.out (by kernel_rfl)) (fun _ _ _ h => h) (Or.inl ⟨by rfl, ?_⟩) ?_ ?_; rotate_left; (· intro w'; go_simp; with_reducible rfl); rotate_left; (· simp only [Act.put,List.setIfInBounds_toArray,List.set_cons_zero,List.set_cons_succ,i64_w,i32_w]; rfl)
                            refine pure_ (i := 3) (N := some 77) (v := ?_) (a' := ?_) #[true,true,true,true,false,false,false,false,false,false,false,false,false,false,false,false,false,false] rfl rfl (any_of HT_.out (by kernel_rfl)) (fun _ _ _ h => h) (Or.inl ⟨by rfl, ?_⟩) ?_ ?_; rotate_left; (· intro w'; go_simp; with_reducible rfl); rotate_left; (· simp only [Act.put,List.setIfInBounds_toArray,List.set_cons_zero,List.set_cons_succ,i64_w,i32_w]; rfl)
                            refine pure_ (i := 4) (N := some 78) (v := ?_) (a' := ?_) #[true,true,true,true,true,false,false,false,false,false,false,false,false,false,false,false,false,false] rfl rfl (any_of HT_.out (by kernel_rfl)) (fun _ _ _ h => h) (Or.inl ⟨by rfl, ?_⟩) ?_ ?_; rotate_left; (· intro w'; go_simp; with_reducible rfl); rotate_left; (· simp only [Act.put,List.setIfInBounds_toArray,List.set_cons_zero,List.set_cons_succ,i64_w,i32_w]; rfl)
                            refine pure_ (i := 5) (N := some 79) (v := ?_) (a' := ?_) #[true,true,true,true,true,true,false,false,false,false,false,false,false,false,false,false,false,false] rfl rfl (any_of HT_.out (by kernel_rfl)) (fun _ _ _ h => h) (Or.inl ⟨by rfl, ?_⟩) ?_ ?_; rotate_left; (· intro w'; go_simp; with_reducible rfl); rotate_left; (· simp only [Act.put,List.setIfInBounds_toArray,List.set_cons_zero,List.set_cons_succ,i64_w,i32_w]; rfl)
                            refine pure_ (i := 6) (N := some 80) (v := ?_) (a' := ?_) #[true,true,true,true,true,true,true,false,false,false,false,false,false,false,false,false,false,false] rfl rfl (any_of HT_.out (by kernel_rfl)) (fun _ _ _ h => h) (Or.inl ⟨by rfl, ?_⟩) ?_ ?_; rotate_left; (· intro w'; go_simp; with_reducible rfl); rotate_left; (· simp only [Act.put,List.setIfInBounds_toArray,List.set_cons_zero,List.set_cons_succ,i64_w,i32_w]; rfl)
                            refine pure_ (i := 7) (N := some 81) (v := ?_) (a' := ?_) #[true,true,true,true,true,true,true,true,false,false,false,false,false,false,false,false,false,false] rfl rfl (any_of HT_.out (by kernel_rfl)) (fun _ _ _ h => h) (Or.inl ⟨by rfl, ?_⟩) ?_ ?_; rotate_left; (· intro w'; go_simp; with_reducible rfl); rotate_left; (· simp only [Act.put,List.setIfInBounds_toArray,List.set_cons_zero,List.set_cons_succ,i64_w,i32_w]; rfl)
                            refine pure_ (i := 10) (N := some 84) (v := ?_) (a' := ?_) #[true,true,true,true,true,true,true,true,false,false,true,false,false,false,false,false,false,false] rfl rfl (any_of HT_.out (by kernel_rfl)) (fun _ _ _ h => h) (Or.inl ⟨by rfl, ?_⟩) ?_ ?_; rotate_left; (· intro w'; go_simp; with_reducible rfl); rotate_left; (· simp only [Act.put,List.setIfInBounds_toArray,List.set_cons_zero,List.set_cons_succ,i64_w,i32_w]; rfl)
                            refine pure_ (i := 11) (N := some 85) (v := ?_) (a' := ?_) #[true,true,true,true,true,true,true,true,false,false,true,true,false,false,false,false,false,false] rfl rfl (any_of HT_.out (by kernel_rfl)) (fun _ _ _ h => h) (Or.inl ⟨by rfl, ?_⟩) ?_ ?_; rotate_left; (· intro w'; go_simp; with_reducible rfl); rotate_left; (· simp only [Act.put,List.setIfInBounds_toArray,List.set_cons_zero,List.set_cons_succ,i64_w,i32_w]; rfl)
                            refine pure_ (i := 12) (N := some 86) (v := ?_) (a' := ?_) #[true,true,true,true,true,true,true,true,false,false,true,true,true,false,false,false,false,false] rfl rfl (any_of HT_.out (by kernel_rfl)) (fun _ _ _ h => h) (Or.inl ⟨by rfl, ?_⟩) ?_ ?_; rotate_left; (· intro w'; go_simp; with_reducible rfl); rotate_left; (· simp only [Act.put,List.setIfInBounds_toArray,List.set_cons_zero,List.set_cons_succ,i64_w,i32_w]; rfl)
                            refine take_ (i := 8) (N := some 82) (v := ?_) (a' := ?_) #[true,true,true,true,true,true,true,true,true,false,true,true,true,false,false,false,false,false] rfl rfl (take_ofW HT_.out HW_.out (by kernel_rfl)) (fun _ _ _ h => h) (Or.inl ⟨by rfl, ?_⟩) hHeld ?_ ?_; rotate_left; (· rintro w' ⟨s0, s1⟩; go_simp; with_reducible rfl); rotate_left; (· simp only [Act.put,List.setIfInBounds_toArray,List.set_cons_zero,List.set_cons_succ,i64_w,i32_w]; rfl)
                            refine pure_ (i := 9) (N := some 83) (v := ?_) (a' := ?_) #[true,true,true,true,true,true,true,true,true,true,true,true,true,false,false,false,false,false] rfl rfl (any_of HT_.out (by kernel_rfl)) (fun _ _ _ h => h) (Or.inl ⟨by rfl, ?_⟩) ?_ ?_; rotate_left; (· intro w'; go_simp; with_reducible rfl); rotate_left; (· simp only [Act.put,List.setIfInBounds_toArray,List.set_cons_zero,List.set_cons_succ,i64_w,i32_w]; rfl)
                            refine take_ (i := 13) (N := some 87) (v := ?_) (a' := ?_) #[true,true,true,true,true,true,true,true,true,true,true,true,true,true,false,false,false,false] rfl rfl (take_ofW HT_.out HW_.out (by kernel_rfl)) (fun _ _ _ h => h) (Or.inl ⟨by rfl, ?_⟩) hHeld ?_ ?_; rotate_left; (· rintro w' ⟨s0, s1⟩; go_simp; with_reducible rfl); rotate_left; (· simp only [Act.put,List.setIfInBounds_toArray,List.set_cons_zero,List.set_cons_succ,i64_w,i32_w]; rfl)
                            refine pure_ (i := 14) (N := some 88) (v := ?_) (a' := ?_) #[true,true,true,true,true,true,true,true,true,true,true,true,true,true,true,false,false,false] rfl rfl (any_of HT_.out (by kernel_rfl)) (fun _ _ _ h => h) (Or.inl ⟨by rfl, ?_⟩) ?_ ?_; rotate_left; (· intro w'; go_simp; with_reducible rfl); rotate_left; (· simp only [Act.put,List.setIfInBounds_toArray,List.set_cons_zero,List.set_cons_succ,i64_w,i32_w]; rfl)
                            refine pure_ (i := 15) (N := some 89) (v := ?_) (a' := ?_) #[true,true,true,true,true,true,true,true,true,true,true,true,true,true,true,true,false,false] rfl rfl (any_of HT_.out (by kernel_rfl)) (fun _ _ _ h => h) (Or.inl ⟨by rfl, ?_⟩) ?_ ?_; rotate_left; (· intro w'; go_simp; with_reducible rfl); rotate_left; (· simp only [Act.put,List.setIfInBounds_toArray,List.set_cons_zero,List.set_cons_succ,i64_w,i32_w]; rfl)
                            refine pure_ (i := 16) (N := some 90) (v := ?_) (a' := ?_) #[true,true,true,true,true,true,true,true,true,true,true,true,true,true,true,true,true,false] rfl rfl (any_of HT_.out (by kernel_rfl)) (fun _ _ _ h => h) (Or.inl ⟨by rfl, ?_⟩) ?_ ?_; rotate_left; (· intro w'; go_simp; with_reducible rfl); rotate_left; (· simp only [Act.put,List.setIfInBounds_toArray,List.set_cons_zero,List.set_cons_succ,i64_w,i32_w]; rfl)
                            refine last_ (i := 17) (N := none) #[true,true,true,true,true,true,true,true,true,true,true,true,true,true,true,true,true,true] rfl rfl (one_of HT_.out (by kernel_rfl)) (by decide) (fun K hK => ?_)
                            refine skip_ (w1 := ?_) (by rfl) rfl ?_ ?_
                            rotate_left
                            ·
                             go_simp
                             rfl
                            refine hK.out _ _ ?_
                            clear hK K
                            refine done_ (done_of HT_.out (by kernel_rfl)) ?_
                            try go_wp2
                            (try simp only [← hl9_3, ← hl11_3])
                            go_roundg k3
                            case measure => have := HK1.out; have := HK2.out; have := HK3.out; omega
                            case rel => exact ⟨(y166), (ji41), (by first | rfl | (simp; done) | (simp only [← hji41] <;> (first | rfl | simp)) | (simp [*]; done)), H', ⟨by have := HK1.out; have := HK2.out; have := HK3.out; omega⟩, ⟨by (try simp only [hl9_1]); (try simp only [hl9_2]); (try simp only [hl9_3]); (try simp only [hl11_3]); (with_reducible repeat (first | apply Kd.R_alloc | apply Kd.R_drewN | apply Kd.R_drew)); exact Kd.R_mono (Kd.R_far (p := ⟨go30, ((ji41) : Int).toNat, none⟩) (Kd.R_types HO_7.out GG30.out (by decide)) (fun _ hk => hk.2) (.int .i64 ji46)) (fun _ hk => hk.1)⟩, ⟨by (try simp only [hl9_1]); (try simp only [hl9_2]); (try simp only [hl9_3]); (try simp only [hl11_3]); (with_reducible repeat (first | apply Kd.R_alloc | apply Kd.R_drewN | apply Kd.R_drew)); exact HQ50.out⟩, ⟨by (try simp only [hl9_1]); (try simp only [hl9_2]); (try simp only [hl9_3]); (try simp only [hl11_3]); (with_reducible repeat (first | apply Kd.R_alloc | apply Kd.R_drewN | apply Kd.R_drew)); exact Kd.R_mono (Kd.R_far (p := ⟨go30, ((ji41) : Int).toNat, none⟩) (Kd.R_mono HO_11.out (fun k_ hk => (⟨hk, fun e_ => hk (by rw [e_]; rfl)⟩ : _ ∧ k_ ≠ go30))) (fun _ hk => hk.2) (.int .i64 ji46)) (fun _ hk => hk.1)⟩, ⟨by (try simp only [hl9_1]); (try simp only [hl9_2]); (try simp only [hl9_3]); (try simp only [hl11_3]); (with_reducible repeat (first | apply Kd.R_alloc | apply Kd.R_drewN | apply Kd.R_drew)); exact Kd.R_mono (Kd.R_far (p := ⟨go30, ((ji41) : Int).toNat, none⟩) (Kd.R_types HO_44.out GG30.out (by decide)) (fun _ hk => hk.2) (.int .i64 ji46)) (fun _ hk => ⟨hk.1.1, hk.1.2⟩)⟩, ⟨by (try simp only [hl9_1]); (try simp only [hl9_2]); (try simp only [hl9_3]); (try simp only [hl11_3]); (with_reducible repeat (first | apply Kd.R_alloc | apply Kd.R_drewN | apply Kd.R_drew)); exact Kd.R_mono (Kd.R_far (p := ⟨go30, ((ji41) : Int).toNat, none⟩) (Kd.R_types HO_58.out GG30.out (by decide)) (fun _ hk => hk.2) (.int .i64 ji46)) (fun _ hk => hk.1)⟩, ⟨by repeat (first | (with_reducible first | exact HB.out | apply below_alloc | apply pw_below_drewN | apply below_drew1 | refine below_set ?_ GB30.out) | exact HB.out)⟩⟩
                           ·
                            rw [if_neg c47] at H
                            exact absurd H (by simp)
                          ·
                           rw [if_neg c44] at H
                           exact absurd H (by simp)
                         ·
                          rw [if_neg c43] at H
                          exact absurd H (by simp)
                        ·
                         rw [if_neg c42] at H
                         exact absurd H (by simp)
                       ·
                        rw [if_neg c40] at H
                        have c40b0 : ((rdOf ByteArray.empty t144 x46_2).toList == (rdOf ByteArray.empty t145 x60_3).toList) = false := beq_eq_false_iff_ne.mpr c40
                        have c40b1 : ((rdOf ByteArray.empty t144 x46_2).toList != (rdOf ByteArray.empty t145 x60_3).toList) = true := bne_iff_ne.mpr c40
                        obtain ⟨ji51, hji51⟩ : ∃ j_ : Int, (wrap64 (x60_3 + 1)) = j_ := ⟨_, rfl⟩
                        replace H : (if 0 ≤ (ji51) then (if (ji51) < (y160.length : Int) then (if x60_3 < (x9_3.length : Int) then (if (ji51) < (x9_3.length : Int) then (dist_Of.l2 k3 t145 (x9_3.set ((ji51) : Int).toNat (mn (mn (wrap64 ((rd y160 x60_3) + 1)) (wrap64 ((rd y160 (ji51)) + 1))) (wrap64 ((rd x9_3 x60_3) + 1)))) y160 (rdOf ByteArray.empty t144 x46_2) t144 (t144.length : Int) x46_2 t145 (t145.length : Int) ji51) else (none)) else (none)) else (none)) else (none)) = some (r1, r2) := by first | (rw [hji51] at H; exact H) | (simp only [hji51] at H ⊢; exact H)
                        have hji51w : (IntKind.i64.wrap (x60_3 + 1)) = ji51 := (i64_w _).trans hji51
                        by_cases c52 : 0 ≤ (ji51)
                        ·
                         rw [if_pos c52] at H
                         have c52b0 : decide (0 ≤ (ji51)) = true := decide_eq_true c52
                         clear c52
                         by_cases c53 : (ji51) < (y160.length : Int)
                         ·
                          rw [if_pos c53] at H
                          have c53b0 : decide ((ji51) < (y160.length : Int)) = true := decide_eq_true c53
                          have c53b0z := c53b0
                          (try rw [hl9_1] at c53b0z)
                          have c53b0z := c53b0
                          (try rw [hl9_2] at c53b0z)
                          have c53b0z := c53b0
                          (try rw [hl9_3] at c53b0z)
                          have c53b0z := c53b0
                          (try rw [hl11_3] at c53b0z)
                          clear c53
                          by_cases c54 : x60_3 < (x9_3.length : Int)
                          ·
                           rw [if_pos c54] at H
                           have c54b0 : decide (x60_3 < (x9_3.length : Int)) = true := decide_eq_true c54
                           have c54b0z := c54b0
                           (try rw [hl9_1] at c54b0z)
                           have c54b0z := c54b0
                           (try rw [hl9_2] at c54b0z)
                           have c54b0z := c54b0
                           (try rw [hl9_3] at c54b0z)
                           have c54b0z := c54b0
                           (try rw [hl11_3] at c54b0z)
                           clear c54
                           obtain ⟨ji55, hji55⟩ : ∃ j_ : Int, (mn (wrap64 ((rd y160 x60_3) + 1)) (wrap64 ((rd y160 (ji51)) + 1))) = j_ := ⟨_, rfl⟩
                           replace H : (if (ji51) < (x9_3.length : Int) then (dist_Of.l2 k3 t145 (x9_3.set ((ji51) : Int).toNat (mn (ji55) (wrap64 ((rd x9_3 x60_3) + 1)))) y160 (rdOf ByteArray.empty t144 x46_2) t144 (t144.length : Int) x46_2 t145 (t145.length : Int) ji51) else (none)) = some (r1, r2) := by first | (rw [hji55] at H; exact H) | (simp only [hji55] at H ⊢; exact H)
                           have hji55_ : (if (wrap64 ((rd y160 (ji51)) + 1)) < (wrap64 ((rd y160 x60_3) + 1)) then (wrap64 ((rd y160 (ji51)) + 1)) else (wrap64 ((rd y160 x60_3) + 1))) = ji55 := hji55
                           obtain ⟨ji56, hji56⟩ : ∃ j_ : Int, (mn (ji55) (wrap64 ((rd x9_3 x60_3) + 1))) = j_ := ⟨_, rfl⟩
                           replace H : (if (ji51) < (x9_3.length : Int) then (dist_Of.l2 k3 t145 (x9_3.set ((ji51) : Int).toNat (ji56)) y160 (rdOf ByteArray.empty t144 x46_2) t144 (t144.length : Int) x46_2 t145 (t145.length : Int) ji51) else (none)) = some (r1, r2) := by first | (rw [hji56] at H; exact H) | (simp only [hji56] at H ⊢; exact H)
                           have hji56_ : (if (wrap64 ((rd x9_3 x60_3) + 1)) < (ji55) then (wrap64 ((rd x9_3 x60_3) + 1)) else (ji55)) = ji56 := hji56
                           by_cases c57 : (ji51) < (x9_3.length : Int)
                           ·
                            rw [if_pos c57] at H
                            have c57b0 : decide ((ji51) < (x9_3.length : Int)) = true := decide_eq_true c57
                            have c57b0z := c57b0
                            (try rw [hl9_1] at c57b0z)
                            have c57b0z := c57b0
                            (try rw [hl9_2] at c57b0z)
                            have c57b0z := c57b0
                            (try rw [hl9_3] at c57b0z)
                            have c57b0z := c57b0
                            (try rw [hl11_3] at c57b0z)
                            clear c57
                            obtain ⟨y169, hy169⟩ : ∃ y_ : List Int, y_ = (x9_3.set ((ji51) : Int).toNat (ji56)) := ⟨_, rfl⟩
                            replace H : (dist_Of.l2 k3 t145 y169 y160 (rdOf ByteArray.empty t144 x46_2) t144 (t144.length : Int) x46_2 t145 (t145.length : Int) ji51) = some (r1, r2) := by first | (rw [hy169]; with_reducible exact H) | (have H2_ := (Option.bind_some _ _).symm.trans H; rw [hy169]; with_reducible exact H2_) | (have H2_ := (Option.bind_some _ _).symm.trans H; with_reducible exact H2_) | with_reducible exact H | (rw [hy169]; exact H) | exact H
                            have Ny169 := Aside0.mk hy169
                            clear hy169
                            have H' := Aside0.mk H
                            clear H
                            have p162 : 0 ≤ (x60_3 : Int) := of_decide_eq_true (by first | (with_reducible assumption) | assumption)
                            have q162 : x60_3 < (t145.length : Int) := of_decide_eq_true (by first | (with_reducible assumption) | assumption)
                            obtain ⟨ad162, e162, hx162_0⟩ := Kd.at_string (Kd.R_reads' HO_58.out).2.2 x60_3 p162 q162
                            cases e162
                            replace p162 := eq_true p162
                            replace q162 := eq_true q162
                            have p163 : 0 ≤ (x60_3 : Int) := of_decide_eq_true (by first | (with_reducible assumption) | assumption)
                            have q163 : x60_3 < (y160.length : Int) := of_decide_eq_true (by first | (with_reducible assumption) | assumption)
                            obtain ⟨ad163, e163, hx163_0⟩ := Kd.at_int (Kd.R_reads' HO_11.out).2.2 x60_3 p163 q163
                            obtain rfl : (⟨go33, 0, none⟩ : Addr) = ad163 := (by injection e163)
                            (first | simp only [add_plain] at hx163_0 | simp only [add_at] at hx163_0 | simp only [Addr.add, Nat.zero_add] at hx163_0 | skip)
                            replace p163 := eq_true p163
                            replace q163 := eq_true q163
                            try go_wp2
                            have n0_ := Aside0.mk (Kd.R_drew HO_7.out)
                            have n1_ := Aside0.mk (Kd.R_drew HO_9.out)
                            have n2_ := Aside0.mk (Kd.R_drew HO_11.out)
                            have n3_ := Aside0.mk (Kd.R_drew HO_44.out)
                            have n4_ := Aside0.mk (Kd.R_drew HO_58.out)
                            have n5_ := Aside0.mk (below_drew1 HB.out)
                            clear HO_7
                            clear HO_9
                            clear HO_11
                            clear HO_44
                            clear HO_58
                            clear HB
                            have HO_7 := n0_
                            have HO_9 := n1_
                            have HO_11 := n2_
                            have HO_44 := n3_
                            have HO_58 := n4_
                            have HB := n5_
                            clear n0_ n1_ n2_ n3_ n4_ n5_
                            have p167 : 0 ≤ ((ji51) : Int) := of_decide_eq_true (by first | (with_reducible assumption) | assumption)
                            have q167 : (ji51) < (y160.length : Int) := of_decide_eq_true (by first | (with_reducible assumption) | assumption)
                            obtain ⟨ad167, e167, hx167_0⟩ := Kd.at_int (Kd.R_reads' HO_11.out).2.2 (ji51) p167 q167
                            obtain rfl : (⟨go33, 0, none⟩ : Addr) = ad167 := (by injection e167)
                            (first | simp only [add_plain] at hx167_0 | simp only [add_at] at hx167_0 | simp only [Addr.add, Nat.zero_add] at hx167_0 | skip)
                            replace p167 := eq_true p167
                            replace q167 := eq_true q167
                            have p168 : 0 ≤ (x60_3 : Int) := of_decide_eq_true (by first | (with_reducible assumption) | assumption)
                            have q168 : x60_3 < (x9_3.length : Int) := of_decide_eq_true (by first | (with_reducible assumption) | assumption)
                            obtain ⟨ad168, e168, hx168_0⟩ := Kd.at_int (Kd.R_reads' HO_9.out).2.2 x60_3 p168 q168
                            obtain rfl : (⟨go30, 0, none⟩ : Addr) = ad168 := (by injection e168)
                            (first | simp only [add_plain] at hx168_0 | simp only [add_at] at hx168_0 | simp only [Addr.add, Nat.zero_add] at hx168_0 | skip)
                            replace p168 := eq_true p168
                            replace q168 := eq_true q168
                            have p58 : 0 ≤ ((ji51) : Int) := of_decide_eq_true (by first | (with_reducible assumption) | assumption)
                            have q58 : ((ji51) : Int) < ((x9_3.length : Int) : Int) := of_decide_eq_true (by first | (with_reducible assumption) | assumption)
                            obtain ⟨hx58_0, hf58_0⟩ := Kd.R_celln 0 HO_9.out ((ji51) : Int) p58 q58
                            replace p58 := eq_true p58
                            replace q58 := eq_true q58
                            have HP60 := Kd.R_putn HO_9.out ((ji51) : Int) ji56
                            rw [← Ny169.out] at HP60
                            have HQ60 := Aside0.mk HP60
                            clear HP60
                            refine start_ (n := 18) (S := fun w' => w'.cell? ⟨go33, ((ji51)).toNat, none⟩ = some (.int .i64 (rd y160 (ji51))) ∧ w'.cell? ⟨go30, (x60_3).toNat, none⟩ = some (.int .i64 (rd x9_3 x60_3))) (ds := [17]) #[false,false,false,false,false,false,false,false,false,false,false,false,false,false,false,false,false,false] (by kernel_rfl) rfl rfl ⟨hx167_0, hx168_0⟩ (fun hHeld => ?_); refine with_tabW dist_Of.tab22 dist_Of.bits22 (fun HT_ HW_ => ?_)
                            generalize wr.drew = w59 at HO_7 HO_9 HO_11 HO_44 HO_58 HB HQ60 hf58_0 hx167_0 hx168_0 hx58_0 hHeld ⊢
                            (try (obtain ⟨_, hgg_⟩ := Cp.R_headAt HO_9.out; clear GG30; have GG30 := Aside0.mk hgg_; clear hgg_))
                            (try (obtain ⟨_, hgg_⟩ := Cp.R_headAt HO_11.out; clear GG33; have GG33 := Aside0.mk hgg_; clear hgg_))
                            refine pure_ (i := 0) (N := some 74) (v := ?_) (a' := ?_) #[true,false,false,false,false,false,false,false,false,false,false,false,false,false,false,false,false,false] rfl rfl (any_of HT_.out (by kernel_rfl)) (fun _ _ _ h => h) (Or.inl ⟨by rfl, ?_⟩) ?_ ?_; rotate_left; (· intro w'; go_simp; with_reducible rfl); rotate_left; (· simp only [Act.put,List.setIfInBounds_toArray,List.set_cons_zero,List.set_cons_succ,i64_w,i32_w]; rfl)
                            refine pure_ (i := 1) (N := some 75) (v := ?_) (a' := ?_) #[true,true,false,false,false,false,false,false,false,false,false,false,false,false,false,false,false,false] rfl rfl (any_of HT_.out (by kernel_rfl)) (fun _ _ _ h => h) (Or.inl ⟨by rfl, ?_⟩) ?_ ?_; rotate_left; (· intro w'; go_simp; with_reducible rfl); rotate_left; (· simp only [Act.put,List.setIfInBounds_toArray,List.set_cons_zero,List.set_cons_succ,i64_w,i32_w]; rfl)
                            refine pure_ (i := 2) (N := some 76) (v := ?_) (a' := ?_) #[true,true,true,false,false,false,false,false,false,false,false,false,false,false,false,false,false,false] rfl rfl (any_of HT_.out (by kernel_rfl)) (fun _ _ _ h => h) (Or.inl ⟨by rfl, ?_⟩) ?_ ?_; rotate_left; (· intro w'; go_simp; with_reducible rfl); rotate_left; (· simp only [Act.put,List.setIfInBounds_toArray,List.set_cons_zero,List.set_cons_succ,i64_w,i32_w]; rfl)
                            refine pure_ (i := 3) (N := some 77) (v := ?_) (a' := ?_) #[true,true,true,true,false,false,false,false,false,false,false,false,false,false,false,false,false,false] rfl rfl (any_of HT_.out (by kernel_rfl)) (fun _ _ _ h => h) (Or.inl ⟨by rfl, ?_⟩) ?_ ?_; rotate_left; (· intro w'; go_simp; with_reducible rfl); rotate_left; (· simp only [Act.put,List.setIfInBounds_toArray,List.set_cons_zero,List.set_cons_succ,i64_w,i32_w]; rfl)
                            refine pure_ (i := 4) (N := some 78) (v := ?_) (a' := ?_) #[true,true,true,true,true,false,false,false,false,false,false,false,false,false,false,false,false,false] rfl rfl (any_of HT_.out (by kernel_rfl)) (fun _ _ _ h => h) (Or.inl ⟨by rfl, ?_⟩) ?_ ?_; rotate_left; (· intro w'; go_simp; with_reducible rfl); rotate_left; (· simp only [Act.put,List.setIfInBounds_toArray,List.set_cons_zero,List.set_cons_succ,i64_w,i32_w]; rfl)
                            refine pure_ (i := 5) (N := some 79) (v := ?_) (a' := ?_) #[true,true,true,true,true,true,false,false,false,false,false,false,false,false,false,false,false,false] rfl rfl (any_of HT_.out (by kernel_rfl)) (fun _ _ _ h => h) (Or.inl ⟨by rfl, ?_⟩) ?_ ?_; rotate_left; (· intro w'; go_simp; with_reducible rfl); rotate_left; (· simp only [Act.put,List.setIfInBounds_toArray,List.set_cons_zero,List.set_cons_succ,i64_w,i32_w]; rfl)
                            refine pure_ (i := 6) (N := some 80) (v := ?_) (a' := ?_) #[true,true,true,true,true,true,true,false,false,false,false,false,false,false,false,false,false,false] rfl rfl (any_of HT_.out (by kernel_rfl)) (fun _ _ _ h => h) (Or.inl ⟨by rfl, ?_⟩) ?_ ?_; rotate_left; (· intro w'; go_simp; with_reducible rfl); rotate_left; (· simp only [Act.put,List.setIfInBounds_toArray,List.set_cons_zero,List.set_cons_succ,i64_w,i32_w]; rfl)
                            refine pure_ (i := 7) (N := some 81) (v := ?_) (a' := ?_) #[true,true,true,true,true,true,true,true,false,false,false,false,false,false,false,false,false,false] rfl rfl (any_of HT_.out (by kernel_rfl)) (fun _ _ _ h => h) (Or.inl ⟨by rfl, ?_⟩) ?_ ?_; rotate_left; (· intro w'; go_simp; with_reducible rfl); rotate_left; (· simp only [Act.put,List.setIfInBounds_toArray,List.set_cons_zero,List.set_cons_succ,i64_w,i32_w]; rfl)
                            refine pure_ (i := 10) (N := some 84) (v := ?_) (a' := ?_) #[true,true,true,true,true,true,true,true,false,false,true,false,false,false,false,false,false,false] rfl rfl (any_of HT_.out (by kernel_rfl)) (fun _ _ _ h => h) (Or.inl ⟨by rfl, ?_⟩) ?_ ?_; rotate_left; (· intro w'; go_simp; with_reducible rfl); rotate_left; (· simp only [Act.put,List.setIfInBounds_toArray,List.set_cons_zero,List.set_cons_succ,i64_w,i32_w]; rfl)
                            refine pure_ (i := 11) (N := some 85) (v := ?_) (a' := ?_) #[true,true,true,true,true,true,true,true,false,false,true,true,false,false,false,false,false,false] rfl rfl (any_of HT_.out (by kernel_rfl)) (fun _ _ _ h => h) (Or.inl ⟨by rfl, ?_⟩) ?_ ?_; rotate_left; (· intro w'; go_simp; with_reducible rfl); rotate_left; (· simp only [Act.put,List.setIfInBounds_toArray,List.set_cons_zero,List.set_cons_succ,i64_w,i32_w]; rfl)
                            refine pure_ (i := 12) (N := some 86) (v := ?_) (a' := ?_) #[true,true,true,true,true,true,true,true,false,false,true,true,true,false,false,false,false,false] rfl rfl (any_of HT_.out (by kernel_rfl)) (fun _ _ _ h => h) (Or.inl ⟨by rfl, ?_⟩) ?_ ?_; rotate_left; (· intro w'; go_simp; with_reducible rfl); rotate_left; (· simp only [Act.put,List.setIfInBounds_toArray,List.set_cons_zero,List.set_cons_succ,i64_w,i32_w]; rfl)
                            refine take_ (i := 8) (N := some 82) (v := ?_) (a' := ?_) #[true,true,true,true,true,true,true,true,true,false,true,true,true,false,false,false,false,false] rfl rfl (take_ofW HT_.out HW_.out (by kernel_rfl)) (fun _ _ _ h => h) (Or.inl ⟨by rfl, ?_⟩) hHeld ?_ ?_; rotate_left; (· rintro w' ⟨s0, s1⟩; go_simp; with_reducible rfl); rotate_left; (· simp only [Act.put,List.setIfInBounds_toArray,List.set_cons_zero,List.set_cons_succ,i64_w,i32_w]; rfl)
                            refine pure_ (i := 9) (N := some 83) (v := ?_) (a' := ?_) #[true,true,true,true,true,true,true,true,true,true,true,true,true,false,false,false,false,false] rfl rfl (any_of HT_.out (by kernel_rfl)) (fun _ _ _ h => h) (Or.inl ⟨by rfl, ?_⟩) ?_ ?_; rotate_left; (· intro w'; go_simp; with_reducible rfl); rotate_left; (· simp only [Act.put,List.setIfInBounds_toArray,List.set_cons_zero,List.set_cons_succ,i64_w,i32_w]; rfl)
                            refine take_ (i := 13) (N := some 87) (v := ?_) (a' := ?_) #[true,true,true,true,true,true,true,true,true,true,true,true,true,true,false,false,false,false] rfl rfl (take_ofW HT_.out HW_.out (by kernel_rfl)) (fun _ _ _ h => h) (Or.inl ⟨by rfl, ?_⟩) hHeld ?_ ?_; rotate_left; (· rintro w' ⟨s0, s1⟩; go_simp; with_reducible rfl); rotate_left; (· simp only [Act.put,List.setIfInBounds_toArray,List.set_cons_zero,List.set_cons_succ,i64_w,i32_w]; rfl)
                            refine pure_ (i := 14) (N := some 88) (v := ?_) (a' := ?_) #[true,true,true,true,true,true,true,true,true,true,true,true,true,true,true,false,false,false] rfl rfl (any_of HT_.out (by kernel_rfl)) (fun _ _ _ h => h) (Or.inl ⟨by rfl, ?_⟩) ?_ ?_; rotate_left; (· intro w'; go_simp; with_reducible rfl); rotate_left; (· simp only [Act.put,List.setIfInBounds_toArray,List.set_cons_zero,List.set_cons_succ,i64_w,i32_w]; rfl)
                            refine pure_ (i := 15) (N := some 89) (v := ?_) (a' := ?_) #[true,true,true,true,true,true,true,true,true,true,true,true,true,true,true,true,false,false] rfl rfl (any_of HT_.out (by kernel_rfl)) (fun _ _ _ h => h) (Or.inl ⟨by rfl, ?_⟩) ?_ ?_; rotate_left; (· intro w'; go_simp; with_reducible rfl); rotate_left; (· simp only [Act.put,List.setIfInBounds_toArray,List.set_cons_zero,List.set_cons_succ,i64_w,i32_w]; rfl)
                            refine pure_ (i := 16) (N := some 90) (v := ?_) (a' := ?_) #[true,true,true,true,true,true,true,true,true,true,true,true,true,true,true,true,true,false] rfl rfl (any_of HT_.out (by kernel_rfl)) (fun _ _ _ h => h) (Or.inl ⟨by rfl, ?_⟩) ?_ ?_; rotate_left; (· intro w'; go_simp; with_reducible rfl); rotate_left; (· simp only [Act.put,List.setIfInBounds_toArray,List.set_cons_zero,List.set_cons_succ,i64_w,i32_w]; rfl)
                            refine last_ (i := 17) (N := none) #[true,true,true,true,true,true,true,true,true,true,true,true,true,true,true,true,true,true] rfl rfl (one_of HT_.out (by kernel_rfl)) (by decide) (fun K hK => ?_)
                            refine skip_ (w1 := ?_) (by rfl) rfl ?_ ?_
                            rotate_left
                            ·
                             go_simp
                             rfl
                            refine hK.out _ _ ?_
                            clear hK K
                            refine done_ (done_of HT_.out (by kernel_rfl)) ?_
                            try go_wp2
                            (try simp only [← hl9_3, ← hl11_3])
                            go_roundg k3
                            case measure => have := HK1.out; have := HK2.out; have := HK3.out; omega
                            case rel => exact ⟨(y169), (ji51), (by first | rfl | (simp; done) | (simp only [← hji51] <;> (first | rfl | simp)) | (simp [*]; done)), H', ⟨by have := HK1.out; have := HK2.out; have := HK3.out; omega⟩, ⟨by (try simp only [hl9_1]); (try simp only [hl9_2]); (try simp only [hl9_3]); (try simp only [hl11_3]); (with_reducible repeat (first | apply Kd.R_alloc | apply Kd.R_drewN | apply Kd.R_drew)); exact Kd.R_mono (Kd.R_far (p := ⟨go30, ((ji51) : Int).toNat, none⟩) (Kd.R_types HO_7.out GG30.out (by decide)) (fun _ hk => hk.2) (.int .i64 ji56)) (fun _ hk => hk.1)⟩, ⟨by (try simp only [hl9_1]); (try simp only [hl9_2]); (try simp only [hl9_3]); (try simp only [hl11_3]); (with_reducible repeat (first | apply Kd.R_alloc | apply Kd.R_drewN | apply Kd.R_drew)); exact HQ60.out⟩, ⟨by (try simp only [hl9_1]); (try simp only [hl9_2]); (try simp only [hl9_3]); (try simp only [hl11_3]); (with_reducible repeat (first | apply Kd.R_alloc | apply Kd.R_drewN | apply Kd.R_drew)); exact Kd.R_mono (Kd.R_far (p := ⟨go30, ((ji51) : Int).toNat, none⟩) (Kd.R_mono HO_11.out (fun k_ hk => (⟨hk, fun e_ => hk (by rw [e_]; rfl)⟩ : _ ∧ k_ ≠ go30))) (fun _ hk => hk.2) (.int .i64 ji56)) (fun _ hk => hk.1)⟩, ⟨by (try simp only [hl9_1]); (try simp only [hl9_2]); (try simp only [hl9_3]); (try simp only [hl11_3]); (with_reducible repeat (first | apply Kd.R_alloc | apply Kd.R_drewN | apply Kd.R_drew)); exact Kd.R_mono (Kd.R_far (p := ⟨go30, ((ji51) : Int).toNat, none⟩) (Kd.R_types HO_44.out GG30.out (by decide)) (fun _ hk => hk.2) (.int .i64 ji56)) (fun _ hk => ⟨hk.1.1, hk.1.2⟩)⟩, ⟨by (try simp only [hl9_1]); (try simp only [hl9_2]); (try simp only [hl9_3]); (try simp only [hl11_3]); (with_reducible repeat (first | apply Kd.R_alloc | apply Kd.R_drewN | apply Kd.R_drew)); exact Kd.R_mono (Kd.R_far (p := ⟨go30, ((ji51) : Int).toNat, none⟩) (Kd.R_types HO_58.out GG30.out (by decide)) (fun _ hk => hk.2) (.int .i64 ji56)) (fun _ hk => hk.1)⟩, ⟨by repeat (first | (with_reducible first | exact HB.out | apply below_alloc | apply pw_below_drewN | apply below_drew1 | refine below_set ?_ GB30.out) | exact HB.out)⟩⟩
                           ·
                            rw [if_neg c57] at H
                            exact absurd H (by simp)
                          ·
                           rw [if_neg c54] at H
                           exact absurd H (by simp)
                         ·
                          rw [if_neg c53] at H
                          exact absurd H (by simp)
                        ·
                         rw [if_neg c52] at H
                         exact absurd H (by simp)
                      ·
                       rw [if_neg c39] at H
                       exact absurd H (by simp)
                     ·
                      rw [if_neg c38] at H
                      exact absurd H (by simp)
                    ·
                     rw [if_neg c37] at H
                     exact absurd H (by simp)
                   ·
                    rw [if_neg c36] at H
                    have c36b0 : decide (x60_3 < (t145.length : Int)) = false := decide_eq_false c36
                    clear c36
                    have H' := Aside0.mk H
                    clear H
                    go_wp2
                    (try simp only [← hl9_2, ← hl9_3, ← hl11_3])
                    go_roundg k3
                    case measure => have := HK1.out; have := HK2.out; have := HK3.out; omega
                    case rel => exact ⟨(x9_3), (y160), (wrap64 (x46_2 + 1)), (by first | rfl | (simp; done) | (simp [*]; done)), H', ⟨by have := HK1.out; have := HK2.out; have := HK3.out; omega⟩, ⟨by (try simp only [hl9_1]); (try simp only [hl9_2]); (try simp only [hl9_3]); (try simp only [hl11_3]); (with_reducible repeat (first | apply Kd.R_alloc | apply Kd.R_drewN | apply Kd.R_drew)); exact HO_7.out⟩, ⟨by (try simp only [hl9_1]); (try simp only [hl9_2]); (try simp only [hl9_3]); (try simp only [hl11_3]); (with_reducible repeat (first | apply Kd.R_alloc | apply Kd.R_drewN | apply Kd.R_drew)); exact HO_9.out⟩, ⟨by (try simp only [hl9_1]); (try simp only [hl9_2]); (try simp only [hl9_3]); (try simp only [hl11_3]); (with_reducible repeat (first | apply Kd.R_alloc | apply Kd.R_drewN | apply Kd.R_drew)); exact HO_11.out⟩, ⟨by (try simp only [hl9_1]); (try simp only [hl9_2]); (try simp only [hl9_3]); (try simp only [hl11_3]); (with_reducible repeat (first | apply Kd.R_alloc | apply Kd.R_drewN | apply Kd.R_drew)); exact Kd.R_mono HO_44.out (fun _ hk => hk.1)⟩, ⟨by repeat (first | (with_reducible first | exact HB.out | apply below_alloc | apply pw_below_drewN | apply below_drew1) | exact HB.out)⟩⟩
                ·
                 rw [if_neg c29] at H
                 exact absurd H (by simp)
               ·
                rw [if_neg c28] at H
                exact absurd H (by simp)
              ·
               rw [if_neg c27] at H
               exact absurd H (by simp)
             ·
              rw [if_neg c26] at H
              exact absurd H (by simp)
            ·
             rw [if_neg c25] at H
             exact absurd H (by simp)
           ·
            rw [if_neg c24] at H
            have c24b0 : decide (x46_2 < (t144.length : Int)) = false := decide_eq_false c24
            clear c24
            by_cases c61 : 0 ≤ (t145.length : Int)
            ·
             rw [if_pos c61] at H
             have c61b0 : decide (0 ≤ (t145.length : Int)) = true := decide_eq_true c61
             have c61b1 : decide (0 ≤ t145.length) = true := decide_eq_true (by omega)
             clear c61
             by_cases c62 : (t145.length : Int) < (x9_2.length : Int)
             ·
              rw [if_pos c62] at H
              have c62b0 : decide ((t145.length : Int) < (x9_2.length : Int)) = true := decide_eq_true c62
              have c62b0z := c62b0
              (try rw [hl9_1] at c62b0z)
              have c62b0z := c62b0
              (try rw [hl9_2] at c62b0z)
              have c62b1 : decide (t145.length < x9_2.length) = true := decide_eq_true (Int.ofNat_lt.mp c62)
              have c62b1z := c62b1
              (try rw [hl9_1] at c62b1z)
              have c62b1z := c62b1
              (try rw [hl9_2] at c62b1z)
              clear c62
              simp only [Option.some.injEq, Prod.mk.injEq] at H
              obtain ⟨rfl, rfl⟩ := H
              have p158 : 0 ≤ ((t145.length : Int) : Int) := of_decide_eq_true (by first | (with_reducible assumption) | assumption)
              have q158 : (t145.length : Int) < (x9_2.length : Int) := of_decide_eq_true (by first | (with_reducible assumption) | assumption)
              obtain ⟨ad158, e158, hx158_0⟩ := Kd.at_int (Kd.R_reads' HO_9.out).2.2 (t145.length : Int) p158 q158
              cases e158
              (try simp only [Go.IntWalk.toNatUp] at hx158_0)
              (try simp only [hl9_1, hl9_2] at p158)
              (try simp only [hl9_1, hl9_2] at q158)
              (try simp only [hl9_1, hl9_2] at hx158_0)
              replace p158 := eq_true p158
              replace q158 := eq_true q158
              go_wp2
              go_ret2
              exact ⟨by first | rfl | (simp [errW_none, errW_some] <;> rfl) | (simp only [← hji5]; first | rfl | (simp [errW_none, errW_some] <;> rfl)) | (simp [*, errW_none, errW_some] <;> rfl), by repeat (first | (with_reducible first | exact HB.out | apply below_alloc | apply pw_below_drewN | apply below_drew1) | exact HB.out)⟩
             ·
              rw [if_neg c62] at H
              exact absurd H (by simp)
            ·
             rw [if_neg c61] at H
             exact absurd H (by simp)
        ·
         rw [if_neg c20] at H
         exact absurd H (by simp)
       ·
        rw [if_neg c19] at H
        exact absurd H (by simp)
   ·
    rw [if_neg c7] at H
    exact absurd H (by simp)
  ·
   rw [if_neg c6] at H
   exact absurd H (by simp)
 ·
  rw [if_neg c4] at H
  have c4b0 : (t146 == 0) = false := beq_eq_false_iff_ne.mpr c4
  have c4b1 : (t146 != 0) = true := bne_iff_ne.mpr c4
  simp only [Option.some.injEq, Prod.mk.injEq] at H
  obtain ⟨rfl, rfl⟩ := H
  go_enter Tryd.func52, Tryd.ntmps52
  go_wp2_with (first | ((with_reducible refine gate_callee (f := 70) rfl ?_); refine goesL_ (some 20) rfl rfl Tryd.func70 (by kernel_rfl) rfl #[.string a0, .string a1] rfl (by (try simp only [List.map_toArray, List.map_cons, List.map_nil]); first | done | rfl | (simp only [List.length_drop, List.length_take]; rfl)) ?_; (with_reducible refine (dist_both.calls k a0 a1 t144 t145 t146 _ ?side1 A3.out).mono ?_); (case side1 => exact Utf.tabs_step HT.out (by repeat (first | (with_reducible first | exact HB.out | apply below_alloc | apply pw_below_drewN | apply below_drew1) | exact HB.out))); rintro e w63 ⟨v147, v149, rfl, ho0, ho1, hb⟩; refine ⟨_, rfl, ?_⟩; have n0_ := Aside0.mk (Kd.R_lower ho0 (below_size (by repeat (first | (with_reducible first | exact HB.out | apply below_alloc | apply pw_below_drewN | apply below_drew1) | exact HB.out)))); have n1_ := Aside0.mk (Kd.R_lower ho1 (below_size (by repeat (first | (with_reducible first | exact HB.out | apply below_alloc | apply pw_below_drewN | apply below_drew1) | exact HB.out)))); have n2_ := Aside0.mk (below_step (by repeat (first | (with_reducible first | exact HB.out | apply below_alloc | apply pw_below_drewN | apply below_drew1) | exact HB.out)) hb); clear HB; have HO148 := n0_; have HO150 := n1_; have HB := n2_; clear n0_ n1_ n2_; (try clear hb); (try clear hb2); (try clear hk); (try clear hi); (try clear ho0); (try clear ho1)))
  go_ret2
  exact ⟨by first | rfl | (simp [errW_none, errW_some] <;> rfl) | (simp [*, errW_none, errW_some] <;> rfl), by repeat (first | (with_reducible first | exact HB.out | apply below_alloc | apply pw_below_drewN | apply below_drew1) | exact HB.out)⟩

end Go.Proofs.YtcpbalnbgmjhjaaDoor.E
