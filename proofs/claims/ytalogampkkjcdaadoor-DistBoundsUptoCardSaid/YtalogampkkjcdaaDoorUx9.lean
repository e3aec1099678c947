-- Printed by hprint.py (this session's program over the kit's print) out of the translation; the parts 'by hand' are the session's own.
import Derived.Test.YtalogampkkjcdaaDoorUx0
import Derived.Test.YtalogampkkjcdaaDoorUx8
namespace Go.Proofs.YtalogampkkjcdaaDoor.U
open Go.RowKit Go.Proofs.YtalogampkkjcdaaDoorW.PrintWords Go.Proofs.YtalogampkkjcdaaDoorW.PrintLast Go.Proofs.YtalogampkkjcdaaDoorW.PrintMore
attribute [local go_sem] max2_int min2_int max_two min_two max_three min_three max_four min_four   -- for this text's walks alone
set_option linter.unusedVariables false
set_option linter.unusedSimpArgs false

/-! ### siglumlaw08_least: function 21 -/
mutual
def siglumlaw08_least.j0 : Nat → List (S75) → List (S75) → Bool → Option (Int)
  | 0, _, _, _ => none
  | k + 1, x0, x1, x13 => if x13 = true then (some (wrap64 ((x0.length : Int) + (x1.length : Int)))) else (if 1 ≤ (x0.length : Int) then (if 1 ≤ (x1.length : Int) then ((siglumlaw08_least.f k (x0.drop 1) (x1.drop 1)).bind fun t199 => (if 0 < (x0.length : Int) then (if 0 < (x1.length : Int) then ((siglumref08_Same.f ((rd_T75 x0 0).f0) ((rd_T75 x0 0).f1) ((rd_T75 x0 0).f2) ((rd_T75 x0 0).f3) ((rd_T75 x0 0).f4) ((rd_T75 x1 0).f0) ((rd_T75 x1 0).f1) ((rd_T75 x1 0).f2) ((rd_T75 x1 0).f3) ((rd_T75 x1 0).f4)).bind fun t202 => (if t202 = true then ((siglumlaw08_least.f k (x0.drop 1) x1).bind fun t207 => ((siglumlaw08_least.f k x0 (x1.drop 1)).bind fun t212 => (some (mn (mn t199 (wrap64 (t207 + 1))) (wrap64 (t212 + 1)))))) else ((siglumlaw08_least.f k (x0.drop 1) x1).bind fun t217 => ((siglumlaw08_least.f k x0 (x1.drop 1)).bind fun t222 => (some (mn (mn (wrap64 (t199 + 1)) (wrap64 (t217 + 1))) (wrap64 (t222 + 1)))))))) else (none)) else (none))) else (none)) else (none))
def siglumlaw08_least.f : Nat → List (S75) → List (S75) → Option (Int)
  | 0, _, _ => none
  | k + 1, l0, l1 => if (l0.length : Int) = 0 then (siglumlaw08_least.j0 k l0 l1 true) else (siglumlaw08_least.j0 k l0 l1 ((l1.length : Int) == 0))
end
theorem siglumlaw08_least.mono_l : ∀ k, (∀ y0 y1, LeO (siglumlaw08_least.f k y0 y1) (siglumlaw08_least.f (k + 1) y0 y1)) ∧ (∀ y0 y1 y2, LeO (siglumlaw08_least.j0 k y0 y1 y2) (siglumlaw08_least.j0 (k + 1) y0 y1 y2))
  | 0 => ⟨fun _ _ r h => by simp [siglumlaw08_least.f] at h, fun _ _ _ r h => by simp [siglumlaw08_least.j0] at h⟩
  | k + 1 => by
    obtain ⟨ih0, ih1⟩ := siglumlaw08_least.mono_l k
    refine ⟨?_, ?_⟩
    · intro y0 y1
      unfold siglumlaw08_least.f
      repeat' first
      | (with_reducible exact ih0 _ _)
      | (with_reducible exact ih1 _ _ _)
      | (with_reducible exact LeO.refl _)
      | (with_reducible exact LeO.none _)
      | (with_reducible refine LeO.ite ?_ ?_)
      | (with_reducible refine LeO.bind ?_ (fun _ => ?_))
      | exact ih0 _ _
      | exact ih1 _ _ _
      | exact LeO.none _
      | refine LeO.ite ?_ ?_
      | refine LeO.bind ?_ (fun _ => ?_)
    · intro y0 y1 y2
      unfold siglumlaw08_least.j0
      repeat' first
      | (with_reducible exact ih0 _ _)
      | (with_reducible exact ih1 _ _ _)
      | (with_reducible exact LeO.refl _)
      | (with_reducible exact LeO.none _)
      | (with_reducible refine LeO.ite ?_ ?_)
      | (with_reducible refine LeO.bind ?_ (fun _ => ?_))
      | exact ih0 _ _
      | exact ih1 _ _ _
      | exact LeO.none _
      | refine LeO.ite ?_ ?_
      | refine LeO.bind ?_ (fun _ => ?_)
theorem siglumlaw08_least.mono : ∀ a0 a1 k, LeO (siglumlaw08_least.f k a0 a1) (siglumlaw08_least.f (k + 1) a0 a1) := by
  intro a0 a1 k
  obtain ⟨ih0, ih1⟩ := siglumlaw08_least.mono_l k
  exact ih0 a0 a1
def siglumlaw08_least.T4 : Bool × List (List Nat × List Nat) := (true, [([], []), ([0], [0]), ([1], [1]), ([], []), ([3], [3]), ([4], [4]), ([2, 5], [2, 5]), ([6], [6])])
def siglumlaw08_least.B4 : List Nat := [0, 1, 3, 0, 8, 24, 63, 127]
theorem siglumlaw08_least.tab4 : rtab .any (opsOf Tryd.f21 4) = siglumlaw08_least.T4 := by kernel_rfl
theorem siglumlaw08_least.bits4 : waitsOk siglumlaw08_least.T4.2 siglumlaw08_least.B4 = true := by kernel_rfl
def siglumlaw08_least.T6 : Bool × List (List Nat × List Nat) := (true, [([], []), ([], []), ([1], [1]), ([], []), ([2, 3], [2, 3]), ([4], [4]), ([], []), ([], []), ([7], [7]), ([6, 8, 4], [6, 8]), ([9], [9]), ([0, 5, 10], [0, 5, 10]), ([11, 9, 0, 1, 2, 3, 4, 5, 6, 7, 8, 9, 10, 11], [11])])
def siglumlaw08_least.B6 : List Nat := [0, 0, 2, 0, 14, 30, 0, 0, 128, 478, 990, 2047, 4095]
theorem siglumlaw08_least.tab6 : rtab .any (opsOf Tryd.f21 6) = siglumlaw08_least.T6 := by kernel_rfl
theorem siglumlaw08_least.bits6 : waitsOk siglumlaw08_least.T6.2 siglumlaw08_least.B6 = true := by kernel_rfl
set_option maxHeartbeats 8000000 in
set_option maxRecDepth 100000 in
theorem siglumlaw08_least.calls (k : Nat) : ∀ (A0 : Option Addr) (c0 : Nat) (l0 : List (S75)) (A1 : Option Addr) (c1 : Nat) (l1 : List (S75)) (r : Int) (w : World) (hr0 : Kd.C k75 w A0 l0.length l0) (hc0 : l0.length ≤ c0) (hr1 : Kd.C k75 w A1 l1.length l1) (hc1 : l1.length ≤ c1) (h : siglumlaw08_least.f k l0 l1 = some r),
    Calls Tryd.prog 21 #[.slice A0 l0.length c0, .slice A1 l1.length c1] w fun e w' => e = .returned (.int .i64 r) ∧ Below w.heap.size w w' := by
  induction k using Nat.strongRecOn with
  | _ k ih =>
  intro A0 c0 l0 A1 c1 l1 r w hr0 hc0 hr1 hc1 h
  cases k with
  | zero => exact absurd h (by simp [siglumlaw08_least.f])
  | succ k =>
  simp only [siglumlaw08_least.f] at h
  have hu75 := Tryd.underlying75
  have HR0 := Aside0.mk hr0
  have HC0 := Aside0.mk hc0
  clear hr0 hc0
  have HR1 := Aside0.mk hr1
  have HC1 := Aside0.mk hc1
  clear hr1 hc1
  have HB := Aside0.mk (Below.refl w.heap.size w)
  have H : (if (l0.length : Int) = 0 then (siglumlaw08_least.j0 k l0 l1 true) else (siglumlaw08_least.j0 k l0 l1 ((l1.length : Int) == 0))) = some r := h
  clear h
  have HC3 := Aside0.mk H
  clear H
  go_enter Tryd.func21, Tryd.ntmps21
  go_upto_region 1 with (fail)
  go_cut [13] (fun v13 wc => ∃ (kq : Nat) (x13_2 : Bool), v13 = .bool x13_2 ∧ Aside0 (siglumlaw08_least.j0 kq l0 l1 x13_2 = some r) ∧ Aside0 (kq ≤ k) ∧ Aside0 (Below w.heap.size w wc))
  case first =>
    have H := HC3.out
    clear HC3
    by_cases c4 : (l0.length : Int) = 0
    · rw [if_pos c4] at H
      have c4b0 : ((l0.length : Int) == 0) = true := beq_iff_eq.mpr c4
      have c4b1 : ((l0.length : Int) != 0) = false := bne_eq_false_iff_eq.mpr c4
      clear c4
      (first | rw [c4b0] | (simp only [i64_w, i32_w]; rw [c4b0]) | skip)
      have H' := Aside0.mk H
      clear H
      go_wp2
      go_meet
      case rel => exact ⟨_, (true), (by first | rfl | (simp; done) | (simp [*]; done)), H', ⟨by first | omega | exact Nat.le_refl _⟩, ⟨by repeat (first | (with_reducible first | exact HB.out | apply below_alloc | apply pw_below_drewN | apply below_drew1) | exact HB.out)⟩⟩
    · rw [if_neg c4] at H
      have c4b0 : ((l0.length : Int) == 0) = false := beq_eq_false_iff_ne.mpr c4
      have c4b1 : ((l0.length : Int) != 0) = true := bne_iff_ne.mpr c4
      have c4b2 : ¬ (l0 = []) := fun h_ => c4 (by rw [h_]; rfl)
      (first | rw [c4b0] | (simp only [i64_w, i32_w]; rw [c4b0]) | skip)
      have H' := Aside0.mk H
      clear H
      go_wp2
      go_meet
      case rel => exact ⟨_, (((l1.length : Int) == 0)), (by first | rfl | (simp; done) | (simp [*]; done)), H', ⟨by first | omega | exact Nat.le_refl _⟩, ⟨by repeat (first | (with_reducible first | exact HB.out | apply below_alloc | apply pw_below_drewN | apply below_drew1) | exact HB.out)⟩⟩
  case rest =>
    clear HC3
    try clear c1
    try clear c2
    try clear p2
    try clear c4
    try clear c4b0
    try clear c4b1
    try clear c4b2
    obtain ⟨kq, x13_2, rfl, HA, HJ2, HB⟩ := hcut
    cases kq with
    | zero => exact absurd HA.out (by simp [siglumlaw08_least.j0])
    | succ kj2 =>
      have H := HA.out
      clear HA
      simp only [siglumlaw08_least.j0] at H
      by_cases c5 : x13_2 = true
      · subst c5
        have H1 : (some (wrap64 ((l0.length : Int) + (l1.length : Int)))) = some r := by rw [if_pos rfl] at H; exact H
        clear H
        have H := H1
        clear H1
        obtain rfl := Option.some.inj H
        go_wp2
        go_ret
        exact ⟨by first | rfl | (simp [errW_none, errW_some] <;> rfl) | (simp [*, errW_none, errW_some] <;> rfl), by repeat (first | (with_reducible first | exact HB.out | apply below_alloc | apply pw_below_drewN | apply below_drew1) | exact HB.out)⟩
      · replace c5 := Bool.eq_false_iff.mpr c5
        subst c5
        have H1 : (if 1 ≤ (l0.length : Int) then (if 1 ≤ (l1.length : Int) then ((siglumlaw08_least.f kj2 (l0.drop 1) (l1.drop 1)).bind fun t199 => (if 0 < (l0.length : Int) then (if 0 < (l1.length : Int) then ((siglumref08_Same.f ((rd_T75 l0 0).f0) ((rd_T75 l0 0).f1) ((rd_T75 l0 0).f2) ((rd_T75 l0 0).f3) ((rd_T75 l0 0).f4) ((rd_T75 l1 0).f0) ((rd_T75 l1 0).f1) ((rd_T75 l1 0).f2) ((rd_T75 l1 0).f3) ((rd_T75 l1 0).f4)).bind fun t202 => (if t202 = true then ((siglumlaw08_least.f kj2 (l0.drop 1) l1).bind fun t207 => ((siglumlaw08_least.f kj2 l0 (l1.drop 1)).bind fun t212 => (some (mn (mn t199 (wrap64 (t207 + 1))) (wrap64 (t212 + 1)))))) else ((siglumlaw08_least.f kj2 (l0.drop 1) l1).bind fun t217 => ((siglumlaw08_least.f kj2 l0 (l1.drop 1)).bind fun t222 => (some (mn (mn (wrap64 (t199 + 1)) (wrap64 (t217 + 1))) (wrap64 (t222 + 1)))))))) else (none)) else (none))) else (none)) else (none)) = some r := by rw [if_neg (show ¬ (false = true) by decide)] at H; exact H
        clear H
        have H := H1
        clear H1
        by_cases c6 : 1 ≤ (l0.length : Int)
        · rw [if_pos c6] at H
          have c6b0 := eq_true c6
          have c6b1 : decide (1 ≤ (l0.length : Int)) = true := decide_eq_true c6
          clear c6
          obtain ⟨y191, hy191⟩ : ∃ y_ : List (S75), y_ = (l0.drop 1) := ⟨_, rfl⟩
          replace H : (if 1 ≤ (l1.length : Int) then ((siglumlaw08_least.f kj2 y191 (l1.drop 1)).bind fun t199 => (if 0 < (l0.length : Int) then (if 0 < (l1.length : Int) then ((siglumref08_Same.f ((rd_T75 l0 0).f0) ((rd_T75 l0 0).f1) ((rd_T75 l0 0).f2) ((rd_T75 l0 0).f3) ((rd_T75 l0 0).f4) ((rd_T75 l1 0).f0) ((rd_T75 l1 0).f1) ((rd_T75 l1 0).f2) ((rd_T75 l1 0).f3) ((rd_T75 l1 0).f4)).bind fun t202 => (if t202 = true then ((siglumlaw08_least.f kj2 (l0.drop 1) l1).bind fun t207 => ((siglumlaw08_least.f kj2 l0 (l1.drop 1)).bind fun t212 => (some (mn (mn t199 (wrap64 (t207 + 1))) (wrap64 (t212 + 1)))))) else ((siglumlaw08_least.f kj2 (l0.drop 1) l1).bind fun t217 => ((siglumlaw08_least.f kj2 l0 (l1.drop 1)).bind fun t222 => (some (mn (mn (wrap64 (t199 + 1)) (wrap64 (t217 + 1))) (wrap64 (t222 + 1)))))))) else (none)) else (none))) else (none)) = some r := by first | (rw [hy191]; with_reducible exact H) | (have H2_ := (Option.bind_some _ _).symm.trans H; rw [hy191]; with_reducible exact H2_) | (have H2_ := (Option.bind_some _ _).symm.trans H; with_reducible exact H2_) | with_reducible exact H | (rw [hy191]; exact H) | exact H
          have Ny191 := Aside0.mk hy191
          clear hy191
          by_cases c7 : 1 ≤ (l1.length : Int)
          · rw [if_pos c7] at H
            have c7b0 := eq_true c7
            have c7b1 : decide (1 ≤ (l1.length : Int)) = true := decide_eq_true c7
            clear c7
            obtain ⟨y195, hy195⟩ : ∃ y_ : List (S75), y_ = (l1.drop 1) := ⟨_, rfl⟩
            replace H : ((siglumlaw08_least.f kj2 y191 y195).bind fun t199 => (if 0 < (l0.length : Int) then (if 0 < (l1.length : Int) then ((siglumref08_Same.f ((rd_T75 l0 0).f0) ((rd_T75 l0 0).f1) ((rd_T75 l0 0).f2) ((rd_T75 l0 0).f3) ((rd_T75 l0 0).f4) ((rd_T75 l1 0).f0) ((rd_T75 l1 0).f1) ((rd_T75 l1 0).f2) ((rd_T75 l1 0).f3) ((rd_T75 l1 0).f4)).bind fun t202 => (if t202 = true then ((siglumlaw08_least.f kj2 (l0.drop 1) l1).bind fun t207 => ((siglumlaw08_least.f kj2 l0 (l1.drop 1)).bind fun t212 => (some (mn (mn t199 (wrap64 (t207 + 1))) (wrap64 (t212 + 1)))))) else ((siglumlaw08_least.f kj2 (l0.drop 1) l1).bind fun t217 => ((siglumlaw08_least.f kj2 l0 (l1.drop 1)).bind fun t222 => (some (mn (mn (wrap64 (t199 + 1)) (wrap64 (t217 + 1))) (wrap64 (t222 + 1)))))))) else (none)) else (none))) = some r := by first | (rw [hy195]; with_reducible exact H) | (have H2_ := (Option.bind_some _ _).symm.trans H; rw [hy195]; with_reducible exact H2_) | (have H2_ := (Option.bind_some _ _).symm.trans H; with_reducible exact H2_) | with_reducible exact H | (rw [hy195]; exact H) | exact H
            have Ny195 := Aside0.mk hy195
            clear hy195
            replace H := Option.bind_eq_some_iff.mp H
            obtain ⟨t199, A80, H⟩ := H
            replace H : (if 0 < (l0.length : Int) then (if 0 < (l1.length : Int) then ((siglumref08_Same.f ((rd_T75 l0 0).f0) ((rd_T75 l0 0).f1) ((rd_T75 l0 0).f2) ((rd_T75 l0 0).f3) ((rd_T75 l0 0).f4) ((rd_T75 l1 0).f0) ((rd_T75 l1 0).f1) ((rd_T75 l1 0).f2) ((rd_T75 l1 0).f3) ((rd_T75 l1 0).f4)).bind fun t202 => (if t202 = true then ((siglumlaw08_least.f kj2 (l0.drop 1) l1).bind fun t207 => ((siglumlaw08_least.f kj2 l0 (l1.drop 1)).bind fun t212 => (some (mn (mn t199 (wrap64 (t207 + 1))) (wrap64 (t212 + 1)))))) else ((siglumlaw08_least.f kj2 (l0.drop 1) l1).bind fun t217 => ((siglumlaw08_least.f kj2 l0 (l1.drop 1)).bind fun t222 => (some (mn (mn (wrap64 (t199 + 1)) (wrap64 (t217 + 1))) (wrap64 (t222 + 1)))))))) else (none)) else (none)) = some r := H
            have A8 := Aside0.mk A80
            clear A80
            by_cases c9 : 0 < (l0.length : Int)
            · rw [if_pos c9] at H
              have c9b0 : decide (0 < (l0.length : Int)) = true := decide_eq_true c9
              have c9b1 : decide (0 < l0.length) = true := decide_eq_true (by omega)
              clear c9
              by_cases c10 : 0 < (l1.length : Int)
              · rw [if_pos c10] at H
                have c10b0 : decide (0 < (l1.length : Int)) = true := decide_eq_true c10
                have c10b1 : decide (0 < l1.length) = true := decide_eq_true (by omega)
                clear c10
                replace H := Option.bind_eq_some_iff.mp H
                obtain ⟨t202, A110, H⟩ := H
                replace H : (if t202 = true then ((siglumlaw08_least.f kj2 (l0.drop 1) l1).bind fun t207 => ((siglumlaw08_least.f kj2 l0 (l1.drop 1)).bind fun t212 => (some (mn (mn t199 (wrap64 (t207 + 1))) (wrap64 (t212 + 1)))))) else ((siglumlaw08_least.f kj2 (l0.drop 1) l1).bind fun t217 => ((siglumlaw08_least.f kj2 l0 (l1.drop 1)).bind fun t222 => (some (mn (mn (wrap64 (t199 + 1)) (wrap64 (t217 + 1))) (wrap64 (t222 + 1))))))) = some r := H
                have A11 := Aside0.mk A110
                clear A110
                by_cases c12 : t202 = true
                · subst c12
                  have H1 : ((siglumlaw08_least.f kj2 (l0.drop 1) l1).bind fun t207 => ((siglumlaw08_least.f kj2 l0 (l1.drop 1)).bind fun t212 => (some (mn (mn t199 (wrap64 (t207 + 1))) (wrap64 (t212 + 1)))))) = some r := by rw [if_pos rfl] at H; exact H
                  clear H
                  have H := H1
                  clear H1
                  have c13b0 := eq_true (of_decide_eq_true (by first | (with_reducible assumption) | assumption) : 1 ≤ (l0.length : Int))
                  obtain ⟨y203, hy203⟩ : ∃ y_ : List (S75), y_ = (l0.drop 1) := ⟨_, rfl⟩
                  replace H : ((siglumlaw08_least.f kj2 y203 l1).bind fun t207 => ((siglumlaw08_least.f kj2 l0 (l1.drop 1)).bind fun t212 => (some (mn (mn t199 (wrap64 (t207 + 1))) (wrap64 (t212 + 1)))))) = some r := by first | (rw [hy203]; with_reducible exact H) | (have H2_ := (Option.bind_some _ _).symm.trans H; rw [hy203]; with_reducible exact H2_) | (have H2_ := (Option.bind_some _ _).symm.trans H; with_reducible exact H2_) | with_reducible exact H | (rw [hy203]; exact H) | exact H
                  have Ny203 := Aside0.mk hy203
                  clear hy203
                  replace H := Option.bind_eq_some_iff.mp H
                  obtain ⟨t207, A140, H⟩ := H
                  replace H : ((siglumlaw08_least.f kj2 l0 (l1.drop 1)).bind fun t212 => (some (mn (mn t199 (wrap64 (t207 + 1))) (wrap64 (t212 + 1))))) = some r := H
                  have A14 := Aside0.mk A140
                  clear A140
                  have c15b0 := eq_true (of_decide_eq_true (by first | (with_reducible assumption) | assumption) : 1 ≤ (l1.length : Int))
                  obtain ⟨y208, hy208⟩ : ∃ y_ : List (S75), y_ = (l1.drop 1) := ⟨_, rfl⟩
                  replace H : ((siglumlaw08_least.f kj2 l0 y208).bind fun t212 => (some (mn (mn t199 (wrap64 (t207 + 1))) (wrap64 (t212 + 1))))) = some r := by first | (rw [hy208]; with_reducible exact H) | (have H2_ := (Option.bind_some _ _).symm.trans H; rw [hy208]; with_reducible exact H2_) | (have H2_ := (Option.bind_some _ _).symm.trans H; with_reducible exact H2_) | with_reducible exact H | (rw [hy208]; exact H) | exact H
                  have Ny208 := Aside0.mk hy208
                  clear hy208
                  replace H := Option.bind_eq_some_iff.mp H
                  obtain ⟨t212, A160, H⟩ := H
                  replace H : (some (mn (mn t199 (wrap64 (t207 + 1))) (wrap64 (t212 + 1)))) = some r := H
                  have A16 := Aside0.mk A160
                  clear A160
                  obtain ⟨ji17, hji17⟩ : ∃ j_ : Int, (mn t199 (wrap64 (t207 + 1))) = j_ := ⟨_, rfl⟩
                  replace H : (some (mn (ji17) (wrap64 (t212 + 1)))) = some r := by first | (rw [hji17] at H; exact H) | (simp only [hji17] at H ⊢; exact H)
                  (try rw [hji17] at A8)
                  (try rw [hji17] at A11)
                  (try rw [hji17] at A14)
                  (try rw [hji17] at A16)
                  have hji17_ : (if (wrap64 (t207 + 1)) < t199 then (wrap64 (t207 + 1)) else t199) = ji17 := hji17
                  obtain ⟨ji18, hji18⟩ : ∃ j_ : Int, (mn (ji17) (wrap64 (t212 + 1))) = j_ := ⟨_, rfl⟩
                  replace H : (some ji18) = some r := by first | (rw [hji18] at H; exact H) | (simp only [hji18] at H ⊢; exact H)
                  (try rw [hji18] at A8)
                  (try rw [hji18] at A11)
                  (try rw [hji18] at A14)
                  (try rw [hji18] at A16)
                  have hji18_ : (if (wrap64 (t212 + 1)) < (ji17) then (wrap64 (t212 + 1)) else (ji17)) = ji18 := hji18
                  obtain rfl := Option.some.inj H
                  try go_wp2
                  have n0_ := Aside0.mk (below_drew1 HB.out)
                  clear HB
                  have HB := n0_
                  clear n0_
                  have q20 : (1 : Int) ≤ ((l0.length : Int) : Int) := of_decide_eq_true (by first | (with_reducible assumption) | assumption)
                  obtain ⟨i020, hi020, _, hsz20, _⟩ := info_parts info75
                  have hroom20 : l0.length ≤ c0 := HC0.out
                  have hC20 : Kd.C k75 _ A0 l0.length l0 := HR0.out
                  have hcut20 := cut_from (P := Tryd.prog) 36 75 .i64 Tryd.underlying36 hi020 5 hsz20 A0 l0.length c0 1 (by omega) q20
                  have hr20 := Kd.C_drop (m := (1 : Int).toNat) (c := c0) hC20 (by omega) hroom20
                  obtain ⟨A20, hA20⟩ : ∃ A1_, A1_ = (if c0 = (1 : Int).toNat then A0 else (A0 : Option Addr).map (·.add ((1 : Int).toNat * 5))) := ⟨_, rfl⟩
                  obtain ⟨c20, hc20⟩ : ∃ c1_, c1_ = c0 - (1 : Int).toNat := ⟨_, rfl⟩
                  have hy20 : y191.length = l0.length - (1 : Int).toNat := (by rw [Ny191.out, List.length_drop] <;> omega)
                  rw [show (l0).drop (1 : Int).toNat = y191 from Ny191.out.symm] at hr20
                  replace hr20 : Kd.C k75 _ A20 y191.length y191 := (by rw [hA20]; exact hr20)
                  rw [← hy20, ← hA20, ← hc20] at hcut20
                  have HR194 := Aside0.mk hr20
                  have HC194 := Aside0.mk (show y191.length ≤ c20 from by rw [hy20, hc20]; exact Nat.sub_le_sub_right hroom20 _)
                  clear hr20 hC20 hroom20 hi020 hsz20 hc20
                  have KY20 := Aside0.mk hy20
                  have KA20 := Aside0.mk hA20
                  clear hy20 hA20
                  replace q20 := eq_true q20
                  have q21 : (1 : Int) ≤ ((l1.length : Int) : Int) := of_decide_eq_true (by first | (with_reducible assumption) | assumption)
                  obtain ⟨i021, hi021, _, hsz21, _⟩ := info_parts info75
                  have hroom21 : l1.length ≤ c1 := HC1.out
                  have hC21 : Kd.C k75 _ A1 l1.length l1 := HR1.out
                  have hcut21 := cut_from (P := Tryd.prog) 36 75 .i64 Tryd.underlying36 hi021 5 hsz21 A1 l1.length c1 1 (by omega) q21
                  have hr21 := Kd.C_drop (m := (1 : Int).toNat) (c := c1) hC21 (by omega) hroom21
                  obtain ⟨A21, hA21⟩ : ∃ A1_, A1_ = (if c1 = (1 : Int).toNat then A1 else (A1 : Option Addr).map (·.add ((1 : Int).toNat * 5))) := ⟨_, rfl⟩
                  obtain ⟨c21, hc21⟩ : ∃ c1_, c1_ = c1 - (1 : Int).toNat := ⟨_, rfl⟩
                  have hy21 : y195.length = l1.length - (1 : Int).toNat := (by rw [Ny195.out, List.length_drop] <;> omega)
                  rw [show (l1).drop (1 : Int).toNat = y195 from Ny195.out.symm] at hr21
                  replace hr21 : Kd.C k75 _ A21 y195.length y195 := (by rw [hA21]; exact hr21)
                  rw [← hy21, ← hA21, ← hc21] at hcut21
                  have HR198 := Aside0.mk hr21
                  have HC198 := Aside0.mk (show y195.length ≤ c21 from by rw [hy21, hc21]; exact Nat.sub_le_sub_right hroom21 _)
                  clear hr21 hC21 hroom21 hi021 hsz21 hc21
                  have KY21 := Aside0.mk hy21
                  have KA21 := Aside0.mk hA21
                  clear hy21 hA21
                  replace q21 := eq_true q21
                  refine start_ (n := 6) (S := fun w' => True) (ds := []) #[false, false, false, false, false, false] (by kernel_rfl) rfl rfl trivial (fun hHeld => ?_)
                  generalize wc.drew = w19 at HB HR194 HR198 hHeld ⊢
                  refine pure_ (i := 0) (N := some 19) (v := ?_) (a' := ?_) #[true, false, false, false, false, false] rfl rfl (by kernel_rfl) (fun _ _ _ h => h) (Or.inl ⟨by rfl, ?_⟩) ?_ ?_
                  rotate_left
                  · intro w'
                    go_simp
                    with_reducible rfl
                  rotate_left
                  · simp only [Act.put, List.setIfInBounds_toArray, List.set_cons_zero, List.set_cons_succ, i64_w, i32_w]
                    rfl
                  refine pure_ (i := 1) (N := some 20) (v := ?_) (a' := ?_) #[true, true, false, false, false, false] rfl rfl (by kernel_rfl) (fun _ _ _ h => h) (Or.inl ⟨by rfl, ?_⟩) ?_ ?_
                  rotate_left
                  · intro w'
                    go_simp
                    with_reducible rfl
                  rotate_left
                  · simp only [Act.put, List.setIfInBounds_toArray, List.set_cons_zero, List.set_cons_succ, i64_w, i32_w]
                    rfl
                  refine pure_ (i := 2) (N := some 21) (v := ?_) (a' := ?_) #[true, true, true, false, false, false] rfl rfl (by kernel_rfl) (fun _ _ _ h => h) (Or.inl ⟨by rfl, ?_⟩) ?_ ?_
                  rotate_left
                  · intro w'
                    go_simp
                    with_reducible rfl
                  rotate_left
                  · simp only [Act.put, List.setIfInBounds_toArray, List.set_cons_zero, List.set_cons_succ, i64_w, i32_w]
                    rfl
                  refine pure_ (i := 3) (N := some 22) (v := ?_) (a' := ?_) #[true, true, true, true, false, false] rfl rfl (by kernel_rfl) (fun _ _ _ h => h) (Or.inl ⟨by rfl, ?_⟩) ?_ ?_
                  rotate_left
                  · intro w'
                    go_simp
                    with_reducible rfl
                  rotate_left
                  · simp only [Act.put, List.setIfInBounds_toArray, List.set_cons_zero, List.set_cons_succ, i64_w, i32_w]
                    rfl
                  refine one_ (i := 4) (N := some 23) #[true, true, true, true, true, false] rfl rfl (by kernel_rfl) (by decide) (fun K hK => ?_)
                  refine goes_ Tryd.func21 (by kernel_rfl) rfl #[.slice A20 y191.length c20, .slice A21 y195.length c21] (by rfl) rfl rfl (by (try simp only [List.map_toArray, List.map_cons, List.map_nil]); first | done | rfl | (simp only [List.length_drop, List.length_take]; rfl)) ?_
                  with_reducible refine (ih kj2 (by have := HJ2.out; omega) _ _ y191 _ _ y195 t199 _ ?side1 ?side2 ?side3 ?side4 A8.out).mono ?_
                  (case side1 => repeat (first | exact (Kd.C_below HR194.out HB.out) | (with_reducible refine Kd.C_alloc ?_ _) | (with_reducible refine Kd.C_drewN ?_ _) | (with_reducible refine Kd.C_drew ?_)))
                  (case side2 => exact HC194.out)
                  (case side3 => repeat (first | exact (Kd.C_below HR198.out HB.out) | (with_reducible refine Kd.C_alloc ?_ _) | (with_reducible refine Kd.C_drewN ?_ _) | (with_reducible refine Kd.C_drew ?_)))
                  (case side4 => exact HC198.out)
                  rintro e w22 ⟨rfl, hb⟩
                  refine ⟨_, rfl, ?_⟩
                  have n0_ := Aside0.mk (below_step (by repeat (first | (with_reducible first | exact HB.out | apply below_alloc | apply pw_below_drewN | apply below_drew1) | exact HB.out)) hb)
                  clear HB
                  have HB := n0_
                  clear n0_
                  (try clear hb)
                  (try clear hb2)
                  (try clear hk)
                  (try clear hi)
                  refine hK.out _ _ trivial (fun hHeld => ?_)
                  clear hK K
                  refine norm_ (a' := ?_) ?_ ?_
                  rotate_left
                  · show Act.put _ (some 23) _ = _
                    simp only [Act.put, List.setIfInBounds_toArray, List.set_cons_zero, List.set_cons_succ, i64_w, i32_w]
                    rfl
                  refine pure_ (i := 5) (N := some 5) (v := ?_) (a' := ?_) #[true, true, true, true, true, true] rfl rfl (by kernel_rfl) (fun _ _ _ h => h) (Or.inl ⟨by rfl, ?_⟩) ?_ ?_
                  rotate_left
                  · intro w'
                    go_simp
                    with_reducible rfl
                  rotate_left
                  · simp only [Act.put, List.setIfInBounds_toArray, List.set_cons_zero, List.set_cons_succ, i64_w, i32_w]
                    rfl
                  refine done_ (by kernel_rfl) ?_
                  try go_wp2
                  have n0_ := Aside0.mk (below_drew1 HB.out)
                  clear HB
                  have HB := n0_
                  clear n0_
                  have p200 : 0 ≤ (0 : Int) := (by omega)
                  have q200 : 0 < (l0.length : Int) := of_decide_eq_true (by first | (with_reducible assumption) | assumption)
                  obtain ⟨ad200, e200, hx200_0, hx200_1, hx200_2, hx200_3, hx200_4⟩ := at_T75 HR0.out 0 p200 q200
                  have hw200_4 := hx200_4
                  (try rw [show ((0 : Int)).toNat = 0 from rfl] at hw200_4)
                  (try rw [show 0 * 5 = 0 from rfl] at hw200_4)
                  (try rw [Addr.add_zero'] at hw200_4)
                  have hw200_3 := hx200_3
                  (try rw [show ((0 : Int)).toNat = 0 from rfl] at hw200_3)
                  (try rw [show 0 * 5 = 0 from rfl] at hw200_3)
                  (try rw [Addr.add_zero'] at hw200_3)
                  have hw200_2 := hx200_2
                  (try rw [show ((0 : Int)).toNat = 0 from rfl] at hw200_2)
                  (try rw [show 0 * 5 = 0 from rfl] at hw200_2)
                  (try rw [Addr.add_zero'] at hw200_2)
                  have hw200_1 := hx200_1
                  (try rw [show ((0 : Int)).toNat = 0 from rfl] at hw200_1)
                  (try rw [show 0 * 5 = 0 from rfl] at hw200_1)
                  (try rw [Addr.add_zero'] at hw200_1)
                  have hw200_0 := hx200_0
                  (try rw [show ((0 : Int)).toNat = 0 from rfl] at hw200_0)
                  (try rw [show 0 * 5 = 0 from rfl] at hw200_0)
                  (try rw [Addr.add_zero'] at hw200_0)
                  cases e200
                  have qi200 : (0 < l0.length) = True := eq_true (by omega)
                  (try rw [show ((0 : Int)).toNat = 0 from rfl] at hx200_0)
                  (try rw [show 0 * 5 = 0 from rfl] at hx200_0)
                  (try rw [Addr.add_zero'] at hx200_0)
                  (try rw [show ((0 : Int)).toNat = 0 from rfl] at hx200_1)
                  (try rw [show 0 * 5 = 0 from rfl] at hx200_1)
                  (try rw [Addr.add_zero'] at hx200_1)
                  (try rw [show ((0 : Int)).toNat = 0 from rfl] at hx200_2)
                  (try rw [show 0 * 5 = 0 from rfl] at hx200_2)
                  (try rw [Addr.add_zero'] at hx200_2)
                  (try rw [show ((0 : Int)).toNat = 0 from rfl] at hx200_3)
                  (try rw [show 0 * 5 = 0 from rfl] at hx200_3)
                  (try rw [Addr.add_zero'] at hx200_3)
                  (try rw [show ((0 : Int)).toNat = 0 from rfl] at hx200_4)
                  (try rw [show 0 * 5 = 0 from rfl] at hx200_4)
                  (try rw [Addr.add_zero'] at hx200_4)
                  replace hx200_0 := (HB.out.cell (World.block_lt_of_cell? w _ hx200_0)).trans hx200_0
                  replace hx200_1 := (HB.out.cell (World.block_lt_of_cell? w _ hx200_1)).trans hx200_1
                  replace hx200_2 := (HB.out.cell (World.block_lt_of_cell? w _ hx200_2)).trans hx200_2
                  replace hx200_3 := (HB.out.cell (World.block_lt_of_cell? w _ hx200_3)).trans hx200_3
                  replace hx200_4 := (HB.out.cell (World.block_lt_of_cell? w _ hx200_4)).trans hx200_4
                  replace p200 := eq_true p200
                  replace q200 := eq_true q200
                  have p201 : 0 ≤ (0 : Int) := (by omega)
                  have q201 : 0 < (l1.length : Int) := of_decide_eq_true (by first | (with_reducible assumption) | assumption)
                  obtain ⟨ad201, e201, hx201_0, hx201_1, hx201_2, hx201_3, hx201_4⟩ := at_T75 HR1.out 0 p201 q201
                  have hw201_4 := hx201_4
                  (try rw [show ((0 : Int)).toNat = 0 from rfl] at hw201_4)
                  (try rw [show 0 * 5 = 0 from rfl] at hw201_4)
                  (try rw [Addr.add_zero'] at hw201_4)
                  have hw201_3 := hx201_3
                  (try rw [show ((0 : Int)).toNat = 0 from rfl] at hw201_3)
                  (try rw [show 0 * 5 = 0 from rfl] at hw201_3)
                  (try rw [Addr.add_zero'] at hw201_3)
                  have hw201_2 := hx201_2
                  (try rw [show ((0 : Int)).toNat = 0 from rfl] at hw201_2)
                  (try rw [show 0 * 5 = 0 from rfl] at hw201_2)
                  (try rw [Addr.add_zero'] at hw201_2)
                  have hw201_1 := hx201_1
                  (try rw [show ((0 : Int)).toNat = 0 from rfl] at hw201_1)
                  (try rw [show 0 * 5 = 0 from rfl] at hw201_1)
                  (try rw [Addr.add_zero'] at hw201_1)
                  have hw201_0 := hx201_0
                  (try rw [show ((0 : Int)).toNat = 0 from rfl] at hw201_0)
                  (try rw [show 0 * 5 = 0 from rfl] at hw201_0)
                  (try rw [Addr.add_zero'] at hw201_0)
                  cases e201
                  have qi201 : (0 < l1.length) = True := eq_true (by omega)
                  (try rw [show ((0 : Int)).toNat = 0 from rfl] at hx201_0)
                  (try rw [show 0 * 5 = 0 from rfl] at hx201_0)
                  (try rw [Addr.add_zero'] at hx201_0)
                  (try rw [show ((0 : Int)).toNat = 0 from rfl] at hx201_1)
                  (try rw [show 0 * 5 = 0 from rfl] at hx201_1)
                  (try rw [Addr.add_zero'] at hx201_1)
                  (try rw [show ((0 : Int)).toNat = 0 from rfl] at hx201_2)
                  (try rw [show 0 * 5 = 0 from rfl] at hx201_2)
                  (try rw [Addr.add_zero'] at hx201_2)
                  (try rw [show ((0 : Int)).toNat = 0 from rfl] at hx201_3)
                  (try rw [show 0 * 5 = 0 from rfl] at hx201_3)
                  (try rw [Addr.add_zero'] at hx201_3)
                  (try rw [show ((0 : Int)).toNat = 0 from rfl] at hx201_4)
                  (try rw [show 0 * 5 = 0 from rfl] at hx201_4)
                  (try rw [Addr.add_zero'] at hx201_4)
                  replace hx201_0 := (HB.out.cell (World.block_lt_of_cell? w _ hx201_0)).trans hx201_0
                  replace hx201_1 := (HB.out.cell (World.block_lt_of_cell? w _ hx201_1)).trans hx201_1
                  replace hx201_2 := (HB.out.cell (World.block_lt_of_cell? w _ hx201_2)).trans hx201_2
                  replace hx201_3 := (HB.out.cell (World.block_lt_of_cell? w _ hx201_3)).trans hx201_3
                  replace hx201_4 := (HB.out.cell (World.block_lt_of_cell? w _ hx201_4)).trans hx201_4
                  replace p201 := eq_true p201
                  replace q201 := eq_true q201
                  refine start_ (n := 8) (S := fun w' => w'.cell? ad200 = some (.int .i64 ((rd_T75 l0 0).f0)) ∧ w'.cell? ⟨ad200.block, ad200.off + 1, none⟩ = some (.int .i64 ((rd_T75 l0 0).f1)) ∧ w'.cell? ⟨ad200.block, ad200.off + 2, none⟩ = some (.int .i32 ((rd_T75 l0 0).f2)) ∧ w'.cell? ⟨ad200.block, ad200.off + 3, none⟩ = some (.bool ((rd_T75 l0 0).f3)) ∧ w'.cell? ⟨ad200.block, ad200.off + 4, none⟩ = some (.int .u8 ((rd_T75 l0 0).f4)) ∧ w'.cell? ad201 = some (.int .i64 ((rd_T75 l1 0).f0)) ∧ w'.cell? ⟨ad201.block, ad201.off + 1, none⟩ = some (.int .i64 ((rd_T75 l1 0).f1)) ∧ w'.cell? ⟨ad201.block, ad201.off + 2, none⟩ = some (.int .i32 ((rd_T75 l1 0).f2)) ∧ w'.cell? ⟨ad201.block, ad201.off + 3, none⟩ = some (.bool ((rd_T75 l1 0).f3)) ∧ w'.cell? ⟨ad201.block, ad201.off + 4, none⟩ = some (.int .u8 ((rd_T75 l1 0).f4))) (ds := []) #[false, false, false, false, false, false, false, false] (by kernel_rfl) rfl rfl ⟨((HB.out.cell (World.block_lt_of_cell? w _ hw200_0)).trans hw200_0), ((HB.out.cell (World.block_lt_of_cell? w _ hw200_1)).trans hw200_1), ((HB.out.cell (World.block_lt_of_cell? w _ hw200_2)).trans hw200_2), ((HB.out.cell (World.block_lt_of_cell? w _ hw200_3)).trans hw200_3), ((HB.out.cell (World.block_lt_of_cell? w _ hw200_4)).trans hw200_4), ((HB.out.cell (World.block_lt_of_cell? w _ hw201_0)).trans hw201_0), ((HB.out.cell (World.block_lt_of_cell? w _ hw201_1)).trans hw201_1), ((HB.out.cell (World.block_lt_of_cell? w _ hw201_2)).trans hw201_2), ((HB.out.cell (World.block_lt_of_cell? w _ hw201_3)).trans hw201_3), ((HB.out.cell (World.block_lt_of_cell? w _ hw201_4)).trans hw201_4)⟩ (fun hHeld => ?_); refine with_tabW siglumlaw08_least.tab4 siglumlaw08_least.bits4 (fun HT_ HW_ => ?_)
                  generalize w22.drew = w23 at HB hx200_0 hx200_1 hx200_2 hx200_3 hx200_4 hx201_0 hx201_1 hx201_2 hx201_3 hx201_4 hHeld ⊢
                  refine pure_ (i := 0) (N := some 24) (v := ?_) (a' := ?_) #[true, false, false, false, false, false, false, false] rfl rfl (any_of HT_.out (by kernel_rfl)) (fun _ _ _ h => h) (Or.inl ⟨by rfl, ?_⟩) ?_ ?_
                  rotate_left
                  · intro w'
                    go_simp
                    with_reducible rfl
                  rotate_left
                  · simp only [Act.put, List.setIfInBounds_toArray, List.set_cons_zero, List.set_cons_succ, i64_w, i32_w]
                    rfl
                  refine pure_ (i := 1) (N := some 25) (v := ?_) (a' := ?_) #[true, true, false, false, false, false, false, false] rfl rfl (any_of HT_.out (by kernel_rfl)) (fun _ _ _ h => h) (Or.inl ⟨by rfl, ?_⟩) ?_ ?_
                  rotate_left
                  · intro w'
                    go_simp
                    with_reducible rfl
                  rotate_left
                  · simp only [Act.put, List.setIfInBounds_toArray, List.set_cons_zero, List.set_cons_succ, i64_w, i32_w]
                    rfl
                  refine pure_ (i := 3) (N := some 27) (v := ?_) (a' := ?_) #[true, true, false, true, false, false, false, false] rfl rfl (any_of HT_.out (by kernel_rfl)) (fun _ _ _ h => h) (Or.inl ⟨by rfl, ?_⟩) ?_ ?_
                  rotate_left
                  · intro w'
                    go_simp
                    with_reducible rfl
                  rotate_left
                  · simp only [Act.put, List.setIfInBounds_toArray, List.set_cons_zero, List.set_cons_succ, i64_w, i32_w]
                    rfl
                  refine pure_ (i := 4) (N := some 28) (v := ?_) (a' := ?_) #[true, true, false, true, true, false, false, false] rfl rfl (any_of HT_.out (by kernel_rfl)) (fun _ _ _ h => h) (Or.inl ⟨by rfl, ?_⟩) ?_ ?_
                  rotate_left
                  · intro w'
                    go_simp
                    with_reducible rfl
                  rotate_left
                  · simp only [Act.put, List.setIfInBounds_toArray, List.set_cons_zero, List.set_cons_succ, i64_w, i32_w]
                    rfl
                  refine take_ (i := 2) (N := some 26) (v := ?_) (a' := ?_) #[true, true, true, true, true, false, false, false] rfl rfl (take_ofW HT_.out HW_.out (by kernel_rfl)) (fun _ _ _ h => h) (Or.inl ⟨by rfl, ?_⟩) hHeld ?_ ?_
                  rotate_left
                  · rintro w' ⟨s0, s1, s2, s3, s4, s5, s6, s7, s8, s9⟩
                    go_simp
                    with_reducible rfl
                  rotate_left
                  · simp only [Act.put, List.setIfInBounds_toArray, List.set_cons_zero, List.set_cons_succ, i64_w, i32_w]
                    rfl
                  refine take_ (i := 5) (N := some 29) (v := ?_) (a' := ?_) #[true, true, true, true, true, true, false, false] rfl rfl (take_ofW HT_.out HW_.out (by kernel_rfl)) (fun _ _ _ h => h) (Or.inl ⟨by rfl, ?_⟩) hHeld ?_ ?_
                  rotate_left
                  · rintro w' ⟨s0, s1, s2, s3, s4, s5, s6, s7, s8, s9⟩
                    go_simp
                    with_reducible rfl
                  rotate_left
                  · simp only [Act.put, List.setIfInBounds_toArray, List.set_cons_zero, List.set_cons_succ, i64_w, i32_w]
                    rfl
                  refine one_ (i := 6) (N := some 30) #[true, true, true, true, true, true, true, false] rfl rfl (one_of HT_.out (by kernel_rfl)) (by decide) (fun K hK => ?_)
                  refine goes_ Tryd.func37 (by kernel_rfl) rfl #[.agg #[.int .i64 ((rd_T75 l0 0).f0), .int .i64 ((rd_T75 l0 0).f1), .int .i32 ((rd_T75 l0 0).f2), .bool ((rd_T75 l0 0).f3), .int .u8 ((rd_T75 l0 0).f4)], .agg #[.int .i64 ((rd_T75 l1 0).f0), .int .i64 ((rd_T75 l1 0).f1), .int .i32 ((rd_T75 l1 0).f2), .bool ((rd_T75 l1 0).f3), .int .u8 ((rd_T75 l1 0).f4)]] (by rfl) rfl rfl (by (try simp only [List.map_toArray, List.map_cons, List.map_nil]); first | done | rfl | (simp only [List.length_drop, List.length_take]; rfl)) ?_
                  with_reducible refine (siglumref08_Same.calls ((rd_T75 l0 0).f0) ((rd_T75 l0 0).f1) ((rd_T75 l0 0).f2) ((rd_T75 l0 0).f3) ((rd_T75 l0 0).f4) ((rd_T75 l1 0).f0) ((rd_T75 l1 0).f1) ((rd_T75 l1 0).f2) ((rd_T75 l1 0).f3) ((rd_T75 l1 0).f4) true _ A11.out).mono ?_
                  rintro e w24 ⟨rfl, hb⟩
                  refine ⟨_, rfl, ?_⟩
                  have n0_ := Aside0.mk (below_step (by repeat (first | (with_reducible first | exact HB.out | apply below_alloc | apply pw_below_drewN | apply below_drew1) | exact HB.out)) hb)
                  clear HB
                  have HB := n0_
                  clear n0_
                  (try clear hb)
                  (try clear hb2)
                  (try clear hk)
                  (try clear hi)
                  refine hK.out _ _ ⟨((HB.out.cell (World.block_lt_of_cell? w _ hw200_0)).trans hw200_0), ((HB.out.cell (World.block_lt_of_cell? w _ hw200_1)).trans hw200_1), ((HB.out.cell (World.block_lt_of_cell? w _ hw200_2)).trans hw200_2), ((HB.out.cell (World.block_lt_of_cell? w _ hw200_3)).trans hw200_3), ((HB.out.cell (World.block_lt_of_cell? w _ hw200_4)).trans hw200_4), ((HB.out.cell (World.block_lt_of_cell? w _ hw201_0)).trans hw201_0), ((HB.out.cell (World.block_lt_of_cell? w _ hw201_1)).trans hw201_1), ((HB.out.cell (World.block_lt_of_cell? w _ hw201_2)).trans hw201_2), ((HB.out.cell (World.block_lt_of_cell? w _ hw201_3)).trans hw201_3), ((HB.out.cell (World.block_lt_of_cell? w _ hw201_4)).trans hw201_4)⟩ (fun hHeld => ?_)
                  clear hK K
                  refine norm_ (a' := ?_) ?_ ?_
                  rotate_left
                  · show Act.put _ (some 30) _ = _
                    simp only [Act.put, List.setIfInBounds_toArray, List.set_cons_zero, List.set_cons_succ, i64_w, i32_w]
                    rfl
                  refine pure_ (i := 7) (N := some 31) (v := ?_) (a' := ?_) #[true, true, true, true, true, true, true, true] rfl rfl (any_of HT_.out (by kernel_rfl)) (fun _ _ _ h => h) (Or.inl ⟨by rfl, ?_⟩) ?_ ?_
                  rotate_left
                  · intro w'
                    go_simp
                    with_reducible rfl
                  rotate_left
                  · simp only [Act.put, List.setIfInBounds_toArray, List.set_cons_zero, List.set_cons_succ, i64_w, i32_w]
                    rfl
                  refine done_ (done_of HT_.out (by kernel_rfl)) ?_
                  try go_wp2
                  have n0_ := Aside0.mk (below_drew1 HB.out)
                  clear HB
                  have HB := n0_
                  clear n0_
                  have q26 : (1 : Int) ≤ ((l0.length : Int) : Int) := of_decide_eq_true (by first | (with_reducible assumption) | assumption)
                  obtain ⟨i026, hi026, _, hsz26, _⟩ := info_parts info75
                  have hroom26 : l0.length ≤ c0 := HC0.out
                  have hC26 : Kd.C k75 _ (some ad200) l0.length l0 := HR0.out
                  (try clear hcut20)
                  have hcut26 := cut_from (P := Tryd.prog) 36 75 .i64 Tryd.underlying36 hi026 5 hsz26 (some ad200) l0.length c0 1 (by omega) q26
                  have hr26 := Kd.C_drop (m := (1 : Int).toNat) (c := c0) hC26 (by omega) hroom26
                  obtain ⟨A26, hA26⟩ : ∃ A1_, A1_ = (if c0 = (1 : Int).toNat then (some ad200) else ((some ad200) : Option Addr).map (·.add ((1 : Int).toNat * 5))) := ⟨_, rfl⟩
                  obtain ⟨c26, hc26⟩ : ∃ c1_, c1_ = c0 - (1 : Int).toNat := ⟨_, rfl⟩
                  have hy26 : y203.length = l0.length - (1 : Int).toNat := (by rw [Ny203.out, List.length_drop] <;> omega)
                  rw [show (l0).drop (1 : Int).toNat = y203 from Ny203.out.symm] at hr26
                  replace hr26 : Kd.C k75 _ A26 y203.length y203 := (by rw [hA26]; exact hr26)
                  rw [← hy26, ← hA26, ← hc26] at hcut26
                  have HR206 := Aside0.mk hr26
                  have HC206 := Aside0.mk (show y203.length ≤ c26 from by rw [hy26, hc26]; exact Nat.sub_le_sub_right hroom26 _)
                  clear hr26 hC26 hroom26 hi026 hsz26 hc26
                  have KY26 := Aside0.mk hy26
                  have KA26 := Aside0.mk hA26
                  clear hy26 hA26
                  replace q26 := eq_true q26
                  have q27 : (1 : Int) ≤ ((l1.length : Int) : Int) := of_decide_eq_true (by first | (with_reducible assumption) | assumption)
                  obtain ⟨i027, hi027, _, hsz27, _⟩ := info_parts info75
                  have hroom27 : l1.length ≤ c1 := HC1.out
                  have hC27 : Kd.C k75 _ (some ad201) l1.length l1 := HR1.out
                  (try clear hcut21)
                  have hcut27 := cut_from (P := Tryd.prog) 36 75 .i64 Tryd.underlying36 hi027 5 hsz27 (some ad201) l1.length c1 1 (by omega) q27
                  have hr27 := Kd.C_drop (m := (1 : Int).toNat) (c := c1) hC27 (by omega) hroom27
                  obtain ⟨A27, hA27⟩ : ∃ A1_, A1_ = (if c1 = (1 : Int).toNat then (some ad201) else ((some ad201) : Option Addr).map (·.add ((1 : Int).toNat * 5))) := ⟨_, rfl⟩
                  obtain ⟨c27, hc27⟩ : ∃ c1_, c1_ = c1 - (1 : Int).toNat := ⟨_, rfl⟩
                  have hy27 : y208.length = l1.length - (1 : Int).toNat := (by rw [Ny208.out, List.length_drop] <;> omega)
                  rw [show (l1).drop (1 : Int).toNat = y208 from Ny208.out.symm] at hr27
                  replace hr27 : Kd.C k75 _ A27 y208.length y208 := (by rw [hA27]; exact hr27)
                  rw [← hy27, ← hA27, ← hc27] at hcut27
                  have HR211 := Aside0.mk hr27
                  have HC211 := Aside0.mk (show y208.length ≤ c27 from by rw [hy27, hc27]; exact Nat.sub_le_sub_right hroom27 _)
                  clear hr27 hC27 hroom27 hi027 hsz27 hc27
                  have KY27 := Aside0.mk hy27
                  have KA27 := Aside0.mk hA27
                  clear hy27 hA27
                  replace q27 := eq_true q27
                  refine start_ (n := 13) (S := fun w' => True) (ds := []) #[false, false, false, false, false, false, false, false, false, false, false, false, false] (by kernel_rfl) rfl rfl trivial (fun hHeld => ?_); refine with_tabW siglumlaw08_least.tab6 siglumlaw08_least.bits6 (fun HT_ HW_ => ?_)
                  generalize w24.drew = w25 at HB HR206 HR211 hHeld ⊢
                  refine pure_ (i := 0) (N := some 34) (v := ?_) (a' := ?_) #[true, false, false, false, false, false, false, false, false, false, false, false, false] rfl rfl (any_of HT_.out (by kernel_rfl)) (fun _ _ _ h => h) (Or.inl ⟨by rfl, ?_⟩) ?_ ?_
                  rotate_left
                  · intro w'
                    go_simp
                    with_reducible rfl
                  rotate_left
                  · simp only [Act.put, List.setIfInBounds_toArray, List.set_cons_zero, List.set_cons_succ, i64_w, i32_w]
                    rfl
                  refine pure_ (i := 1) (N := some 35) (v := ?_) (a' := ?_) #[true, true, false, false, false, false, false, false, false, false, false, false, false] rfl rfl (any_of HT_.out (by kernel_rfl)) (fun _ _ _ h => h) (Or.inl ⟨by rfl, ?_⟩) ?_ ?_
                  rotate_left
                  · intro w'
                    go_simp
                    with_reducible rfl
                  rotate_left
                  · simp only [Act.put, List.setIfInBounds_toArray, List.set_cons_zero, List.set_cons_succ, i64_w, i32_w]
                    rfl
                  refine pure_ (i := 2) (N := some 36) (v := ?_) (a' := ?_) #[true, true, true, false, false, false, false, false, false, false, false, false, false] rfl rfl (any_of HT_.out (by kernel_rfl)) (fun _ _ _ h => h) (Or.inl ⟨by rfl, ?_⟩) ?_ ?_
                  rotate_left
                  · intro w'
                    go_simp
                    with_reducible rfl
                  rotate_left
                  · simp only [Act.put, List.setIfInBounds_toArray, List.set_cons_zero, List.set_cons_succ, i64_w, i32_w]
                    rfl
                  refine pure_ (i := 3) (N := some 37) (v := ?_) (a' := ?_) #[true, true, true, true, false, false, false, false, false, false, false, false, false] rfl rfl (any_of HT_.out (by kernel_rfl)) (fun _ _ _ h => h) (Or.inl ⟨by rfl, ?_⟩) ?_ ?_
                  rotate_left
                  · intro w'
                    go_simp
                    with_reducible rfl
                  rotate_left
                  · simp only [Act.put, List.setIfInBounds_toArray, List.set_cons_zero, List.set_cons_succ, i64_w, i32_w]
                    rfl
                  refine pure_ (i := 6) (N := some 40) (v := ?_) (a' := ?_) #[true, true, true, true, false, false, true, false, false, false, false, false, false] rfl rfl (any_of HT_.out (by kernel_rfl)) (fun _ _ _ h => h) (Or.inl ⟨by rfl, ?_⟩) ?_ ?_
                  rotate_left
                  · intro w'
                    go_simp
                    with_reducible rfl
                  rotate_left
                  · simp only [Act.put, List.setIfInBounds_toArray, List.set_cons_zero, List.set_cons_succ, i64_w, i32_w]
                    rfl
                  refine pure_ (i := 7) (N := some 41) (v := ?_) (a' := ?_) #[true, true, true, true, false, false, true, true, false, false, false, false, false] rfl rfl (any_of HT_.out (by kernel_rfl)) (fun _ _ _ h => h) (Or.inl ⟨by rfl, ?_⟩) ?_ ?_
                  rotate_left
                  · intro w'
                    go_simp
                    with_reducible rfl
                  rotate_left
                  · simp only [Act.put, List.setIfInBounds_toArray, List.set_cons_zero, List.set_cons_succ, i64_w, i32_w]
                    rfl
                  refine pure_ (i := 8) (N := some 42) (v := ?_) (a' := ?_) #[true, true, true, true, false, false, true, true, true, false, false, false, false] rfl rfl (any_of HT_.out (by kernel_rfl)) (fun _ _ _ h => h) (Or.inl ⟨by rfl, ?_⟩) ?_ ?_
                  rotate_left
                  · intro w'
                    go_simp
                    with_reducible rfl
                  rotate_left
                  · simp only [Act.put, List.setIfInBounds_toArray, List.set_cons_zero, List.set_cons_succ, i64_w, i32_w]
                    rfl
                  refine one_ (i := 4) (N := some 38) #[true, true, true, true, true, false, true, true, true, false, false, false, false] rfl rfl (one_of HT_.out (by kernel_rfl)) (by decide) (fun K hK => ?_)
                  refine goes_ Tryd.func21 (by kernel_rfl) rfl #[.slice A26 y203.length c26, .slice (some ad201) l1.length c1] (by rfl) rfl rfl (by (try simp only [List.map_toArray, List.map_cons, List.map_nil]); first | done | rfl | (simp only [List.length_drop, List.length_take]; rfl)) ?_
                  with_reducible refine (ih kj2 (by have := HJ2.out; omega) _ _ y203 _ _ l1 t207 _ ?side1 ?side2 ?side3 ?side4 A14.out).mono ?_
                  (case side1 => repeat (first | exact (Kd.C_below HR206.out HB.out) | (with_reducible refine Kd.C_alloc ?_ _) | (with_reducible refine Kd.C_drewN ?_ _) | (with_reducible refine Kd.C_drew ?_)))
                  (case side2 => exact HC206.out)
                  (case side3 => repeat (first | exact (Kd.C_below HR1.out HB.out) | (with_reducible refine Kd.C_alloc ?_ _) | (with_reducible refine Kd.C_drewN ?_ _) | (with_reducible refine Kd.C_drew ?_)))
                  (case side4 => exact HC1.out)
                  rintro e w28 ⟨rfl, hb⟩
                  refine ⟨_, rfl, ?_⟩
                  have n0_ := Aside0.mk (below_step (by repeat (first | (with_reducible first | exact HB.out | apply below_alloc | apply pw_below_drewN | apply below_drew1) | exact HB.out)) hb)
                  clear HB
                  have HB := n0_
                  clear n0_
                  (try clear hb)
                  (try clear hb2)
                  (try clear hk)
                  (try clear hi)
                  refine hK.out _ _ trivial (fun hHeld => ?_)
                  clear hK K
                  refine norm_ (a' := ?_) ?_ ?_
                  rotate_left
                  · show Act.put _ (some 38) _ = _
                    simp only [Act.put, List.setIfInBounds_toArray, List.set_cons_zero, List.set_cons_succ, i64_w, i32_w]
                    rfl
                  refine pure_ (i := 5) (N := some 39) (v := ?_) (a' := ?_) #[true, true, true, true, true, true, true, true, true, false, false, false, false] rfl rfl (any_of HT_.out (by kernel_rfl)) (fun _ _ _ h => h) (Or.inl ⟨by rfl, ?_⟩) ?_ ?_
                  rotate_left
                  · intro w'
                    go_simp
                    with_reducible rfl
                  rotate_left
                  · simp only [Act.put, List.setIfInBounds_toArray, List.set_cons_zero, List.set_cons_succ, i64_w, i32_w]
                    rfl
                  refine one_ (i := 9) (N := some 43) #[true, true, true, true, true, true, true, true, true, true, false, false, false] rfl rfl (one_of HT_.out (by kernel_rfl)) (by decide) (fun K hK => ?_)
                  refine goes_ Tryd.func21 (by kernel_rfl) rfl #[.slice (some ad200) l0.length c0, .slice A27 y208.length c27] (by rfl) rfl rfl (by (try simp only [List.map_toArray, List.map_cons, List.map_nil]); first | done | rfl | (simp only [List.length_drop, List.length_take]; rfl)) ?_
                  with_reducible refine (ih kj2 (by have := HJ2.out; omega) _ _ l0 _ _ y208 t212 _ ?side1 ?side2 ?side3 ?side4 A16.out).mono ?_
                  (case side1 => repeat (first | exact (Kd.C_below HR0.out HB.out) | (with_reducible refine Kd.C_alloc ?_ _) | (with_reducible refine Kd.C_drewN ?_ _) | (with_reducible refine Kd.C_drew ?_)))
                  (case side2 => exact HC0.out)
                  (case side3 => repeat (first | exact (Kd.C_below HR211.out HB.out) | (with_reducible refine Kd.C_alloc ?_ _) | (with_reducible refine Kd.C_drewN ?_ _) | (with_reducible refine Kd.C_drew ?_)))
                  (case side4 => exact HC211.out)
                  rintro e w29 ⟨rfl, hb⟩
                  refine ⟨_, rfl, ?_⟩
                  have n0_ := Aside0.mk (below_step (by repeat (first | (with_reducible first | exact HB.out | apply below_alloc | apply pw_below_drewN | apply below_drew1) | exact HB.out)) hb)
                  clear HB
                  have HB := n0_
                  clear n0_
                  (try clear hb)
                  (try clear hb2)
                  (try clear hk)
                  (try clear hi)
                  refine hK.out _ _ trivial (fun hHeld => ?_)
                  clear hK K
                  refine norm_ (a' := ?_) ?_ ?_
                  rotate_left
                  · show Act.put _ (some 43) _ = _
                    simp only [Act.put, List.setIfInBounds_toArray, List.set_cons_zero, List.set_cons_succ, i64_w, i32_w]
                    rfl
                  refine pure_ (i := 10) (N := some 44) (v := ?_) (a' := ?_) #[true, true, true, true, true, true, true, true, true, true, true, false, false] rfl rfl (any_of HT_.out (by kernel_rfl)) (fun _ _ _ h => h) (Or.inl ⟨by rfl, ?_⟩) ?_ ?_
                  rotate_left
                  · intro w'
                    go_simp
                    with_reducible rfl
                  rotate_left
                  · simp only [Act.put, List.setIfInBounds_toArray, List.set_cons_zero, List.set_cons_succ, i64_w, i32_w]
                    rfl
                  refine pure_ (i := 11) (N := some 45) (v := ?_) (a' := ?_) #[true, true, true, true, true, true, true, true, true, true, true, true, false] rfl rfl (any_of HT_.out (by kernel_rfl)) (fun _ _ _ h => h) (Or.inl ⟨by rfl, ?_⟩) ?_ ?_
                  rotate_left
                  · intro w'
                    go_simp
                    with_reducible rfl
                  rotate_left
                  · simp only [Act.put, List.setIfInBounds_toArray, List.set_cons_zero, List.set_cons_succ, i64_w, i32_w]
                    rfl
                  refine pure_ (i := 12) (N := some 4) (v := ?_) (a' := ?_) #[true, true, true, true, true, true, true, true, true, true, true, true, true] rfl rfl (any_of HT_.out (by kernel_rfl)) (fun _ _ _ h => h) (Or.inl ⟨by rfl, ?_⟩) ?_ ?_
                  rotate_left
                  · intro w'
                    go_simp
                    with_reducible rfl
                  rotate_left
                  · simp only [Act.put, List.setIfInBounds_toArray, List.set_cons_zero, List.set_cons_succ, i64_w, i32_w]
                    rfl
                  refine done_ (done_of HT_.out (by kernel_rfl)) ?_
                  try go_wp2
                  go_ret
                  exact ⟨by first | rfl | (simp [errW_none, errW_some] <;> rfl) | (simp only [← hji17, ← hji18]; first | rfl | (simp [errW_none, errW_some] <;> rfl)) | (simp [*, errW_none, errW_some] <;> rfl), by repeat (first | (with_reducible first | exact HB.out | apply below_alloc | apply pw_below_drewN | apply below_drew1) | exact HB.out)⟩
                · replace c12 := Bool.eq_false_iff.mpr c12
                  subst c12
                  have H1 : ((siglumlaw08_least.f kj2 (l0.drop 1) l1).bind fun t217 => ((siglumlaw08_least.f kj2 l0 (l1.drop 1)).bind fun t222 => (some (mn (mn (wrap64 (t199 + 1)) (wrap64 (t217 + 1))) (wrap64 (t222 + 1)))))) = some r := by rw [if_neg (show ¬ (false = true) by decide)] at H; exact H
                  clear H
                  have H := H1
                  clear H1
                  have c30b0 := eq_true (of_decide_eq_true (by first | (with_reducible assumption) | assumption) : 1 ≤ (l0.length : Int))
                  obtain ⟨y213, hy213⟩ : ∃ y_ : List (S75), y_ = (l0.drop 1) := ⟨_, rfl⟩
                  replace H : ((siglumlaw08_least.f kj2 y213 l1).bind fun t217 => ((siglumlaw08_least.f kj2 l0 (l1.drop 1)).bind fun t222 => (some (mn (mn (wrap64 (t199 + 1)) (wrap64 (t217 + 1))) (wrap64 (t222 + 1)))))) = some r := by first | (rw [hy213]; with_reducible exact H) | (have H2_ := (Option.bind_some _ _).symm.trans H; rw [hy213]; with_reducible exact H2_) | (have H2_ := (Option.bind_some _ _).symm.trans H; with_reducible exact H2_) | with_reducible exact H | (rw [hy213]; exact H) | exact H
                  have Ny213 := Aside0.mk hy213
                  clear hy213
                  replace H := Option.bind_eq_some_iff.mp H
                  obtain ⟨t217, A310, H⟩ := H
                  replace H : ((siglumlaw08_least.f kj2 l0 (l1.drop 1)).bind fun t222 => (some (mn (mn (wrap64 (t199 + 1)) (wrap64 (t217 + 1))) (wrap64 (t222 + 1))))) = some r := H
                  have A31 := Aside0.mk A310
                  clear A310
                  have c32b0 := eq_true (of_decide_eq_true (by first | (with_reducible assumption) | assumption) : 1 ≤ (l1.length : Int))
                  obtain ⟨y218, hy218⟩ : ∃ y_ : List (S75), y_ = (l1.drop 1) := ⟨_, rfl⟩
                  replace H : ((siglumlaw08_least.f kj2 l0 y218).bind fun t222 => (some (mn (mn (wrap64 (t199 + 1)) (wrap64 (t217 + 1))) (wrap64 (t222 + 1))))) = some r := by first | (rw [hy218]; with_reducible exact H) | (have H2_ := (Option.bind_some _ _).symm.trans H; rw [hy218]; with_reducible exact H2_) | (have H2_ := (Option.bind_some _ _).symm.trans H; with_reducible exact H2_) | with_reducible exact H | (rw [hy218]; exact H) | exact H
                  have Ny218 := Aside0.mk hy218
                  clear hy218
                  replace H := Option.bind_eq_some_iff.mp H
                  obtain ⟨t222, A330, H⟩ := H
                  replace H : (some (mn (mn (wrap64 (t199 + 1)) (wrap64 (t217 + 1))) (wrap64 (t222 + 1)))) = some r := H
                  have A33 := Aside0.mk A330
                  clear A330
                  obtain ⟨ji34, hji34⟩ : ∃ j_ : Int, (mn (wrap64 (t199 + 1)) (wrap64 (t217 + 1))) = j_ := ⟨_, rfl⟩
                  replace H : (some (mn (ji34) (wrap64 (t222 + 1)))) = some r := by first | (rw [hji34] at H; exact H) | (simp only [hji34] at H ⊢; exact H)
                  (try rw [hji34] at A8)
                  (try rw [hji34] at A11)
                  (try rw [hji34] at A31)
                  (try rw [hji34] at A33)
                  have hji34_ : (if (wrap64 (t217 + 1)) < (wrap64 (t199 + 1)) then (wrap64 (t217 + 1)) else (wrap64 (t199 + 1))) = ji34 := hji34
                  obtain ⟨ji35, hji35⟩ : ∃ j_ : Int, (mn (ji34) (wrap64 (t222 + 1))) = j_ := ⟨_, rfl⟩
                  replace H : (some ji35) = some r := by first | (rw [hji35] at H; exact H) | (simp only [hji35] at H ⊢; exact H)
                  (try rw [hji35] at A8)
                  (try rw [hji35] at A11)
                  (try rw [hji35] at A31)
                  (try rw [hji35] at A33)
                  have hji35_ : (if (wrap64 (t222 + 1)) < (ji34) then (wrap64 (t222 + 1)) else (ji34)) = ji35 := hji35
                  obtain rfl := Option.some.inj H
                  try go_wp2
                  have n0_ := Aside0.mk (below_drew1 HB.out)
                  clear HB
                  have HB := n0_
                  clear n0_
                  have q37 : (1 : Int) ≤ ((l0.length : Int) : Int) := of_decide_eq_true (by first | (with_reducible assumption) | assumption)
                  obtain ⟨i037, hi037, _, hsz37, _⟩ := info_parts info75
                  have hroom37 : l0.length ≤ c0 := HC0.out
                  have hC37 : Kd.C k75 _ A0 l0.length l0 := HR0.out
                  (try clear hcut20)
                  (try clear hcut26)
                  have hcut37 := cut_from (P := Tryd.prog) 36 75 .i64 Tryd.underlying36 hi037 5 hsz37 A0 l0.length c0 1 (by omega) q37
                  have hr37 := Kd.C_drop (m := (1 : Int).toNat) (c := c0) hC37 (by omega) hroom37
                  obtain ⟨A37, hA37⟩ : ∃ A1_, A1_ = (if c0 = (1 : Int).toNat then A0 else (A0 : Option Addr).map (·.add ((1 : Int).toNat * 5))) := ⟨_, rfl⟩
                  obtain ⟨c37, hc37⟩ : ∃ c1_, c1_ = c0 - (1 : Int).toNat := ⟨_, rfl⟩
                  have hy37 : y191.length = l0.length - (1 : Int).toNat := (by rw [Ny191.out, List.length_drop] <;> omega)
                  rw [show (l0).drop (1 : Int).toNat = y191 from Ny191.out.symm] at hr37
                  replace hr37 : Kd.C k75 _ A37 y191.length y191 := (by rw [hA37]; exact hr37)
                  rw [← hy37, ← hA37, ← hc37] at hcut37
                  have HR194 := Aside0.mk hr37
                  have HC194 := Aside0.mk (show y191.length ≤ c37 from by rw [hy37, hc37]; exact Nat.sub_le_sub_right hroom37 _)
                  clear hr37 hC37 hroom37 hi037 hsz37 hc37
                  have KY37 := Aside0.mk hy37
                  have KA37 := Aside0.mk hA37
                  clear hy37 hA37
                  replace q37 := eq_true q37
                  have q38 : (1 : Int) ≤ ((l1.length : Int) : Int) := of_decide_eq_true (by first | (with_reducible assumption) | assumption)
                  obtain ⟨i038, hi038, _, hsz38, _⟩ := info_parts info75
                  have hroom38 : l1.length ≤ c1 := HC1.out
                  have hC38 : Kd.C k75 _ A1 l1.length l1 := HR1.out
                  (try clear hcut21)
                  (try clear hcut27)
                  have hcut38 := cut_from (P := Tryd.prog) 36 75 .i64 Tryd.underlying36 hi038 5 hsz38 A1 l1.length c1 1 (by omega) q38
                  have hr38 := Kd.C_drop (m := (1 : Int).toNat) (c := c1) hC38 (by omega) hroom38
                  obtain ⟨A38, hA38⟩ : ∃ A1_, A1_ = (if c1 = (1 : Int).toNat then A1 else (A1 : Option Addr).map (·.add ((1 : Int).toNat * 5))) := ⟨_, rfl⟩
                  obtain ⟨c38, hc38⟩ : ∃ c1_, c1_ = c1 - (1 : Int).toNat := ⟨_, rfl⟩
                  have hy38 : y195.length = l1.length - (1 : Int).toNat := (by rw [Ny195.out, List.length_drop] <;> omega)
                  rw [show (l1).drop (1 : Int).toNat = y195 from Ny195.out.symm] at hr38
                  replace hr38 : Kd.C k75 _ A38 y195.length y195 := (by rw [hA38]; exact hr38)
                  rw [← hy38, ← hA38, ← hc38] at hcut38
                  have HR198 := Aside0.mk hr38
                  have HC198 := Aside0.mk (show y195.length ≤ c38 from by rw [hy38, hc38]; exact Nat.sub_le_sub_right hroom38 _)
                  clear hr38 hC38 hroom38 hi038 hsz38 hc38
                  have KY38 := Aside0.mk hy38
                  have KA38 := Aside0.mk hA38
                  clear hy38 hA38
                  replace q38 := eq_true q38
                  refine start_ (n := 6) (S := fun w' => True) (ds := []) #[false, false, false, false, false, false] (by kernel_rfl) rfl rfl trivial (fun hHeld => ?_)
                  generalize wc.drew = w36 at HB HR194 HR198 hHeld ⊢
                  refine pure_ (i := 0) (N := some 19) (v := ?_) (a' := ?_) #[true, false, false, false, false, false] rfl rfl (by kernel_rfl) (fun _ _ _ h => h) (Or.inl ⟨by rfl, ?_⟩) ?_ ?_
                  rotate_left
                  · intro w'
                    go_simp
                    with_reducible rfl
                  rotate_left
                  · simp only [Act.put, List.setIfInBounds_toArray, List.set_cons_zero, List.set_cons_succ, i64_w, i32_w]
                    rfl
                  refine pure_ (i := 1) (N := some 20) (v := ?_) (a' := ?_) #[true, true, false, false, false, false] rfl rfl (by kernel_rfl) (fun _ _ _ h => h) (Or.inl ⟨by rfl, ?_⟩) ?_ ?_
                  rotate_left
                  · intro w'
                    go_simp
                    with_reducible rfl
                  rotate_left
                  · simp only [Act.put, List.setIfInBounds_toArray, List.set_cons_zero, List.set_cons_succ, i64_w, i32_w]
                    rfl
                  refine pure_ (i := 2) (N := some 21) (v := ?_) (a' := ?_) #[true, true, true, false, false, false] rfl rfl (by kernel_rfl) (fun _ _ _ h => h) (Or.inl ⟨by rfl, ?_⟩) ?_ ?_
                  rotate_left
                  · intro w'
                    go_simp
                    with_reducible rfl
                  rotate_left
                  · simp only [Act.put, List.setIfInBounds_toArray, List.set_cons_zero, List.set_cons_succ, i64_w, i32_w]
                    rfl
                  refine pure_ (i := 3) (N := some 22) (v := ?_) (a' := ?_) #[true, true, true, true, false, false] rfl rfl (by kernel_rfl) (fun _ _ _ h => h) (Or.inl ⟨by rfl, ?_⟩) ?_ ?_
                  rotate_left
                  · intro w'
                    go_simp
                    with_reducible rfl
                  rotate_left
                  · simp only [Act.put, List.setIfInBounds_toArray, List.set_cons_zero, List.set_cons_succ, i64_w, i32_w]
                    rfl
                  refine one_ (i := 4) (N := some 23) #[true, true, true, true, true, false] rfl rfl (by kernel_rfl) (by decide) (fun K hK => ?_)
                  refine goes_ Tryd.func21 (by kernel_rfl) rfl #[.slice A37 y191.length c37, .slice A38 y195.length c38] (by rfl) rfl rfl (by (try simp only [List.map_toArray, List.map_cons, List.map_nil]); first | done | rfl | (simp only [List.length_drop, List.length_take]; rfl)) ?_
                  with_reducible refine (ih kj2 (by have := HJ2.out; omega) _ _ y191 _ _ y195 t199 _ ?side1 ?side2 ?side3 ?side4 A8.out).mono ?_
                  (case side1 => repeat (first | exact (Kd.C_below HR194.out HB.out) | (with_reducible refine Kd.C_alloc ?_ _) | (with_reducible refine Kd.C_drewN ?_ _) | (with_reducible refine Kd.C_drew ?_)))
                  (case side2 => exact HC194.out)
                  (case side3 => repeat (first | exact (Kd.C_below HR198.out HB.out) | (with_reducible refine Kd.C_alloc ?_ _) | (with_reducible refine Kd.C_drewN ?_ _) | (with_reducible refine Kd.C_drew ?_)))
                  (case side4 => exact HC198.out)
                  rintro e w39 ⟨rfl, hb⟩
                  refine ⟨_, rfl, ?_⟩
                  have n0_ := Aside0.mk (below_step (by repeat (first | (with_reducible first | exact HB.out | apply below_alloc | apply pw_below_drewN | apply below_drew1) | exact HB.out)) hb)
                  clear HB
                  have HB := n0_
                  clear n0_
                  (try clear hb)
                  (try clear hb2)
                  (try clear hk)
                  (try clear hi)
                  refine hK.out _ _ trivial (fun hHeld => ?_)
                  clear hK K
                  refine norm_ (a' := ?_) ?_ ?_
                  rotate_left
                  · show Act.put _ (some 23) _ = _
                    simp only [Act.put, List.setIfInBounds_toArray, List.set_cons_zero, List.set_cons_succ, i64_w, i32_w]
                    rfl
                  refine pure_ (i := 5) (N := some 5) (v := ?_) (a' := ?_) #[true, true, true, true, true, true] rfl rfl (by kernel_rfl) (fun _ _ _ h => h) (Or.inl ⟨by rfl, ?_⟩) ?_ ?_
                  rotate_left
                  · intro w'
                    go_simp
                    with_reducible rfl
                  rotate_left
                  · simp only [Act.put, List.setIfInBounds_toArray, List.set_cons_zero, List.set_cons_succ, i64_w, i32_w]
                    rfl
                  refine done_ (by kernel_rfl) ?_
                  try go_wp2
                  have n0_ := Aside0.mk (below_drew1 HB.out)
                  clear HB
                  have HB := n0_
                  clear n0_
                  have p200 : 0 ≤ (0 : Int) := (by omega)
                  have q200 : 0 < (l0.length : Int) := of_decide_eq_true (by first | (with_reducible assumption) | assumption)
                  obtain ⟨ad200, e200, hx200_0, hx200_1, hx200_2, hx200_3, hx200_4⟩ := at_T75 HR0.out 0 p200 q200
                  have hw200_4 := hx200_4
                  (try rw [show ((0 : Int)).toNat = 0 from rfl] at hw200_4)
                  (try rw [show 0 * 5 = 0 from rfl] at hw200_4)
                  (try rw [Addr.add_zero'] at hw200_4)
                  have hw200_3 := hx200_3
                  (try rw [show ((0 : Int)).toNat = 0 from rfl] at hw200_3)
                  (try rw [show 0 * 5 = 0 from rfl] at hw200_3)
                  (try rw [Addr.add_zero'] at hw200_3)
                  have hw200_2 := hx200_2
                  (try rw [show ((0 : Int)).toNat = 0 from rfl] at hw200_2)
                  (try rw [show 0 * 5 = 0 from rfl] at hw200_2)
                  (try rw [Addr.add_zero'] at hw200_2)
                  have hw200_1 := hx200_1
                  (try rw [show ((0 : Int)).toNat = 0 from rfl] at hw200_1)
                  (try rw [show 0 * 5 = 0 from rfl] at hw200_1)
                  (try rw [Addr.add_zero'] at hw200_1)
                  have hw200_0 := hx200_0
                  (try rw [show ((0 : Int)).toNat = 0 from rfl] at hw200_0)
                  (try rw [show 0 * 5 = 0 from rfl] at hw200_0)
                  (try rw [Addr.add_zero'] at hw200_0)
                  cases e200
                  have qi200 : (0 < l0.length) = True := eq_true (by omega)
                  (try rw [show ((0 : Int)).toNat = 0 from rfl] at hx200_0)
                  (try rw [show 0 * 5 = 0 from rfl] at hx200_0)
                  (try rw [Addr.add_zero'] at hx200_0)
                  (try rw [show ((0 : Int)).toNat = 0 from rfl] at hx200_1)
                  (try rw [show 0 * 5 = 0 from rfl] at hx200_1)
                  (try rw [Addr.add_zero'] at hx200_1)
                  (try rw [show ((0 : Int)).toNat = 0 from rfl] at hx200_2)
                  (try rw [show 0 * 5 = 0 from rfl] at hx200_2)
                  (try rw [Addr.add_zero'] at hx200_2)
                  (try rw [show ((0 : Int)).toNat = 0 from rfl] at hx200_3)
                  (try rw [show 0 * 5 = 0 from rfl] at hx200_3)
                  (try rw [Addr.add_zero'] at hx200_3)
                  (try rw [show ((0 : Int)).toNat = 0 from rfl] at hx200_4)
                  (try rw [show 0 * 5 = 0 from rfl] at hx200_4)
                  (try rw [Addr.add_zero'] at hx200_4)
                  replace hx200_0 := (HB.out.cell (World.block_lt_of_cell? w _ hx200_0)).trans hx200_0
                  replace hx200_1 := (HB.out.cell (World.block_lt_of_cell? w _ hx200_1)).trans hx200_1
                  replace hx200_2 := (HB.out.cell (World.block_lt_of_cell? w _ hx200_2)).trans hx200_2
                  replace hx200_3 := (HB.out.cell (World.block_lt_of_cell? w _ hx200_3)).trans hx200_3
                  replace hx200_4 := (HB.out.cell (World.block_lt_of_cell? w _ hx200_4)).trans hx200_4
                  replace p200 := eq_true p200
                  replace q200 := eq_true q200
                  have p201 : 0 ≤ (0 : Int) := (by omega)
                  have q201 : 0 < (l1.length : Int) := of_decide_eq_true (by first | (with_reducible assumption) | assumption)
                  obtain ⟨ad201, e201, hx201_0, hx201_1, hx201_2, hx201_3, hx201_4⟩ := at_T75 HR1.out 0 p201 q201
                  have hw201_4 := hx201_4
                  (try rw [show ((0 : Int)).toNat = 0 from rfl] at hw201_4)
                  (try rw [show 0 * 5 = 0 from rfl] at hw201_4)
                  (try rw [Addr.add_zero'] at hw201_4)
                  have hw201_3 := hx201_3
                  (try rw [show ((0 : Int)).toNat = 0 from rfl] at hw201_3)
                  (try rw [show 0 * 5 = 0 from rfl] at hw201_3)
                  (try rw [Addr.add_zero'] at hw201_3)
                  have hw201_2 := hx201_2
                  (try rw [show ((0 : Int)).toNat = 0 from rfl] at hw201_2)
                  (try rw [show 0 * 5 = 0 from rfl] at hw201_2)
                  (try rw [Addr.add_zero'] at hw201_2)
                  have hw201_1 := hx201_1
                  (try rw [show ((0 : Int)).toNat = 0 from rfl] at hw201_1)
                  (try rw [show 0 * 5 = 0 from rfl] at hw201_1)
                  (try rw [Addr.add_zero'] at hw201_1)
                  have hw201_0 := hx201_0
                  (try rw [show ((0 : Int)).toNat = 0 from rfl] at hw201_0)
                  (try rw [show 0 * 5 = 0 from rfl] at hw201_0)
                  (try rw [Addr.add_zero'] at hw201_0)
                  cases e201
                  have qi201 : (0 < l1.length) = True := eq_true (by omega)
                  (try rw [show ((0 : Int)).toNat = 0 from rfl] at hx201_0)
                  (try rw [show 0 * 5 = 0 from rfl] at hx201_0)
                  (try rw [Addr.add_zero'] at hx201_0)
                  (try rw [show ((0 : Int)).toNat = 0 from rfl] at hx201_1)
                  (try rw [show 0 * 5 = 0 from rfl] at hx201_1)
                  (try rw [Addr.add_zero'] at hx201_1)
                  (try rw [show ((0 : Int)).toNat = 0 from rfl] at hx201_2)
                  (try rw [show 0 * 5 = 0 from rfl] at hx201_2)
                  (try rw [Addr.add_zero'] at hx201_2)
                  (try rw [show ((0 : Int)).toNat = 0 from rfl] at hx201_3)
                  (try rw [show 0 * 5 = 0 from rfl] at hx201_3)
                  (try rw [Addr.add_zero'] at hx201_3)
                  (try rw [show ((0 : Int)).toNat = 0 from rfl] at hx201_4)
                  (try rw [show 0 * 5 = 0 from rfl] at hx201_4)
                  (try rw [Addr.add_zero'] at hx201_4)
                  replace hx201_0 := (HB.out.cell (World.block_lt_of_cell? w _ hx201_0)).trans hx201_0
                  replace hx201_1 := (HB.out.cell (World.block_lt_of_cell? w _ hx201_1)).trans hx201_1
                  replace hx201_2 := (HB.out.cell (World.block_lt_of_cell? w _ hx201_2)).trans hx201_2
                  replace hx201_3 := (HB.out.cell (World.block_lt_of_cell? w _ hx201_3)).trans hx201_3
                  replace hx201_4 := (HB.out.cell (World.block_lt_of_cell? w _ hx201_4)).trans hx201_4
                  replace p201 := eq_true p201
                  replace q201 := eq_true q201
                  refine start_ (n := 8) (S := fun w' => w'.cell? ad200 = some (.int .i64 ((rd_T75 l0 0).f0)) ∧ w'.cell? ⟨ad200.block, ad200.off + 1, none⟩ = some (.int .i64 ((rd_T75 l0 0).f1)) ∧ w'.cell? ⟨ad200.block, ad200.off + 2, none⟩ = some (.int .i32 ((rd_T75 l0 0).f2)) ∧ w'.cell? ⟨ad200.block, ad200.off + 3, none⟩ = some (.bool ((rd_T75 l0 0).f3)) ∧ w'.cell? ⟨ad200.block, ad200.off + 4, none⟩ = some (.int .u8 ((rd_T75 l0 0).f4)) ∧ w'.cell? ad201 = some (.int .i64 ((rd_T75 l1 0).f0)) ∧ w'.cell? ⟨ad201.block, ad201.off + 1, none⟩ = some (.int .i64 ((rd_T75 l1 0).f1)) ∧ w'.cell? ⟨ad201.block, ad201.off + 2, none⟩ = some (.int .i32 ((rd_T75 l1 0).f2)) ∧ w'.cell? ⟨ad201.block, ad201.off + 3, none⟩ = some (.bool ((rd_T75 l1 0).f3)) ∧ w'.cell? ⟨ad201.block, ad201.off + 4, none⟩ = some (.int .u8 ((rd_T75 l1 0).f4))) (ds := []) #[false, false, false, false, false, false, false, false] (by kernel_rfl) rfl rfl ⟨((HB.out.cell (World.block_lt_of_cell? w _ hw200_0)).trans hw200_0), ((HB.out.cell (World.block_lt_of_cell? w _ hw200_1)).trans hw200_1), ((HB.out.cell (World.block_lt_of_cell? w _ hw200_2)).trans hw200_2), ((HB.out.cell (World.block_lt_of_cell? w _ hw200_3)).trans hw200_3), ((HB.out.cell (World.block_lt_of_cell? w _ hw200_4)).trans hw200_4), ((HB.out.cell (World.block_lt_of_cell? w _ hw201_0)).trans hw201_0), ((HB.out.cell (World.block_lt_of_cell? w _ hw201_1)).trans hw201_1), ((HB.out.cell (World.block_lt_of_cell? w _ hw201_2)).trans hw201_2), ((HB.out.cell (World.block_lt_of_cell? w _ hw201_3)).trans hw201_3), ((HB.out.cell (World.block_lt_of_cell? w _ hw201_4)).trans hw201_4)⟩ (fun hHeld => ?_); refine with_tabW siglumlaw08_least.tab4 siglumlaw08_least.bits4 (fun HT_ HW_ => ?_)
                  generalize w39.drew = w40 at HB hx200_0 hx200_1 hx200_2 hx200_3 hx200_4 hx201_0 hx201_1 hx201_2 hx201_3 hx201_4 hHeld ⊢
                  refine pure_ (i := 0) (N := some 24) (v := ?_) (a' := ?_) #[true, false, false, false, false, false, false, false] rfl rfl (any_of HT_.out (by kernel_rfl)) (fun _ _ _ h => h) (Or.inl ⟨by rfl, ?_⟩) ?_ ?_
                  rotate_left
                  · intro w'
                    go_simp
                    with_reducible rfl
                  rotate_left
                  · simp only [Act.put, List.setIfInBounds_toArray, List.set_cons_zero, List.set_cons_succ, i64_w, i32_w]
                    rfl
                  refine pure_ (i := 1) (N := some 25) (v := ?_) (a' := ?_) #[true, true, false, false, false, false, false, false] rfl rfl (any_of HT_.out (by kernel_rfl)) (fun _ _ _ h => h) (Or.inl ⟨by rfl, ?_⟩) ?_ ?_
                  rotate_left
                  · intro w'
                    go_simp
                    with_reducible rfl
                  rotate_left
                  · simp only [Act.put, List.setIfInBounds_toArray, List.set_cons_zero, List.set_cons_succ, i64_w, i32_w]
                    rfl
                  refine pure_ (i := 3) (N := some 27) (v := ?_) (a' := ?_) #[true, true, false, true, false, false, false, false] rfl rfl (any_of HT_.out (by kernel_rfl)) (fun _ _ _ h => h) (Or.inl ⟨by rfl, ?_⟩) ?_ ?_
                  rotate_left
                  · intro w'
                    go_simp
                    with_reducible rfl
                  rotate_left
                  · simp only [Act.put, List.setIfInBounds_toArray, List.set_cons_zero, List.set_cons_succ, i64_w, i32_w]
                    rfl
                  refine pure_ (i := 4) (N := some 28) (v := ?_) (a' := ?_) #[true, true, false, true, true, false, false, false] rfl rfl (any_of HT_.out (by kernel_rfl)) (fun _ _ _ h => h) (Or.inl ⟨by rfl, ?_⟩) ?_ ?_
                  rotate_left
                  · intro w'
                    go_simp
                    with_reducible rfl
                  rotate_left
                  · simp only [Act.put, List.setIfInBounds_toArray, List.set_cons_zero, List.set_cons_succ, i64_w, i32_w]
                    rfl
                  refine take_ (i := 2) (N := some 26) (v := ?_) (a' := ?_) #[true, true, true, true, true, false, false, false] rfl rfl (take_ofW HT_.out HW_.out (by kernel_rfl)) (fun _ _ _ h => h) (Or.inl ⟨by rfl, ?_⟩) hHeld ?_ ?_
                  rotate_left
                  · rintro w' ⟨s0, s1, s2, s3, s4, s5, s6, s7, s8, s9⟩
                    go_simp
                    with_reducible rfl
                  rotate_left
                  · simp only [Act.put, List.setIfInBounds_toArray, List.set_cons_zero, List.set_cons_succ, i64_w, i32_w]
                    rfl
                  refine take_ (i := 5) (N := some 29) (v := ?_) (a' := ?_) #[true, true, true, true, true, true, false, false] rfl rfl (take_ofW HT_.out HW_.out (by kernel_rfl)) (fun _ _ _ h => h) (Or.inl ⟨by rfl, ?_⟩) hHeld ?_ ?_
                  rotate_left
                  · rintro w' ⟨s0, s1, s2, s3, s4, s5, s6, s7, s8, s9⟩
                    go_simp
                    with_reducible rfl
                  rotate_left
                  · simp only [Act.put, List.setIfInBounds_toArray, List.set_cons_zero, List.set_cons_succ, i64_w, i32_w]
                    rfl
                  refine one_ (i := 6) (N := some 30) #[true, true, true, true, true, true, true, false] rfl rfl (one_of HT_.out (by kernel_rfl)) (by decide) (fun K hK => ?_)
                  refine goes_ Tryd.func37 (by kernel_rfl) rfl #[.agg #[.int .i64 ((rd_T75 l0 0).f0), .int .i64 ((rd_T75 l0 0).f1), .int .i32 ((rd_T75 l0 0).f2), .bool ((rd_T75 l0 0).f3), .int .u8 ((rd_T75 l0 0).f4)], .agg #[.int .i64 ((rd_T75 l1 0).f0), .int .i64 ((rd_T75 l1 0).f1), .int .i32 ((rd_T75 l1 0).f2), .bool ((rd_T75 l1 0).f3), .int .u8 ((rd_T75 l1 0).f4)]] (by rfl) rfl rfl (by (try simp only [List.map_toArray, List.map_cons, List.map_nil]); first | done | rfl | (simp only [List.length_drop, List.length_take]; rfl)) ?_
                  with_reducible refine (siglumref08_Same.calls ((rd_T75 l0 0).f0) ((rd_T75 l0 0).f1) ((rd_T75 l0 0).f2) ((rd_T75 l0 0).f3) ((rd_T75 l0 0).f4) ((rd_T75 l1 0).f0) ((rd_T75 l1 0).f1) ((rd_T75 l1 0).f2) ((rd_T75 l1 0).f3) ((rd_T75 l1 0).f4) false _ A11.out).mono ?_
                  rintro e w41 ⟨rfl, hb⟩
                  refine ⟨_, rfl, ?_⟩
                  have n0_ := Aside0.mk (below_step (by repeat (first | (with_reducible first | exact HB.out | apply below_alloc | apply pw_below_drewN | apply below_drew1) | exact HB.out)) hb)
                  clear HB
                  have HB := n0_
                  clear n0_
                  (try clear hb)
                  (try clear hb2)
                  (try clear hk)
                  (try clear hi)
                  refine hK.out _ _ ⟨((HB.out.cell (World.block_lt_of_cell? w _ hw200_0)).trans hw200_0), ((HB.out.cell (World.block_lt_of_cell? w _ hw200_1)).trans hw200_1), ((HB.out.cell (World.block_lt_of_cell? w _ hw200_2)).trans hw200_2), ((HB.out.cell (World.block_lt_of_cell? w _ hw200_3)).trans hw200_3), ((HB.out.cell (World.block_lt_of_cell? w _ hw200_4)).trans hw200_4), ((HB.out.cell (World.block_lt_of_cell? w _ hw201_0)).trans hw201_0), ((HB.out.cell (World.block_lt_of_cell? w _ hw201_1)).trans hw201_1), ((HB.out.cell (World.block_lt_of_cell? w _ hw201_2)).trans hw201_2), ((HB.out.cell (World.block_lt_of_cell? w _ hw201_3)).trans hw201_3), ((HB.out.cell (World.block_lt_of_cell? w _ hw201_4)).trans hw201_4)⟩ (fun hHeld => ?_)
                  clear hK K
                  refine norm_ (a' := ?_) ?_ ?_
                  rotate_left
                  · show Act.put _ (some 30) _ = _
                    simp only [Act.put, List.setIfInBounds_toArray, List.set_cons_zero, List.set_cons_succ, i64_w, i32_w]
                    rfl
                  refine pure_ (i := 7) (N := some 31) (v := ?_) (a' := ?_) #[true, true, true, true, true, true, true, true] rfl rfl (any_of HT_.out (by kernel_rfl)) (fun _ _ _ h => h) (Or.inl ⟨by rfl, ?_⟩) ?_ ?_
                  rotate_left
                  · intro w'
                    go_simp
                    with_reducible rfl
                  rotate_left
                  · simp only [Act.put, List.setIfInBounds_toArray, List.set_cons_zero, List.set_cons_succ, i64_w, i32_w]
                    rfl
                  refine done_ (done_of HT_.out (by kernel_rfl)) ?_
                  try go_wp2
                  have n0_ := Aside0.mk (below_drew1 HB.out)
                  clear HB
                  have HB := n0_
                  clear n0_
                  have q43 : (1 : Int) ≤ ((l0.length : Int) : Int) := of_decide_eq_true (by first | (with_reducible assumption) | assumption)
                  obtain ⟨i043, hi043, _, hsz43, _⟩ := info_parts info75
                  have hroom43 : l0.length ≤ c0 := HC0.out
                  have hC43 : Kd.C k75 _ (some ad200) l0.length l0 := HR0.out
                  (try clear hcut20)
                  (try clear hcut26)
                  (try clear hcut37)
                  have hcut43 := cut_from (P := Tryd.prog) 36 75 .i64 Tryd.underlying36 hi043 5 hsz43 (some ad200) l0.length c0 1 (by omega) q43
                  have hr43 := Kd.C_drop (m := (1 : Int).toNat) (c := c0) hC43 (by omega) hroom43
                  obtain ⟨A43, hA43⟩ : ∃ A1_, A1_ = (if c0 = (1 : Int).toNat then (some ad200) else ((some ad200) : Option Addr).map (·.add ((1 : Int).toNat * 5))) := ⟨_, rfl⟩
                  obtain ⟨c43, hc43⟩ : ∃ c1_, c1_ = c0 - (1 : Int).toNat := ⟨_, rfl⟩
                  have hy43 : y213.length = l0.length - (1 : Int).toNat := (by rw [Ny213.out, List.length_drop] <;> omega)
                  rw [show (l0).drop (1 : Int).toNat = y213 from Ny213.out.symm] at hr43
                  replace hr43 : Kd.C k75 _ A43 y213.length y213 := (by rw [hA43]; exact hr43)
                  rw [← hy43, ← hA43, ← hc43] at hcut43
                  have HR216 := Aside0.mk hr43
                  have HC216 := Aside0.mk (show y213.length ≤ c43 from by rw [hy43, hc43]; exact Nat.sub_le_sub_right hroom43 _)
                  clear hr43 hC43 hroom43 hi043 hsz43 hc43
                  have KY43 := Aside0.mk hy43
                  have KA43 := Aside0.mk hA43
                  clear hy43 hA43
                  replace q43 := eq_true q43
                  have q44 : (1 : Int) ≤ ((l1.length : Int) : Int) := of_decide_eq_true (by first | (with_reducible assumption) | assumption)
                  obtain ⟨i044, hi044, _, hsz44, _⟩ := info_parts info75
                  have hroom44 : l1.length ≤ c1 := HC1.out
                  have hC44 : Kd.C k75 _ (some ad201) l1.length l1 := HR1.out
                  (try clear hcut21)
                  (try clear hcut27)
                  (try clear hcut38)
                  have hcut44 := cut_from (P := Tryd.prog) 36 75 .i64 Tryd.underlying36 hi044 5 hsz44 (some ad201) l1.length c1 1 (by omega) q44
                  have hr44 := Kd.C_drop (m := (1 : Int).toNat) (c := c1) hC44 (by omega) hroom44
                  obtain ⟨A44, hA44⟩ : ∃ A1_, A1_ = (if c1 = (1 : Int).toNat then (some ad201) else ((some ad201) : Option Addr).map (·.add ((1 : Int).toNat * 5))) := ⟨_, rfl⟩
                  obtain ⟨c44, hc44⟩ : ∃ c1_, c1_ = c1 - (1 : Int).toNat := ⟨_, rfl⟩
                  have hy44 : y218.length = l1.length - (1 : Int).toNat := (by rw [Ny218.out, List.length_drop] <;> omega)
                  rw [show (l1).drop (1 : Int).toNat = y218 from Ny218.out.symm] at hr44
                  replace hr44 : Kd.C k75 _ A44 y218.length y218 := (by rw [hA44]; exact hr44)
                  rw [← hy44, ← hA44, ← hc44] at hcut44
                  have HR221 := Aside0.mk hr44
                  have HC221 := Aside0.mk (show y218.length ≤ c44 from by rw [hy44, hc44]; exact Nat.sub_le_sub_right hroom44 _)
                  clear hr44 hC44 hroom44 hi044 hsz44 hc44
                  have KY44 := Aside0.mk hy44
                  have KA44 := Aside0.mk hA44
                  clear hy44 hA44
                  replace q44 := eq_true q44
                  refine start_ (n := 13) (S := fun w' => True) (ds := []) #[false, false, false, false, false, false, false, false, false, false, false, false, false] (by kernel_rfl) rfl rfl trivial (fun hHeld => ?_); refine with_tabW siglumlaw08_least.tab6 siglumlaw08_least.bits6 (fun HT_ HW_ => ?_)
                  generalize w41.drew = w42 at HB HR216 HR221 hHeld ⊢
                  refine pure_ (i := 0) (N := some 34) (v := ?_) (a' := ?_) #[true, false, false, false, false, false, false, false, false, false, false, false, false] rfl rfl (any_of HT_.out (by kernel_rfl)) (fun _ _ _ h => h) (Or.inl ⟨by rfl, ?_⟩) ?_ ?_
                  rotate_left
                  · intro w'
                    go_simp
                    with_reducible rfl
                  rotate_left
                  · simp only [Act.put, List.setIfInBounds_toArray, List.set_cons_zero, List.set_cons_succ, i64_w, i32_w]
                    rfl
                  refine pure_ (i := 1) (N := some 35) (v := ?_) (a' := ?_) #[true, true, false, false, false, false, false, false, false, false, false, false, false] rfl rfl (any_of HT_.out (by kernel_rfl)) (fun _ _ _ h => h) (Or.inl ⟨by rfl, ?_⟩) ?_ ?_
                  rotate_left
                  · intro w'
                    go_simp
                    with_reducible rfl
                  rotate_left
                  · simp only [Act.put, List.setIfInBounds_toArray, List.set_cons_zero, List.set_cons_succ, i64_w, i32_w]
                    rfl
                  refine pure_ (i := 2) (N := some 36) (v := ?_) (a' := ?_) #[true, true, true, false, false, false, false, false, false, false, false, false, false] rfl rfl (any_of HT_.out (by kernel_rfl)) (fun _ _ _ h => h) (Or.inl ⟨by rfl, ?_⟩) ?_ ?_
                  rotate_left
                  · intro w'
                    go_simp
                    with_reducible rfl
                  rotate_left
                  · simp only [Act.put, List.setIfInBounds_toArray, List.set_cons_zero, List.set_cons_succ, i64_w, i32_w]
                    rfl
                  refine pure_ (i := 3) (N := some 37) (v := ?_) (a' := ?_) #[true, true, true, true, false, false, false, false, false, false, false, false, false] rfl rfl (any_of HT_.out (by kernel_rfl)) (fun _ _ _ h => h) (Or.inl ⟨by rfl, ?_⟩) ?_ ?_
                  rotate_left
                  · intro w'
                    go_simp
                    with_reducible rfl
                  rotate_left
                  · simp only [Act.put, List.setIfInBounds_toArray, List.set_cons_zero, List.set_cons_succ, i64_w, i32_w]
                    rfl
                  refine pure_ (i := 6) (N := some 40) (v := ?_) (a' := ?_) #[true, true, true, true, false, false, true, false, false, false, false, false, false] rfl rfl (any_of HT_.out (by kernel_rfl)) (fun _ _ _ h => h) (Or.inl ⟨by rfl, ?_⟩) ?_ ?_
                  rotate_left
                  · intro w'
                    go_simp
                    with_reducible rfl
                  rotate_left
                  · simp only [Act.put, List.setIfInBounds_toArray, List.set_cons_zero, List.set_cons_succ, i64_w, i32_w]
                    rfl
                  refine pure_ (i := 7) (N := some 41) (v := ?_) (a' := ?_) #[true, true, true, true, false, false, true, true, false, false, false, false, false] rfl rfl (any_of HT_.out (by kernel_rfl)) (fun _ _ _ h => h) (Or.inl ⟨by rfl, ?_⟩) ?_ ?_
                  rotate_left
                  · intro w'
                    go_simp
                    with_reducible rfl
                  rotate_left
                  · simp only [Act.put, List.setIfInBounds_toArray, List.set_cons_zero, List.set_cons_succ, i64_w, i32_w]
                    rfl
                  refine pure_ (i := 8) (N := some 42) (v := ?_) (a' := ?_) #[true, true, true, true, false, false, true, true, true, false, false, false, false] rfl rfl (any_of HT_.out (by kernel_rfl)) (fun _ _ _ h => h) (Or.inl ⟨by rfl, ?_⟩) ?_ ?_
                  rotate_left
                  · intro w'
                    go_simp
                    with_reducible rfl
                  rotate_left
                  · simp only [Act.put, List.setIfInBounds_toArray, List.set_cons_zero, List.set_cons_succ, i64_w, i32_w]
                    rfl
                  refine one_ (i := 4) (N := some 38) #[true, true, true, true, true, false, true, true, true, false, false, false, false] rfl rfl (one_of HT_.out (by kernel_rfl)) (by decide) (fun K hK => ?_)
                  refine goes_ Tryd.func21 (by kernel_rfl) rfl #[.slice A43 y213.length c43, .slice (some ad201) l1.length c1] (by rfl) rfl rfl (by (try simp only [List.map_toArray, List.map_cons, List.map_nil]); first | done | rfl | (simp only [List.length_drop, List.length_take]; rfl)) ?_
                  with_reducible refine (ih kj2 (by have := HJ2.out; omega) _ _ y213 _ _ l1 t217 _ ?side1 ?side2 ?side3 ?side4 A31.out).mono ?_
                  (case side1 => repeat (first | exact (Kd.C_below HR216.out HB.out) | (with_reducible refine Kd.C_alloc ?_ _) | (with_reducible refine Kd.C_drewN ?_ _) | (with_reducible refine Kd.C_drew ?_)))
                  (case side2 => exact HC216.out)
                  (case side3 => repeat (first | exact (Kd.C_below HR1.out HB.out) | (with_reducible refine Kd.C_alloc ?_ _) | (with_reducible refine Kd.C_drewN ?_ _) | (with_reducible refine Kd.C_drew ?_)))
                  (case side4 => exact HC1.out)
                  rintro e w45 ⟨rfl, hb⟩
                  refine ⟨_, rfl, ?_⟩
                  have n0_ := Aside0.mk (below_step (by repeat (first | (with_reducible first | exact HB.out | apply below_alloc | apply pw_below_drewN | apply below_drew1) | exact HB.out)) hb)
                  clear HB
                  have HB := n0_
                  clear n0_
                  (try clear hb)
                  (try clear hb2)
                  (try clear hk)
                  (try clear hi)
                  refine hK.out _ _ trivial (fun hHeld => ?_)
                  clear hK K
                  refine norm_ (a' := ?_) ?_ ?_
                  rotate_left
                  · show Act.put _ (some 38) _ = _
                    simp only [Act.put, List.setIfInBounds_toArray, List.set_cons_zero, List.set_cons_succ, i64_w, i32_w]
                    rfl
                  refine pure_ (i := 5) (N := some 39) (v := ?_) (a' := ?_) #[true, true, true, true, true, true, true, true, true, false, false, false, false] rfl rfl (any_of HT_.out (by kernel_rfl)) (fun _ _ _ h => h) (Or.inl ⟨by rfl, ?_⟩) ?_ ?_
                  rotate_left
                  · intro w'
                    go_simp
                    with_reducible rfl
                  rotate_left
                  · simp only [Act.put, List.setIfInBounds_toArray, List.set_cons_zero, List.set_cons_succ, i64_w, i32_w]
                    rfl
                  refine one_ (i := 9) (N := some 43) #[true, true, true, true, true, true, true, true, true, true, false, false, false] rfl rfl (one_of HT_.out (by kernel_rfl)) (by decide) (fun K hK => ?_)
                  refine goes_ Tryd.func21 (by kernel_rfl) rfl #[.slice (some ad200) l0.length c0, .slice A44 y218.length c44] (by rfl) rfl rfl (by (try simp only [List.map_toArray, List.map_cons, List.map_nil]); first | done | rfl | (simp only [List.length_drop, List.length_take]; rfl)) ?_
                  with_reducible refine (ih kj2 (by have := HJ2.out; omega) _ _ l0 _ _ y218 t222 _ ?side1 ?side2 ?side3 ?side4 A33.out).mono ?_
                  (case side1 => repeat (first | exact (Kd.C_below HR0.out HB.out) | (with_reducible refine Kd.C_alloc ?_ _) | (with_reducible refine Kd.C_drewN ?_ _) | (with_reducible refine Kd.C_drew ?_)))
                  (case side2 => exact HC0.out)
                  (case side3 => repeat (first | exact (Kd.C_below HR221.out HB.out) | (with_reducible refine Kd.C_alloc ?_ _) | (with_reducible refine Kd.C_drewN ?_ _) | (with_reducible refine Kd.C_drew ?_)))
                  (case side4 => exact HC221.out)
                  rintro e w46 ⟨rfl, hb⟩
                  refine ⟨_, rfl, ?_⟩
                  have n0_ := Aside0.mk (below_step (by repeat (first | (with_reducible first | exact HB.out | apply below_alloc | apply pw_below_drewN | apply below_drew1) | exact HB.out)) hb)
                  clear HB
                  have HB := n0_
                  clear n0_
                  (try clear hb)
                  (try clear hb2)
                  (try clear hk)
                  (try clear hi)
                  refine hK.out _ _ trivial (fun hHeld => ?_)
                  clear hK K
                  refine norm_ (a' := ?_) ?_ ?_
                  rotate_left
                  · show Act.put _ (some 43) _ = _
                    simp only [Act.put, List.setIfInBounds_toArray, List.set_cons_zero, List.set_cons_succ, i64_w, i32_w]
                    rfl
                  refine pure_ (i := 10) (N := some 44) (v := ?_) (a' := ?_) #[true, true, true, true, true, true, true, true, true, true, true, false, false] rfl rfl (any_of HT_.out (by kernel_rfl)) (fun _ _ _ h => h) (Or.inl ⟨by rfl, ?_⟩) ?_ ?_
                  rotate_left
                  · intro w'
                    go_simp
                    with_reducible rfl
                  rotate_left
                  · simp only [Act.put, List.setIfInBounds_toArray, List.set_cons_zero, List.set_cons_succ, i64_w, i32_w]
                    rfl
                  refine pure_ (i := 11) (N := some 45) (v := ?_) (a' := ?_) #[true, true, true, true, true, true, true, true, true, true, true, true, false] rfl rfl (any_of HT_.out (by kernel_rfl)) (fun _ _ _ h => h) (Or.inl ⟨by rfl, ?_⟩) ?_ ?_
                  rotate_left
                  · intro w'
                    go_simp
                    with_reducible rfl
                  rotate_left
                  · simp only [Act.put, List.setIfInBounds_toArray, List.set_cons_zero, List.set_cons_succ, i64_w, i32_w]
                    rfl
                  refine pure_ (i := 12) (N := some 4) (v := ?_) (a' := ?_) #[true, true, true, true, true, true, true, true, true, true, true, true, true] rfl rfl (any_of HT_.out (by kernel_rfl)) (fun _ _ _ h => h) (Or.inl ⟨by rfl, ?_⟩) ?_ ?_
                  rotate_left
                  · intro w'
                    go_simp
                    with_reducible rfl
                  rotate_left
                  · simp only [Act.put, List.setIfInBounds_toArray, List.set_cons_zero, List.set_cons_succ, i64_w, i32_w]
                    rfl
                  refine done_ (done_of HT_.out (by kernel_rfl)) ?_
                  try go_wp2
                  go_ret
                  exact ⟨by first | rfl | (simp [errW_none, errW_some] <;> rfl) | (simp only [← hji34, ← hji35]; first | rfl | (simp [errW_none, errW_some] <;> rfl)) | (simp [*, errW_none, errW_some] <;> rfl), by repeat (first | (with_reducible first | exact HB.out | apply below_alloc | apply pw_below_drewN | apply below_drew1) | exact HB.out)⟩
              · rw [if_neg c10] at H
                exact absurd H (by simp)
            · rw [if_neg c9] at H
              exact absurd H (by simp)
          · rw [if_neg c7] at H
            exact absurd H (by simp)
        · rw [if_neg c6] at H
          exact absurd H (by simp)

end Go.Proofs.YtalogampkkjcdaaDoor.U
