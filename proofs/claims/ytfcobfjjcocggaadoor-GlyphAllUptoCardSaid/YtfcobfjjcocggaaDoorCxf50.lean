-- Printed by hprint.py (this session's program over the kit's print) out of the translation; the parts 'by hand' are the session's own.
import Derived.Test.YtfcobfjjcocggaaDoorCx0
import Derived.Test.YtfcobfjjcocggaaDoorCxf56
import Derived.Test.YtfcobfjjcocggaaDoorCxf49
import Derived.Test.YtfcobfjjcocggaaDoorCxf57
namespace Go.Proofs.YtfcobfjjcocggaaDoor.C
open Go.RowKit Go.Proofs.YtfcobfjjcocggaaDoorW.PrintWords Go.Proofs.YtfcobfjjcocggaaDoorW.PrintLast Go.Proofs.YtfcobfjjcocggaaDoorW.PrintMore
attribute [local go_sem] max2_int min2_int max_two min_two max_three min_three max_four min_four   -- for this text's walks alone
set_option linter.unusedVariables false
set_option linter.unusedSimpArgs false

/-! ### siglumref01_fits: function 50 -/
mutual
def siglumref01_fits.l0 : Nat → ByteArray → Int → Int → Int → Option (Int)
  | 0, _, _, _, _ => none
  | k + 1, x0, x1, x5, x6 => if x6 < x5 then (siglumref01_fits.j1 k x0 x1 x5 x6 (decide ((wrap64 (x1 + x6)) < (x0.size : Int)))) else (siglumref01_fits.j1 k x0 x1 x5 x6 false)
def siglumref01_fits.j1 : Nat → ByteArray → Int → Int → Int → Bool → Option (Int)
  | 0, _, _, _, _, _ => none
  | k + 1, x0, x1, x5, x6, x24 => if x24 = true then (if 0 ≤ (wrap64 (x1 + x6)) then (if (wrap64 (x1 + x6)) < (x0.size : Int) then (if x6 = 1 then (if 0 ≤ x1 then (if x1 < (x0.size : Int) then ((siglumref01_second.f (bt x0 x1) (bt x0 (wrap64 (x1 + x6)))).bind fun t50102 => (if t50102 = true then (if x6 > 1 then ((siglumref01_between.f (bt x0 (wrap64 (x1 + x6))) 128 191).bind fun t50103 => (if t50103 = true then (siglumref01_fits.l0 k x0 x1 x5 (wrap64 (x6 + 1))) else (some x6))) else (siglumref01_fits.l0 k x0 x1 x5 (wrap64 (x6 + 1)))) else (some x6))) else (none)) else (none)) else (if x6 > 1 then ((siglumref01_between.f (bt x0 (wrap64 (x1 + x6))) 128 191).bind fun t50104 => (if t50104 = true then (siglumref01_fits.l0 k x0 x1 x5 (wrap64 (x6 + 1))) else (some x6))) else (siglumref01_fits.l0 k x0 x1 x5 (wrap64 (x6 + 1))))) else (none)) else (none)) else (some x6)
end
def siglumref01_fits.f (k : Nat) (a0 : ByteArray) (a1 : Int) : Option (Int) := if 0 ≤ a1 then (if a1 < (a0.size : Int) then ((siglumref01_wants.f (bt a0 a1)).bind fun t50101 => (if t50101 = 0 then (some 0) else (siglumref01_fits.l0 k a0 a1 t50101 1))) else (none)) else (none)
theorem siglumref01_fits.mono_l : ∀ k, (∀ y0 y1 y2 y3, LeO (siglumref01_fits.l0 k y0 y1 y2 y3) (siglumref01_fits.l0 (k + 1) y0 y1 y2 y3)) ∧ (∀ y0 y1 y2 y3 y4, LeO (siglumref01_fits.j1 k y0 y1 y2 y3 y4) (siglumref01_fits.j1 (k + 1) y0 y1 y2 y3 y4))
  | 0 => ⟨fun _ _ _ _ r h => by simp [siglumref01_fits.l0] at h, fun _ _ _ _ _ r h => by simp [siglumref01_fits.j1] at h⟩
  | k + 1 => by
    obtain ⟨ih0, ih1⟩ := siglumref01_fits.mono_l k
    refine ⟨?_, ?_⟩
    · intro y0 y1 y2 y3
      unfold siglumref01_fits.l0
      repeat' first
      | (with_reducible exact ih0 _ _ _ _)
      | (with_reducible exact ih1 _ _ _ _ _)
      | (with_reducible exact LeO.refl _)
      | (with_reducible exact LeO.none _)
      | (with_reducible refine LeO.ite ?_ ?_)
      | (with_reducible refine LeO.bind ?_ (fun _ => ?_))
      | exact ih0 _ _ _ _
      | exact ih1 _ _ _ _ _
      | exact LeO.none _
      | refine LeO.ite ?_ ?_
      | refine LeO.bind ?_ (fun _ => ?_)
    · intro y0 y1 y2 y3 y4
      unfold siglumref01_fits.j1
      repeat' first
      | (with_reducible exact ih0 _ _ _ _)
      | (with_reducible exact ih1 _ _ _ _ _)
      | (with_reducible exact LeO.refl _)
      | (with_reducible exact LeO.none _)
      | (with_reducible refine LeO.ite ?_ ?_)
      | (with_reducible refine LeO.bind ?_ (fun _ => ?_))
      | exact ih0 _ _ _ _
      | exact ih1 _ _ _ _ _
      | exact LeO.none _
      | refine LeO.ite ?_ ?_
      | refine LeO.bind ?_ (fun _ => ?_)
theorem siglumref01_fits.mono : ∀ a0 a1 k, LeO (siglumref01_fits.f k a0 a1) (siglumref01_fits.f (k + 1) a0 a1) := by
  intro a0 a1 k
  obtain ⟨ih0, ih1⟩ := siglumref01_fits.mono_l k
  unfold siglumref01_fits.f
  repeat' first
      | (with_reducible exact ih0 _ _ _ _)
      | (with_reducible exact ih1 _ _ _ _ _)
      | (with_reducible exact LeO.refl _)
      | (with_reducible exact LeO.none _)
      | (with_reducible refine LeO.ite ?_ ?_)
      | (with_reducible refine LeO.bind ?_ (fun _ => ?_))
      | exact ih0 _ _ _ _
      | exact ih1 _ _ _ _ _
      | exact LeO.none _
      | refine LeO.ite ?_ ?_
      | refine LeO.bind ?_ (fun _ => ?_)
set_option maxHeartbeats 8000000 in
set_option maxRecDepth 100000 in
theorem siglumref01_fits.calls (k : Nat) (a0 : ByteArray) (a1 : Int) (r : Int) (w : World) (h : siglumref01_fits.f k a0 a1 = some r) :
    Calls Tryd.prog 50 #[.string a0, .int .i64 a1] w fun e w' => e = .returned (.int .i64 r) ∧ Drawn0 w w' := by
  have H : (if 0 ≤ a1 then (if a1 < (a0.size : Int) then ((siglumref01_wants.f (bt a0 a1)).bind fun t50101 => (if t50101 = 0 then (some 0) else (siglumref01_fits.l0 k a0 a1 t50101 1))) else (none)) else (none)) = some r := h
  clear h
  by_cases c3 : 0 ≤ a1
  · rw [if_pos c3] at H
    have c3b0 : decide (0 ≤ a1) = true := decide_eq_true c3
    clear c3
    by_cases c4 : a1 < (a0.size : Int)
    · rw [if_pos c4] at H
      have c4b0 : decide (a1 < (a0.size : Int)) = true := decide_eq_true c4
      clear c4
      replace H := Option.bind_eq_some_iff.mp H
      obtain ⟨t50101, A60, H⟩ := H
      replace H : (if t50101 = 0 then (some 0) else (siglumref01_fits.l0 k a0 a1 t50101 1)) = some r := H
      have A6 := Aside0.mk A60
      clear A60
      by_cases c7 : t50101 = 0
      · rw [if_pos c7] at H
        have c7b0 : (t50101 == 0) = true := beq_iff_eq.mpr c7
        have c7b1 : (t50101 != 0) = false := bne_eq_false_iff_eq.mpr c7
        clear c7
        obtain rfl := Option.some.inj H
        have p5 : 0 ≤ (a1 : Int) := of_decide_eq_true (by first | (with_reducible assumption) | assumption)
        have q5 : a1 < (a0.size : Int) := of_decide_eq_true (by first | (with_reducible assumption) | assumption)
        have hx5 := bt_at a0 a1
        replace p5 := eq_true p5
        replace q5 := eq_true q5
        go_enter Tryd.func50, Tryd.ntmps50
        go_wp2_with (first | ((with_reducible refine gate_callee (f := 49) rfl ?_); refine goesL_ (some 11) rfl rfl Tryd.func49 (by kernel_rfl) rfl #[.int .u8 (bt a0 a1)] rfl (by (try simp only [List.map_toArray, List.map_cons, List.map_nil]); first | done | rfl | (simp only [List.length_drop, List.length_take]; rfl)) ?_; (with_reducible refine (siglumref01_wants.calls (bt a0 a1) t50101 _ A6.out).mono ?_); rintro e w' ⟨rfl, ⟨nd, rfl⟩⟩; refine ⟨_, rfl, ?_⟩))
        go_ret
        exact ⟨by first | rfl | (simp; done) | (simp [*]; done), by repeat (first | exact Drawn0.refl _ | apply Drawn0.step)⟩
      · rw [if_neg c7] at H
        have c7b0 : (t50101 == 0) = false := beq_eq_false_iff_ne.mpr c7
        have c7b1 : (t50101 != 0) = true := bne_iff_ne.mpr c7
        have H' := Aside0.mk H
        clear H
        have p5 : 0 ≤ (a1 : Int) := of_decide_eq_true (by first | (with_reducible assumption) | assumption)
        have q5 : a1 < (a0.size : Int) := of_decide_eq_true (by first | (with_reducible assumption) | assumption)
        have hx5 := bt_at a0 a1
        replace p5 := eq_true p5
        replace q5 := eq_true q5
        go_enter Tryd.func50, Tryd.ntmps50
        go_wp2_with (first | ((with_reducible refine gate_callee (f := 49) rfl ?_); refine goesL_ (some 11) rfl rfl Tryd.func49 (by kernel_rfl) rfl #[.int .u8 (bt a0 a1)] rfl (by (try simp only [List.map_toArray, List.map_cons, List.map_nil]); first | done | rfl | (simp only [List.length_drop, List.length_take]; rfl)) ?_; (with_reducible refine (siglumref01_wants.calls (bt a0 a1) t50101 _ A6.out).mono ?_); rintro e w' ⟨rfl, ⟨nd, rfl⟩⟩; refine ⟨_, rfl, ?_⟩))
        go_loopg [6] k (fun kq v6 w' => ∃ (x6_1 : Int), v6 = .int .i64 x6_1 ∧ Aside0 (siglumref01_fits.l0 kq a0 a1 t50101 x6_1 = some r) ∧ Aside0 (kq ≤ k) ∧ Drawn0 w w')
        case atStart => exact ⟨(1), (by first | rfl | (simp; done) | (simp [*]; done)), H', ⟨Nat.le_refl _⟩, by repeat (first | exact Drawn0.refl _ | apply Drawn0.step)⟩
        case round =>
          clear H'
          try clear p2
          try clear c3
          try clear c3b0
          try clear c4
          try clear c4b0
          try clear c5
          try clear p5
          try clear q5
          try clear hx5
          try clear c7
          try clear c7b0
          try clear c7b1
          try clear p5
          try clear q5
          obtain ⟨x6_1, rfl, HA, HK1, ⟨m1, rfl⟩⟩ := hrel
          cases gk with
          | zero => exact absurd HA.out (by simp [siglumref01_fits.l0])
          | succ k1 =>
            have H := HA.out
            clear HA
            simp only [siglumref01_fits.l0] at H
            have HC8 := Aside0.mk H
            clear H
            go_upto_region 5 with (fail)
            go_cut [24] (fun v24 wc => ∃ (kq : Nat) (x24_7 : Bool), v24 = .bool x24_7 ∧ Aside0 (siglumref01_fits.j1 kq a0 a1 t50101 x6_1 x24_7 = some r) ∧ Aside0 (kq ≤ k1) ∧ Drawn0 w wc)
            case first =>
              have H := HC8.out
              clear HC8
              by_cases c9 : x6_1 < t50101
              · rw [if_pos c9] at H
                have c9b0 : decide (x6_1 < t50101) = true := decide_eq_true c9
                clear c9
                (first | rw [c9b0] | (simp only [i64_w, i32_w]; rw [c9b0]) | (have ce_ := c9b0; rw [List.beq_nil_eq] at ce_; rw [ce_]) | skip)
                have H' := Aside0.mk H
                clear H
                go_wp2
                go_meet
                case rel => exact ⟨_, (decide ((wrap64 (a1 + x6_1)) < (a0.size : Int))), (by first | rfl | (simp; done) | (simp [*]; done)), H', ⟨by have := HK1.out; first | omega | exact Nat.le_refl _⟩, by repeat (first | exact Drawn0.refl _ | apply Drawn0.step)⟩
              · rw [if_neg c9] at H
                have c9b0 : decide (x6_1 < t50101) = false := decide_eq_false c9
                clear c9
                (first | rw [c9b0] | (simp only [i64_w, i32_w]; rw [c9b0]) | (have ce_ := c9b0; rw [List.beq_nil_eq] at ce_; rw [ce_]) | skip)
                have H' := Aside0.mk H
                clear H
                go_wp2
                go_meet
                case rel => exact ⟨_, (false), (by first | rfl | (simp; done) | (simp [*]; done)), H', ⟨by have := HK1.out; first | omega | exact Nat.le_refl _⟩, by repeat (first | exact Drawn0.refl _ | apply Drawn0.step)⟩
            case rest =>
              clear HC8
              try clear p2
              try clear c3
              try clear c3b0
              try clear c4
              try clear c4b0
              try clear c5
              try clear p5
              try clear q5
              try clear hx5
              try clear p6
              try clear c7
              try clear c7b0
              try clear c7b1
              try clear c9
              try clear c9b0
              try clear p2
              try clear p5
              try clear q5
              obtain ⟨kq, x24_7, rfl, HA, HJ7, ⟨mc7, rfl⟩⟩ := hcut
              cases kq with
              | zero => exact absurd HA.out (by simp [siglumref01_fits.j1])
              | succ kj7 =>
                have H := HA.out
                clear HA
                simp only [siglumref01_fits.j1] at H
                by_cases c10 : x24_7 = true
                · subst c10
                  have H1 : (if 0 ≤ (wrap64 (a1 + x6_1)) then (if (wrap64 (a1 + x6_1)) < (a0.size : Int) then (if x6_1 = 1 then (if 0 ≤ a1 then (if a1 < (a0.size : Int) then ((siglumref01_second.f (bt a0 a1) (bt a0 (wrap64 (a1 + x6_1)))).bind fun t50102 => (if t50102 = true then (if x6_1 > 1 then ((siglumref01_between.f (bt a0 (wrap64 (a1 + x6_1))) 128 191).bind fun t50103 => (if t50103 = true then (siglumref01_fits.l0 kj7 a0 a1 t50101 (wrap64 (x6_1 + 1))) else (some x6_1))) else (siglumref01_fits.l0 kj7 a0 a1 t50101 (wrap64 (x6_1 + 1)))) else (some x6_1))) else (none)) else (none)) else (if x6_1 > 1 then ((siglumref01_between.f (bt a0 (wrap64 (a1 + x6_1))) 128 191).bind fun t50104 => (if t50104 = true then (siglumref01_fits.l0 kj7 a0 a1 t50101 (wrap64 (x6_1 + 1))) else (some x6_1))) else (siglumref01_fits.l0 kj7 a0 a1 t50101 (wrap64 (x6_1 + 1))))) else (none)) else (none)) = some r := by rw [if_pos rfl] at H; exact H
                  clear H
                  have H := H1
                  clear H1
                  obtain ⟨ji11, hji11⟩ : ∃ j_ : Int, (wrap64 (a1 + x6_1)) = j_ := ⟨_, rfl⟩
                  replace H : (if 0 ≤ (ji11) then (if (ji11) < (a0.size : Int) then (if x6_1 = 1 then (if 0 ≤ a1 then (if a1 < (a0.size : Int) then ((siglumref01_second.f (bt a0 a1) (bt a0 (ji11))).bind fun t50102 => (if t50102 = true then (if x6_1 > 1 then ((siglumref01_between.f (bt a0 (ji11)) 128 191).bind fun t50103 => (if t50103 = true then (siglumref01_fits.l0 kj7 a0 a1 t50101 (wrap64 (x6_1 + 1))) else (some x6_1))) else (siglumref01_fits.l0 kj7 a0 a1 t50101 (wrap64 (x6_1 + 1)))) else (some x6_1))) else (none)) else (none)) else (if x6_1 > 1 then ((siglumref01_between.f (bt a0 (ji11)) 128 191).bind fun t50104 => (if t50104 = true then (siglumref01_fits.l0 kj7 a0 a1 t50101 (wrap64 (x6_1 + 1))) else (some x6_1))) else (siglumref01_fits.l0 kj7 a0 a1 t50101 (wrap64 (x6_1 + 1))))) else (none)) else (none)) = some r := by first | (rw [hji11] at H; exact H) | (simp only [hji11] at H ⊢; exact H)
                  have hji11w : (IntKind.i64.wrap (a1 + x6_1)) = ji11 := (i64_w _).trans hji11
                  by_cases c12 : 0 ≤ (ji11)
                  · rw [if_pos c12] at H
                    have c12b0 : decide (0 ≤ (ji11)) = true := decide_eq_true c12
                    clear c12
                    by_cases c13 : (ji11) < (a0.size : Int)
                    · rw [if_pos c13] at H
                      have c13b0 : decide ((ji11) < (a0.size : Int)) = true := decide_eq_true c13
                      clear c13
                      by_cases c15 : x6_1 = 1
                      · rw [if_pos c15] at H
                        have c15b0 : (x6_1 == 1) = true := beq_iff_eq.mpr c15
                        have c15b1 : (x6_1 != 1) = false := bne_eq_false_iff_eq.mpr c15
                        clear c15
                        by_cases c16 : 0 ≤ a1
                        · rw [if_pos c16] at H
                          have c16b0 : decide (0 ≤ a1) = true := decide_eq_true c16
                          clear c16
                          by_cases c17 : a1 < (a0.size : Int)
                          · rw [if_pos c17] at H
                            have c17b0 : decide (a1 < (a0.size : Int)) = true := decide_eq_true c17
                            clear c17
                            replace H := Option.bind_eq_some_iff.mp H
                            obtain ⟨t50102, A190, H⟩ := H
                            replace H : (if t50102 = true then (if x6_1 > 1 then ((siglumref01_between.f (bt a0 (ji11)) 128 191).bind fun t50103 => (if t50103 = true then (siglumref01_fits.l0 kj7 a0 a1 t50101 (wrap64 (x6_1 + 1))) else (some x6_1))) else (siglumref01_fits.l0 kj7 a0 a1 t50101 (wrap64 (x6_1 + 1)))) else (some x6_1)) = some r := H
                            have A19 := Aside0.mk A190
                            clear A190
                            by_cases c20 : t50102 = true
                            · subst c20
                              have H1 : (if x6_1 > 1 then ((siglumref01_between.f (bt a0 (ji11)) 128 191).bind fun t50103 => (if t50103 = true then (siglumref01_fits.l0 kj7 a0 a1 t50101 (wrap64 (x6_1 + 1))) else (some x6_1))) else (siglumref01_fits.l0 kj7 a0 a1 t50101 (wrap64 (x6_1 + 1)))) = some r := by rw [if_pos rfl] at H; exact H
                              clear H
                              have H := H1
                              clear H1
                              by_cases c21 : x6_1 > 1
                              · rw [if_pos c21] at H
                                have c21b0 : decide (1 < x6_1) = true := decide_eq_true c21
                                clear c21
                                replace H := Option.bind_eq_some_iff.mp H
                                obtain ⟨t50103, A220, H⟩ := H
                                replace H : (if t50103 = true then (siglumref01_fits.l0 kj7 a0 a1 t50101 (wrap64 (x6_1 + 1))) else (some x6_1)) = some r := H
                                have A22 := Aside0.mk A220
                                clear A220
                                by_cases c23 : t50103 = true
                                · subst c23
                                  have H1 : (siglumref01_fits.l0 kj7 a0 a1 t50101 (wrap64 (x6_1 + 1))) = some r := by rw [if_pos rfl] at H; exact H
                                  clear H
                                  have H := H1
                                  clear H1
                                  have H' := Aside0.mk H
                                  clear H
                                  have p14 : 0 ≤ ((ji11) : Int) := of_decide_eq_true (by first | (with_reducible assumption) | assumption)
                                  have q14 : (ji11) < (a0.size : Int) := of_decide_eq_true (by first | (with_reducible assumption) | assumption)
                                  have hx14 := bt_at a0 (ji11)
                                  replace p14 := eq_true p14
                                  replace q14 := eq_true q14
                                  have p18 : 0 ≤ (a1 : Int) := of_decide_eq_true (by first | (with_reducible assumption) | assumption)
                                  have q18 : a1 < (a0.size : Int) := of_decide_eq_true (by first | (with_reducible assumption) | assumption)
                                  have hx18 := bt_at a0 a1
                                  replace p18 := eq_true p18
                                  replace q18 := eq_true q18
                                  go_wp2_with (first | (go_at_call 57; (with_reducible refine (siglumref01_second.calls (bt a0 a1) (bt a0 (ji11)) true _ A19.out).mono ?_); rintro e w' ⟨rfl, ⟨nd, rfl⟩⟩) | (go_at_call 56; (with_reducible refine (siglumref01_between.calls (bt a0 (ji11)) 128 191 true _ A22.out).mono ?_); rintro e w' ⟨rfl, ⟨nd, rfl⟩⟩))
                                  go_roundg kj7
                                  case measure => have := HK1.out; have := HJ7.out; omega
                                  case rel => exact ⟨(wrap64 (x6_1 + 1)), (by first | rfl | (simp; done) | (simp [*]; done)), H', ⟨by have := HK1.out; have := HJ7.out; omega⟩, by repeat (first | exact Drawn0.refl _ | apply Drawn0.step)⟩
                                · replace c23 := Bool.eq_false_iff.mpr c23
                                  subst c23
                                  have H1 : (some x6_1) = some r := by rw [if_neg (show ¬ (false = true) by decide)] at H; exact H
                                  clear H
                                  have H := H1
                                  clear H1
                                  obtain rfl := Option.some.inj H
                                  have p14 : 0 ≤ ((ji11) : Int) := of_decide_eq_true (by first | (with_reducible assumption) | assumption)
                                  have q14 : (ji11) < (a0.size : Int) := of_decide_eq_true (by first | (with_reducible assumption) | assumption)
                                  have hx14 := bt_at a0 (ji11)
                                  replace p14 := eq_true p14
                                  replace q14 := eq_true q14
                                  have p18 : 0 ≤ (a1 : Int) := of_decide_eq_true (by first | (with_reducible assumption) | assumption)
                                  have q18 : a1 < (a0.size : Int) := of_decide_eq_true (by first | (with_reducible assumption) | assumption)
                                  have hx18 := bt_at a0 a1
                                  replace p18 := eq_true p18
                                  replace q18 := eq_true q18
                                  go_wp2_with (first | (go_at_call 57; (with_reducible refine (siglumref01_second.calls (bt a0 a1) (bt a0 (ji11)) true _ A19.out).mono ?_); rintro e w' ⟨rfl, ⟨nd, rfl⟩⟩) | (go_at_call 56; (with_reducible refine (siglumref01_between.calls (bt a0 (ji11)) 128 191 false _ A22.out).mono ?_); rintro e w' ⟨rfl, ⟨nd, rfl⟩⟩))
                                  go_ret
                                  exact ⟨by first | rfl | (simp; done) | (simp only [← hji11] <;> (first | rfl | simp)) | (simp [*]; done), by repeat (first | exact Drawn0.refl _ | apply Drawn0.step)⟩
                              · rw [if_neg c21] at H
                                have c21b0 : decide (1 < x6_1) = false := decide_eq_false c21
                                clear c21
                                have H' := Aside0.mk H
                                clear H
                                have p14 : 0 ≤ ((ji11) : Int) := of_decide_eq_true (by first | (with_reducible assumption) | assumption)
                                have q14 : (ji11) < (a0.size : Int) := of_decide_eq_true (by first | (with_reducible assumption) | assumption)
                                have hx14 := bt_at a0 (ji11)
                                replace p14 := eq_true p14
                                replace q14 := eq_true q14
                                have p18 : 0 ≤ (a1 : Int) := of_decide_eq_true (by first | (with_reducible assumption) | assumption)
                                have q18 : a1 < (a0.size : Int) := of_decide_eq_true (by first | (with_reducible assumption) | assumption)
                                have hx18 := bt_at a0 a1
                                replace p18 := eq_true p18
                                replace q18 := eq_true q18
                                go_wp2_with (first | (go_at_call 57; (with_reducible refine (siglumref01_second.calls (bt a0 a1) (bt a0 (ji11)) true _ A19.out).mono ?_); rintro e w' ⟨rfl, ⟨nd, rfl⟩⟩))
                                go_roundg kj7
                                case measure => have := HK1.out; have := HJ7.out; omega
                                case rel => exact ⟨(wrap64 (x6_1 + 1)), (by first | rfl | (simp; done) | (simp [*]; done)), H', ⟨by have := HK1.out; have := HJ7.out; omega⟩, by repeat (first | exact Drawn0.refl _ | apply Drawn0.step)⟩
                            · replace c20 := Bool.eq_false_iff.mpr c20
                              subst c20
                              have H1 : (some x6_1) = some r := by rw [if_neg (show ¬ (false = true) by decide)] at H; exact H
                              clear H
                              have H := H1
                              clear H1
                              obtain rfl := Option.some.inj H
                              have p14 : 0 ≤ ((ji11) : Int) := of_decide_eq_true (by first | (with_reducible assumption) | assumption)
                              have q14 : (ji11) < (a0.size : Int) := of_decide_eq_true (by first | (with_reducible assumption) | assumption)
                              have hx14 := bt_at a0 (ji11)
                              replace p14 := eq_true p14
                              replace q14 := eq_true q14
                              have p18 : 0 ≤ (a1 : Int) := of_decide_eq_true (by first | (with_reducible assumption) | assumption)
                              have q18 : a1 < (a0.size : Int) := of_decide_eq_true (by first | (with_reducible assumption) | assumption)
                              have hx18 := bt_at a0 a1
                              replace p18 := eq_true p18
                              replace q18 := eq_true q18
                              go_wp2_with (first | (go_at_call 57; (with_reducible refine (siglumref01_second.calls (bt a0 a1) (bt a0 (ji11)) false _ A19.out).mono ?_); rintro e w' ⟨rfl, ⟨nd, rfl⟩⟩))
                              go_ret
                              exact ⟨by first | rfl | (simp; done) | (simp only [← hji11] <;> (first | rfl | simp)) | (simp [*]; done), by repeat (first | exact Drawn0.refl _ | apply Drawn0.step)⟩
                          · rw [if_neg c17] at H
                            exact absurd H (by simp)
                        · rw [if_neg c16] at H
                          exact absurd H (by simp)
                      · rw [if_neg c15] at H
                        have c15b0 : (x6_1 == 1) = false := beq_eq_false_iff_ne.mpr c15
                        have c15b1 : (x6_1 != 1) = true := bne_iff_ne.mpr c15
                        by_cases c24 : x6_1 > 1
                        · rw [if_pos c24] at H
                          have c24b0 : decide (1 < x6_1) = true := decide_eq_true c24
                          clear c24
                          replace H := Option.bind_eq_some_iff.mp H
                          obtain ⟨t50104, A250, H⟩ := H
                          replace H : (if t50104 = true then (siglumref01_fits.l0 kj7 a0 a1 t50101 (wrap64 (x6_1 + 1))) else (some x6_1)) = some r := H
                          have A25 := Aside0.mk A250
                          clear A250
                          by_cases c26 : t50104 = true
                          · subst c26
                            have H1 : (siglumref01_fits.l0 kj7 a0 a1 t50101 (wrap64 (x6_1 + 1))) = some r := by rw [if_pos rfl] at H; exact H
                            clear H
                            have H := H1
                            clear H1
                            have H' := Aside0.mk H
                            clear H
                            have p14 : 0 ≤ ((ji11) : Int) := of_decide_eq_true (by first | (with_reducible assumption) | assumption)
                            have q14 : (ji11) < (a0.size : Int) := of_decide_eq_true (by first | (with_reducible assumption) | assumption)
                            have hx14 := bt_at a0 (ji11)
                            replace p14 := eq_true p14
                            replace q14 := eq_true q14
                            go_wp2_with (first | (go_at_call 56; (with_reducible refine (siglumref01_between.calls (bt a0 (ji11)) 128 191 true _ A25.out).mono ?_); rintro e w' ⟨rfl, ⟨nd, rfl⟩⟩))
                            go_roundg kj7
                            case measure => have := HK1.out; have := HJ7.out; omega
                            case rel => exact ⟨(wrap64 (x6_1 + 1)), (by first | rfl | (simp; done) | (simp [*]; done)), H', ⟨by have := HK1.out; have := HJ7.out; omega⟩, by repeat (first | exact Drawn0.refl _ | apply Drawn0.step)⟩
                          · replace c26 := Bool.eq_false_iff.mpr c26
                            subst c26
                            have H1 : (some x6_1) = some r := by rw [if_neg (show ¬ (false = true) by decide)] at H; exact H
                            clear H
                            have H := H1
                            clear H1
                            obtain rfl := Option.some.inj H
                            have p14 : 0 ≤ ((ji11) : Int) := of_decide_eq_true (by first | (with_reducible assumption) | assumption)
                            have q14 : (ji11) < (a0.size : Int) := of_decide_eq_true (by first | (with_reducible assumption) | assumption)
                            have hx14 := bt_at a0 (ji11)
                            replace p14 := eq_true p14
                            replace q14 := eq_true q14
                            go_wp2_with (first | (go_at_call 56; (with_reducible refine (siglumref01_between.calls (bt a0 (ji11)) 128 191 false _ A25.out).mono ?_); rintro e w' ⟨rfl, ⟨nd, rfl⟩⟩))
                            go_ret
                            exact ⟨by first | rfl | (simp; done) | (simp only [← hji11] <;> (first | rfl | simp)) | (simp [*]; done), by repeat (first | exact Drawn0.refl _ | apply Drawn0.step)⟩
                        · rw [if_neg c24] at H
                          have c24b0 : decide (1 < x6_1) = false := decide_eq_false c24
                          clear c24
                          have H' := Aside0.mk H
                          clear H
                          have p14 : 0 ≤ ((ji11) : Int) := of_decide_eq_true (by first | (with_reducible assumption) | assumption)
                          have q14 : (ji11) < (a0.size : Int) := of_decide_eq_true (by first | (with_reducible assumption) | assumption)
                          have hx14 := bt_at a0 (ji11)
                          replace p14 := eq_true p14
                          replace q14 := eq_true q14
                          go_wp2
                          go_roundg kj7
                          case measure => have := HK1.out; have := HJ7.out; omega
                          case rel => exact ⟨(wrap64 (x6_1 + 1)), (by first | rfl | (simp; done) | (simp [*]; done)), H', ⟨by have := HK1.out; have := HJ7.out; omega⟩, by repeat (first | exact Drawn0.refl _ | apply Drawn0.step)⟩
                    · rw [if_neg c13] at H
                      exact absurd H (by simp)
                  · rw [if_neg c12] at H
                    exact absurd H (by simp)
                · replace c10 := Bool.eq_false_iff.mpr c10
                  subst c10
                  have H1 : (some x6_1) = some r := by rw [if_neg (show ¬ (false = true) by decide)] at H; exact H
                  clear H
                  have H := H1
                  clear H1
                  obtain rfl := Option.some.inj H
                  go_wp2
                  go_ret
                  exact ⟨by first | rfl | (simp; done) | (simp [*]; done), by repeat (first | exact Drawn0.refl _ | apply Drawn0.step)⟩
    · rw [if_neg c4] at H
      exact absurd H (by simp)
  · rw [if_neg c3] at H
    exact absurd H (by simp)

end Go.Proofs.YtfcobfjjcocggaaDoor.C
