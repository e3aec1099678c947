-- Printed by hprint.py (this session's program over the kit's print) out of the translation; the parts 'by hand' are the session's own.
import Derived.Test.YtalogampkkjcdaaDoorPx0
namespace Go.Proofs.YtalogampkkjcdaaDoor.P
open Go.RowKit Go.Proofs.YtalogampkkjcdaaDoorW.PrintWords Go.Proofs.YtalogampkkjcdaaDoorW.PrintLast Go.Proofs.YtalogampkkjcdaaDoorW.PrintMore
attribute [local go_sem] max2_int min2_int max_two min_two max_three min_three max_four min_four   -- for this text's walks alone
set_option linter.unusedVariables false
set_option linter.unusedSimpArgs false

/-! ### siglumref01_between: function 57 -/
def siglumref01_between.f (a0 : Int) (a1 : Int) (a2 : Int) : Option (Bool) := if a0 ≥ a1 then (some (decide (a0 ≤ a2))) else (some false)
set_option maxHeartbeats 8000000 in
set_option maxRecDepth 100000 in
theorem siglumref01_between.calls (a0 : Int) (a1 : Int) (a2 : Int) (r : Bool) (w : World) (h : siglumref01_between.f a0 a1 a2 = some r) :
    Calls Tryd.prog 57 #[.int .u8 a0, .int .u8 a1, .int .u8 a2] w fun e w' => e = .returned (.bool r) ∧ Drawn0 w w' := by
  have H : (if a0 ≥ a1 then (some (decide (a0 ≤ a2))) else (some false)) = some r := h
  clear h
  by_cases c4 : a0 ≥ a1
  · rw [if_pos c4] at H
    have c4b0 : decide (a1 ≤ a0) = true := decide_eq_true c4
    clear c4
    obtain rfl := Option.some.inj H
    go_enter Tryd.func57, Tryd.ntmps57
    go_wp2
    go_ret
    exact ⟨by first | rfl | (simp; done) | (simp [*]; done), by repeat (first | exact Drawn0.refl _ | apply Drawn0.step)⟩
  · rw [if_neg c4] at H
    have c4b0 : decide (a1 ≤ a0) = false := decide_eq_false c4
    clear c4
    obtain rfl := Option.some.inj H
    go_enter Tryd.func57, Tryd.ntmps57
    go_wp2
    go_ret
    exact ⟨by first | rfl | (simp; done) | (simp [*]; done), by repeat (first | exact Drawn0.refl _ | apply Drawn0.step)⟩

/-! ### siglumref01_wants: function 46 -/
def siglumref01_wants.f (a0 : Int) : Option (Int) := if a0 < 128 then (some 1) else ((siglumref01_between.f a0 194 223).bind fun t148 => (if t148 = true then (some 2) else ((siglumref01_between.f a0 224 239).bind fun t149 => (if t149 = true then (some 3) else ((siglumref01_between.f a0 240 244).bind fun t150 => (if t150 = true then (some 4) else (some 0)))))))
set_option maxHeartbeats 8000000 in
set_option maxRecDepth 100000 in
theorem siglumref01_wants.calls (a0 : Int) (r : Int) (w : World) (h : siglumref01_wants.f a0 = some r) :
    Calls Tryd.prog 46 #[.int .u8 a0] w fun e w' => e = .returned (.int .i64 r) ∧ Drawn0 w w' := by
  have H : (if a0 < 128 then (some 1) else ((siglumref01_between.f a0 194 223).bind fun t148 => (if t148 = true then (some 2) else ((siglumref01_between.f a0 224 239).bind fun t149 => (if t149 = true then (some 3) else ((siglumref01_between.f a0 240 244).bind fun t150 => (if t150 = true then (some 4) else (some 0)))))))) = some r := h
  clear h
  by_cases c2 : a0 < 128
  · rw [if_pos c2] at H
    have c2b0 : decide (a0 < 128) = true := decide_eq_true c2
    clear c2
    obtain rfl := Option.some.inj H
    go_enter Tryd.func46, Tryd.ntmps46
    go_wp2
    go_ret
    exact ⟨by first | rfl | (simp; done) | (simp [*]; done), by repeat (first | exact Drawn0.refl _ | apply Drawn0.step)⟩
  · rw [if_neg c2] at H
    have c2b0 : decide (a0 < 128) = false := decide_eq_false c2
    clear c2
    replace H := Option.bind_eq_some_iff.mp H
    obtain ⟨t148, A30, H⟩ := H
    replace H : (if t148 = true then (some 2) else ((siglumref01_between.f a0 224 239).bind fun t149 => (if t149 = true then (some 3) else ((siglumref01_between.f a0 240 244).bind fun t150 => (if t150 = true then (some 4) else (some 0)))))) = some r := H
    have A3 := Aside0.mk A30
    clear A30
    by_cases c4 : t148 = true
    · subst c4
      have H1 : (some 2) = some r := by rw [if_pos rfl] at H; exact H
      clear H
      have H := H1
      clear H1
      obtain rfl := Option.some.inj H
      go_enter Tryd.func46, Tryd.ntmps46
      go_wp2_with (first | ((with_reducible refine gate_callee (f := 57) rfl ?_); refine goesL_ (some 6) rfl rfl Tryd.func57 (by kernel_rfl) rfl #[.int .u8 a0, .int .u8 194, .int .u8 223] rfl (by (try simp only [List.map_toArray, List.map_cons, List.map_nil]); first | done | rfl | (simp only [List.length_drop, List.length_take]; rfl)) ?_; (with_reducible refine (siglumref01_between.calls a0 194 223 true _ A3.out).mono ?_); rintro e w' ⟨rfl, ⟨nd, rfl⟩⟩; refine ⟨_, rfl, ?_⟩))
      go_ret
      exact ⟨by first | rfl | (simp; done) | (simp [*]; done), by repeat (first | exact Drawn0.refl _ | apply Drawn0.step)⟩
    · replace c4 := Bool.eq_false_iff.mpr c4
      subst c4
      have H1 : ((siglumref01_between.f a0 224 239).bind fun t149 => (if t149 = true then (some 3) else ((siglumref01_between.f a0 240 244).bind fun t150 => (if t150 = true then (some 4) else (some 0))))) = some r := by rw [if_neg (show ¬ (false = true) by decide)] at H; exact H
      clear H
      have H := H1
      clear H1
      replace H := Option.bind_eq_some_iff.mp H
      obtain ⟨t149, A50, H⟩ := H
      replace H : (if t149 = true then (some 3) else ((siglumref01_between.f a0 240 244).bind fun t150 => (if t150 = true then (some 4) else (some 0)))) = some r := H
      have A5 := Aside0.mk A50
      clear A50
      by_cases c6 : t149 = true
      · subst c6
        have H1 : (some 3) = some r := by rw [if_pos rfl] at H; exact H
        clear H
        have H := H1
        clear H1
        obtain rfl := Option.some.inj H
        go_enter Tryd.func46, Tryd.ntmps46
        go_wp2_with (first | ((with_reducible refine gate_callee (f := 57) rfl ?_); refine goesL_ (some 6) rfl rfl Tryd.func57 (by kernel_rfl) rfl #[.int .u8 a0, .int .u8 194, .int .u8 223] rfl (by (try simp only [List.map_toArray, List.map_cons, List.map_nil]); first | done | rfl | (simp only [List.length_drop, List.length_take]; rfl)) ?_; (with_reducible refine (siglumref01_between.calls a0 194 223 false _ A3.out).mono ?_); rintro e w' ⟨rfl, ⟨nd, rfl⟩⟩; refine ⟨_, rfl, ?_⟩) | ((with_reducible refine gate_callee (f := 57) rfl ?_); refine goesL_ (some 8) rfl rfl Tryd.func57 (by kernel_rfl) rfl #[.int .u8 a0, .int .u8 224, .int .u8 239] rfl (by (try simp only [List.map_toArray, List.map_cons, List.map_nil]); first | done | rfl | (simp only [List.length_drop, List.length_take]; rfl)) ?_; (with_reducible refine (siglumref01_between.calls a0 224 239 true _ A5.out).mono ?_); rintro e w' ⟨rfl, ⟨nd, rfl⟩⟩; refine ⟨_, rfl, ?_⟩))
        go_ret
        exact ⟨by first | rfl | (simp; done) | (simp [*]; done), by repeat (first | exact Drawn0.refl _ | apply Drawn0.step)⟩
      · replace c6 := Bool.eq_false_iff.mpr c6
        subst c6
        have H1 : ((siglumref01_between.f a0 240 244).bind fun t150 => (if t150 = true then (some 4) else (some 0))) = some r := by rw [if_neg (show ¬ (false = true) by decide)] at H; exact H
        clear H
        have H := H1
        clear H1
        replace H := Option.bind_eq_some_iff.mp H
        obtain ⟨t150, A70, H⟩ := H
        replace H : (if t150 = true then (some 4) else (some 0)) = some r := H
        have A7 := Aside0.mk A70
        clear A70
        by_cases c8 : t150 = true
        · subst c8
          have H1 : (some 4) = some r := by rw [if_pos rfl] at H; exact H
          clear H
          have H := H1
          clear H1
          obtain rfl := Option.some.inj H
          go_enter Tryd.func46, Tryd.ntmps46
          go_wp2_with (first | ((with_reducible refine gate_callee (f := 57) rfl ?_); refine goesL_ (some 6) rfl rfl Tryd.func57 (by kernel_rfl) rfl #[.int .u8 a0, .int .u8 194, .int .u8 223] rfl (by (try simp only [List.map_toArray, List.map_cons, List.map_nil]); first | done | rfl | (simp only [List.length_drop, List.length_take]; rfl)) ?_; (with_reducible refine (siglumref01_between.calls a0 194 223 false _ A3.out).mono ?_); rintro e w' ⟨rfl, ⟨nd, rfl⟩⟩; refine ⟨_, rfl, ?_⟩) | ((with_reducible refine gate_callee (f := 57) rfl ?_); refine goesL_ (some 8) rfl rfl Tryd.func57 (by kernel_rfl) rfl #[.int .u8 a0, .int .u8 224, .int .u8 239] rfl (by (try simp only [List.map_toArray, List.map_cons, List.map_nil]); first | done | rfl | (simp only [List.length_drop, List.length_take]; rfl)) ?_; (with_reducible refine (siglumref01_between.calls a0 224 239 false _ A5.out).mono ?_); rintro e w' ⟨rfl, ⟨nd, rfl⟩⟩; refine ⟨_, rfl, ?_⟩) | ((with_reducible refine gate_callee (f := 57) rfl ?_); refine goesL_ (some 10) rfl rfl Tryd.func57 (by kernel_rfl) rfl #[.int .u8 a0, .int .u8 240, .int .u8 244] rfl (by (try simp only [List.map_toArray, List.map_cons, List.map_nil]); first | done | rfl | (simp only [List.length_drop, List.length_take]; rfl)) ?_; (with_reducible refine (siglumref01_between.calls a0 240 244 true _ A7.out).mono ?_); rintro e w' ⟨rfl, ⟨nd, rfl⟩⟩; refine ⟨_, rfl, ?_⟩))
          go_ret
          exact ⟨by first | rfl | (simp; done) | (simp [*]; done), by repeat (first | exact Drawn0.refl _ | apply Drawn0.step)⟩
        · replace c8 := Bool.eq_false_iff.mpr c8
          subst c8
          have H1 : (some 0) = some r := by rw [if_neg (show ¬ (false = true) by decide)] at H; exact H
          clear H
          have H := H1
          clear H1
          obtain rfl := Option.some.inj H
          go_enter Tryd.func46, Tryd.ntmps46
          go_wp2_with (first | ((with_reducible refine gate_callee (f := 57) rfl ?_); refine goesL_ (some 6) rfl rfl Tryd.func57 (by kernel_rfl) rfl #[.int .u8 a0, .int .u8 194, .int .u8 223] rfl (by (try simp only [List.map_toArray, List.map_cons, List.map_nil]); first | done | rfl | (simp only [List.length_drop, List.length_take]; rfl)) ?_; (with_reducible refine (siglumref01_between.calls a0 194 223 false _ A3.out).mono ?_); rintro e w' ⟨rfl, ⟨nd, rfl⟩⟩; refine ⟨_, rfl, ?_⟩) | ((with_reducible refine gate_callee (f := 57) rfl ?_); refine goesL_ (some 8) rfl rfl Tryd.func57 (by kernel_rfl) rfl #[.int .u8 a0, .int .u8 224, .int .u8 239] rfl (by (try simp only [List.map_toArray, List.map_cons, List.map_nil]); first | done | rfl | (simp only [List.length_drop, List.length_take]; rfl)) ?_; (with_reducible refine (siglumref01_between.calls a0 224 239 false _ A5.out).mono ?_); rintro e w' ⟨rfl, ⟨nd, rfl⟩⟩; refine ⟨_, rfl, ?_⟩) | ((with_reducible refine gate_callee (f := 57) rfl ?_); refine goesL_ (some 10) rfl rfl Tryd.func57 (by kernel_rfl) rfl #[.int .u8 a0, .int .u8 240, .int .u8 244] rfl (by (try simp only [List.map_toArray, List.map_cons, List.map_nil]); first | done | rfl | (simp only [List.length_drop, List.length_take]; rfl)) ?_; (with_reducible refine (siglumref01_between.calls a0 240 244 false _ A7.out).mono ?_); rintro e w' ⟨rfl, ⟨nd, rfl⟩⟩; refine ⟨_, rfl, ?_⟩))
          go_ret
          exact ⟨by first | rfl | (simp; done) | (simp [*]; done), by repeat (first | exact Drawn0.refl _ | apply Drawn0.step)⟩

/-! ### siglumref01_second: function 58 -/
def siglumref01_second.f (a0 : Int) (a1 : Int) : Option (Bool) := if a0 = 224 then ((siglumref01_between.f a1 160 191).bind fun t151 => (some t151)) else (if a0 = 237 then ((siglumref01_between.f a1 128 159).bind fun t152 => (some t152)) else (if a0 = 240 then ((siglumref01_between.f a1 144 191).bind fun t153 => (some t153)) else (if a0 = 244 then ((siglumref01_between.f a1 128 143).bind fun t154 => (some t154)) else ((siglumref01_between.f a1 128 191).bind fun t155 => (some t155)))))
set_option maxHeartbeats 8000000 in
set_option maxRecDepth 100000 in
theorem siglumref01_second.calls (a0 : Int) (a1 : Int) (r : Bool) (w : World) (h : siglumref01_second.f a0 a1 = some r) :
    Calls Tryd.prog 58 #[.int .u8 a0, .int .u8 a1] w fun e w' => e = .returned (.bool r) ∧ Drawn0 w w' := by
  have H : (if a0 = 224 then ((siglumref01_between.f a1 160 191).bind fun t151 => (some t151)) else (if a0 = 237 then ((siglumref01_between.f a1 128 159).bind fun t152 => (some t152)) else (if a0 = 240 then ((siglumref01_between.f a1 144 191).bind fun t153 => (some t153)) else (if a0 = 244 then ((siglumref01_between.f a1 128 143).bind fun t154 => (some t154)) else ((siglumref01_between.f a1 128 191).bind fun t155 => (some t155)))))) = some r := h
  clear h
  by_cases c3 : a0 = 224
  · rw [if_pos c3] at H
    have c3b0 : (a0 == 224) = true := beq_iff_eq.mpr c3
    have c3b1 : (a0 != 224) = false := bne_eq_false_iff_eq.mpr c3
    clear c3
    replace H := Option.bind_eq_some_iff.mp H
    obtain ⟨t151, A40, H⟩ := H
    replace H : (some t151) = some r := H
    have A4 := Aside0.mk A40
    clear A40
    obtain rfl := Option.some.inj H
    go_enter Tryd.func58, Tryd.ntmps58
    go_wp2_with (first | ((with_reducible refine gate_callee (f := 57) rfl ?_); refine goesL_ (some 9) rfl rfl Tryd.func57 (by kernel_rfl) rfl #[.int .u8 a1, .int .u8 160, .int .u8 191] rfl (by (try simp only [List.map_toArray, List.map_cons, List.map_nil]); first | done | rfl | (simp only [List.length_drop, List.length_take]; rfl)) ?_; (with_reducible refine (siglumref01_between.calls a1 160 191 t151 _ A4.out).mono ?_); rintro e w' ⟨rfl, ⟨nd, rfl⟩⟩; refine ⟨_, rfl, ?_⟩))
    go_ret
    exact ⟨by first | rfl | (simp; done) | (simp [*]; done), by repeat (first | exact Drawn0.refl _ | apply Drawn0.step)⟩
  · rw [if_neg c3] at H
    have c3b0 : (a0 == 224) = false := beq_eq_false_iff_ne.mpr c3
    have c3b1 : (a0 != 224) = true := bne_iff_ne.mpr c3
    by_cases c5 : a0 = 237
    · rw [if_pos c5] at H
      have c5b0 : (a0 == 237) = true := beq_iff_eq.mpr c5
      have c5b1 : (a0 != 237) = false := bne_eq_false_iff_eq.mpr c5
      clear c5
      replace H := Option.bind_eq_some_iff.mp H
      obtain ⟨t152, A60, H⟩ := H
      replace H : (some t152) = some r := H
      have A6 := Aside0.mk A60
      clear A60
      obtain rfl := Option.some.inj H
      go_enter Tryd.func58, Tryd.ntmps58
      go_wp2_with (first | ((with_reducible refine gate_callee (f := 57) rfl ?_); refine goesL_ (some 13) rfl rfl Tryd.func57 (by kernel_rfl) rfl #[.int .u8 a1, .int .u8 128, .int .u8 159] rfl (by (try simp only [List.map_toArray, List.map_cons, List.map_nil]); first | done | rfl | (simp only [List.length_drop, List.length_take]; rfl)) ?_; (with_reducible refine (siglumref01_between.calls a1 128 159 t152 _ A6.out).mono ?_); rintro e w' ⟨rfl, ⟨nd, rfl⟩⟩; refine ⟨_, rfl, ?_⟩))
      go_ret
      exact ⟨by first | rfl | (simp; done) | (simp [*]; done), by repeat (first | exact Drawn0.refl _ | apply Drawn0.step)⟩
    · rw [if_neg c5] at H
      have c5b0 : (a0 == 237) = false := beq_eq_false_iff_ne.mpr c5
      have c5b1 : (a0 != 237) = true := bne_iff_ne.mpr c5
      by_cases c7 : a0 = 240
      · rw [if_pos c7] at H
        have c7b0 : (a0 == 240) = true := beq_iff_eq.mpr c7
        have c7b1 : (a0 != 240) = false := bne_eq_false_iff_eq.mpr c7
        clear c7
        replace H := Option.bind_eq_some_iff.mp H
        obtain ⟨t153, A80, H⟩ := H
        replace H : (some t153) = some r := H
        have A8 := Aside0.mk A80
        clear A80
        obtain rfl := Option.some.inj H
        go_enter Tryd.func58, Tryd.ntmps58
        go_wp2_with (first | ((with_reducible refine gate_callee (f := 57) rfl ?_); refine goesL_ (some 17) rfl rfl Tryd.func57 (by kernel_rfl) rfl #[.int .u8 a1, .int .u8 144, .int .u8 191] rfl (by (try simp only [List.map_toArray, List.map_cons, List.map_nil]); first | done | rfl | (simp only [List.length_drop, List.length_take]; rfl)) ?_; (with_reducible refine (siglumref01_between.calls a1 144 191 t153 _ A8.out).mono ?_); rintro e w' ⟨rfl, ⟨nd, rfl⟩⟩; refine ⟨_, rfl, ?_⟩))
        go_ret
        exact ⟨by first | rfl | (simp; done) | (simp [*]; done), by repeat (first | exact Drawn0.refl _ | apply Drawn0.step)⟩
      · rw [if_neg c7] at H
        have c7b0 : (a0 == 240) = false := beq_eq_false_iff_ne.mpr c7
        have c7b1 : (a0 != 240) = true := bne_iff_ne.mpr c7
        by_cases c9 : a0 = 244
        · rw [if_pos c9] at H
          have c9b0 : (a0 == 244) = true := beq_iff_eq.mpr c9
          have c9b1 : (a0 != 244) = false := bne_eq_false_iff_eq.mpr c9
          clear c9
          replace H := Option.bind_eq_some_iff.mp H
          obtain ⟨t154, A100, H⟩ := H
          replace H : (some t154) = some r := H
          have A10 := Aside0.mk A100
          clear A100
          obtain rfl := Option.some.inj H
          go_enter Tryd.func58, Tryd.ntmps58
          go_wp2_with (first | ((with_reducible refine gate_callee (f := 57) rfl ?_); refine goesL_ (some 21) rfl rfl Tryd.func57 (by kernel_rfl) rfl #[.int .u8 a1, .int .u8 128, .int .u8 143] rfl (by (try simp only [List.map_toArray, List.map_cons, List.map_nil]); first | done | rfl | (simp only [List.length_drop, List.length_take]; rfl)) ?_; (with_reducible refine (siglumref01_between.calls a1 128 143 t154 _ A10.out).mono ?_); rintro e w' ⟨rfl, ⟨nd, rfl⟩⟩; refine ⟨_, rfl, ?_⟩))
          go_ret
          exact ⟨by first | rfl | (simp; done) | (simp [*]; done), by repeat (first | exact Drawn0.refl _ | apply Drawn0.step)⟩
        · rw [if_neg c9] at H
          have c9b0 : (a0 == 244) = false := beq_eq_false_iff_ne.mpr c9
          have c9b1 : (a0 != 244) = true := bne_iff_ne.mpr c9
          replace H := Option.bind_eq_some_iff.mp H
          obtain ⟨t155, A110, H⟩ := H
          replace H : (some t155) = some r := H
          have A11 := Aside0.mk A110
          clear A110
          obtain rfl := Option.some.inj H
          go_enter Tryd.func58, Tryd.ntmps58
          go_wp2_with (first | ((with_reducible refine gate_callee (f := 57) rfl ?_); refine goesL_ (some 23) rfl rfl Tryd.func57 (by kernel_rfl) rfl #[.int .u8 a1, .int .u8 128, .int .u8 191] rfl (by (try simp only [List.map_toArray, List.map_cons, List.map_nil]); first | done | rfl | (simp only [List.length_drop, List.length_take]; rfl)) ?_; (with_reducible refine (siglumref01_between.calls a1 128 191 t155 _ A11.out).mono ?_); rintro e w' ⟨rfl, ⟨nd, rfl⟩⟩; refine ⟨_, rfl, ?_⟩))
          go_ret
          exact ⟨by first | rfl | (simp; done) | (simp [*]; done), by repeat (first | exact Drawn0.refl _ | apply Drawn0.step)⟩

/-! ### siglumref01_fits: function 47 -/
mutual
def siglumref01_fits.l0 : Nat → ByteArray → Int → Int → Int → Option (Int)
 | 0, _, _, _, _ => none
 | k + 1, x0, x1, x5, x6 => if x6 < x5 then (siglumref01_fits.j1 k x0 x1 x5 x6 (decide ((wrap64 (x1 + x6)) < (x0.size : Int)))) else (siglumref01_fits.j1 k x0 x1 x5 x6 false)
def siglumref01_fits.j1 : Nat → ByteArray → Int → Int → Int → Bool → Option (Int)
 | 0, _, _, _, _, _ => none
 | k + 1, x0, x1, x5, x6, x24 => if x24 = true then (if 0 ≤ (wrap64 (x1 + x6)) then (if (wrap64 (x1 + x6)) < (x0.size : Int) then (if x6 = 1 then (if 0 ≤ x1 then (if x1 < (x0.size : Int) then ((siglumref01_second.f (bt x0 x1) (bt x0 (wrap64 (x1 + x6)))).bind fun t157 => (if t157 = true then (if x6 > 1 then ((siglumref01_between.f (bt x0 (wrap64 (x1 + x6))) 128 191).bind fun t158 => (if t158 = true then (siglumref01_fits.l0 k x0 x1 x5 (wrap64 (x6 + 1))) else (some x6))) else (siglumref01_fits.l0 k x0 x1 x5 (wrap64 (x6 + 1)))) else (some x6))) else (none)) else (none)) else (if x6 > 1 then ((siglumref01_between.f (bt x0 (wrap64 (x1 + x6))) 128 191).bind fun t159 => (if t159 = true then (siglumref01_fits.l0 k x0 x1 x5 (wrap64 (x6 + 1))) else (some x6))) else (siglumref01_fits.l0 k x0 x1 x5 (wrap64 (x6 + 1))))) else (none)) else (none)) else (some x6)
end
def siglumref01_fits.f (k : Nat) (a0 : ByteArray) (a1 : Int) : Option (Int) := if 0 ≤ a1 then (if a1 < (a0.size : Int) then ((siglumref01_wants.f (bt a0 a1)).bind fun t156 => (if t156 = 0 then (some 0) else (siglumref01_fits.l0 k a0 a1 t156 1))) else (none)) else (none)
theorem siglumref01_fits.mono_l : ∀ k, (∀ y0 y1 y2 y3, LeO (siglumref01_fits.l0 k y0 y1 y2 y3) (siglumref01_fits.l0 (k + 1) y0 y1 y2 y3)) ∧ (∀ y0 y1 y2 y3 y4, LeO (siglumref01_fits.j1 k y0 y1 y2 y3 y4) (siglumref01_fits.j1 (k + 1) y0 y1 y2 y3 y4))
 | 0 => ⟨fun _ _ _ _ r h => by simp [siglumref01_fits.l0] at h, fun _ _ _ _ _ r h => by simp [siglumref01_fits.j1] at h⟩
 | k + 1 => by
  obtain ⟨ih0, ih1⟩ := siglumref01_fits.mono_l k
  refine ⟨?_, ?_⟩
  ·
   intro y0 y1 y2 y3
   unfold siglumref01_fits.l0
   repeat' first
   | (with_reducible exact ih0 _ _ _ _)
   | (with_reducible exact ih1 _ _ _ _ _)
   | (with_reducible exact LeO.refl _)
   | (with_reducible exact LeO.none _)
   | (with_reducible refine LeO.ite ?_ ?_)
   | (with_reducible refine LeO.bind ?_ (fun _ => ?_))
   | exact ih0 _ _ _ _
   | exact ih1 _ _ _ _ _
   | exact LeO.none _
   | refine LeO.ite ?_ ?_
   | refine LeO.bind ?_ (fun _ => ?_)
  ·
   intro y0 y1 y2 y3 y4
   unfold siglumref01_fits.j1
   repeat' first
   | (with_reducible exact ih0 _ _ _ _)
   | (with_reducible exact ih1 _ _ _ _ _)
   | (with_reducible exact LeO.refl _)
   | (with_reducible exact LeO.none _)
   | (with_reducible refine LeO.ite ?_ ?_)
   | (with_reducible refine LeO.bind ?_ (fun _ => ?_))
   | exact ih0 _ _ _ _
   | exact ih1 _ _ _ _ _
   | exact LeO.none _
   | refine LeO.ite ?_ ?_
   | refine LeO.bind ?_ (fun _ => ?_)
theorem siglumref01_fits.mono : ∀ a0 a1 k, LeO (siglumref01_fits.f k a0 a1) (siglumref01_fits.f (k + 1) a0 a1) := by
 intro a0 a1 k
 obtain ⟨ih0, ih1⟩ := siglumref01_fits.mono_l k
 unfold siglumref01_fits.f
 repeat' first
  | (with_reducible exact ih0 _ _ _ _)
  | (with_reducible exact ih1 _ _ _ _ _)
  | (with_reducible exact LeO.refl _)
  | (with_reducible exact LeO.none _)
  | (with_reducible refine LeO.ite ?_ ?_)
  | (with_reducible refine LeO.bind ?_ (fun _ => ?_))
  | exact ih0 _ _ _ _
  | exact ih1 _ _ _ _ _
  | exact LeO.none _
  | refine LeO.ite ?_ ?_
  | refine LeO.bind ?_ (fun _ => ?_)
set_option maxHeartbeats 8000000 in
set_option maxRecDepth 100000 in
theorem siglumref01_fits.calls (k : Nat) (a0 : ByteArray) (a1 : Int) (r : Int) (w : World) (h : siglumref01_fits.f k a0 a1 = some r) :
 Calls Tryd.prog 47 #[.string a0, .int .i64 a1] w fun e w' => e = .returned (.int .i64 r) ∧ Drawn0 w w' := by
 have H : (if 0 ≤ a1 then (if a1 < (a0.size : Int) then ((siglumref01_wants.f (bt a0 a1)).bind fun t156 => (if t156 = 0 then (some 0) else (siglumref01_fits.l0 k a0 a1 t156 1))) else (none)) else (none)) = some r := h
 clear h
 by_cases c3 : 0 ≤ a1
 rotate_left
 · rw [if_neg c3] at H; exact absurd H (by simp)
 rw [if_pos c3] at H
 have c3b0 : decide (0 ≤ a1) = true := decide_eq_true c3
 clear c3
 by_cases c4 : a1 < (a0.size : Int)
 rotate_left
 · rw [if_neg c4] at H; exact absurd H (by simp)
 rw [if_pos c4] at H
 have c4b0 : decide (a1 < (a0.size : Int)) = true := decide_eq_true c4
 clear c4
 replace H := Option.bind_eq_some_iff.mp H
 obtain ⟨t156, A60, H⟩ := H
 replace H : (if t156 = 0 then (some 0) else (siglumref01_fits.l0 k a0 a1 t156 1)) = some r := H
 have A6 := Aside0.mk A60
 clear A60
 by_cases c7 : t156 = 0
 ·
  rw [if_pos c7] at H
  have c7b0 : (t156 == 0) = true := beq_iff_eq.mpr c7
  have c7b1 : (t156 != 0) = false := bne_eq_false_iff_eq.mpr c7
  clear c7
  obtain rfl := Option.some.inj H
  have p5 : 0 ≤ (a1 : Int) := of_decide_eq_true (by assumption)
  have q5 : a1 < (a0.size : Int) := of_decide_eq_true (by assumption)
  have hx5 := bt_at a0 a1
  replace p5 := eq_true p5
  replace q5 := eq_true q5
  go_enter Tryd.func47, Tryd.ntmps47
  go_wp2_with (first | ((with_reducible refine gate_callee (f := 46) rfl ?_); refine goesL_ (some 11) rfl rfl Tryd.func46 (by kernel_rfl) rfl #[.int .u8 (bt a0 a1)] rfl (by (try simp only [List.map_toArray, List.map_cons, List.map_nil]); first | done | rfl | (simp only [List.length_drop, List.length_take]; rfl)) ?_; (with_reducible refine (siglumref01_wants.calls (bt a0 a1) t156 _ A6.out).mono ?_); rintro e w' ⟨rfl, ⟨nd, rfl⟩⟩; refine ⟨_, rfl, ?_⟩))
  go_ret
  exact ⟨by first | rfl | (simp; done) | (simp [*]; done), by repeat (first | exact Drawn0.refl _ | apply Drawn0.step)⟩
 ·
  rw [if_neg c7] at H
  have c7b0 : (t156 == 0) = false := beq_eq_false_iff_ne.mpr c7
  have c7b1 : (t156 != 0) = true := bne_iff_ne.mpr c7
  have H' := Aside0.mk H
  clear H
  have p5 : 0 ≤ (a1 : Int) := of_decide_eq_true (by assumption)
  have q5 : a1 < (a0.size : Int) := of_decide_eq_true (by assumption)
  have hx5 := bt_at a0 a1
  replace p5 := eq_true p5
  replace q5 := eq_true q5
  go_enter Tryd.func47, Tryd.ntmps47
  go_wp2_with (first | ((with_reducible refine gate_callee (f := 46) rfl ?_); refine goesL_ (some 11) rfl rfl Tryd.func46 (by kernel_rfl) rfl #[.int .u8 (bt a0 a1)] rfl (by (try simp only [List.map_toArray, List.map_cons, List.map_nil]); first | done | rfl | (simp only [List.length_drop, List.length_take]; rfl)) ?_; (with_reducible refine (siglumref01_wants.calls (bt a0 a1) t156 _ A6.out).mono ?_); rintro e w' ⟨rfl, ⟨nd, rfl⟩⟩; refine ⟨_, rfl, ?_⟩))
  go_loopg [6] k (fun kq v6 w' => ∃ (x6_1 : Int), v6 = .int .i64 x6_1 ∧ Aside0 (siglumref01_fits.l0 kq a0 a1 t156 x6_1 = some r) ∧ Aside0 (kq ≤ k) ∧ Drawn0 w w')
  case atStart => exact ⟨(1), (by first | rfl | (simp; done) | (simp [*]; done)), H', ⟨Nat.le_refl _⟩, by repeat (first | exact Drawn0.refl _ | apply Drawn0.step)⟩
  case round =>
   clear H'
   (try clear p2); (try clear c3); (try clear c3b0); (try clear c4); (try clear c4b0); (try clear p5); (try clear q5); (try clear hx5); (try clear c7); (try clear c7b0); (try clear c7b1)
   obtain ⟨x6_1, rfl, HA, HK1, ⟨m1, rfl⟩⟩ := hrel
   cases gk with
   | zero => exact absurd HA.out (by simp [siglumref01_fits.l0])
   | succ k1 =>
    have H := HA.out
    clear HA
    simp only [siglumref01_fits.l0] at H
    have HC8 := Aside0.mk H
    clear H
    go_upto_region 5 with (fail)
    go_cut [24] (fun v24 wc => ∃ (kq : Nat) (x24_7 : Bool), v24 = .bool x24_7 ∧ Aside0 (siglumref01_fits.j1 kq a0 a1 t156 x6_1 x24_7 = some r) ∧ Aside0 (kq ≤ k1) ∧ Drawn0 w wc)
    case first =>
     have H := HC8.out
     clear HC8
     by_cases c9 : x6_1 < t156
     ·
      rw [if_pos c9] at H
      have c9b0 : decide (x6_1 < t156) = true := decide_eq_true c9
      clear c9
      (first | rw [c9b0] | (simp only [i64_w, i32_w]; rw [c9b0]) | skip)
      have H' := Aside0.mk H
      clear H
      go_wp2
      go_meet
      case rel => exact ⟨_, (decide ((wrap64 (a1 + x6_1)) < (a0.size : Int))), (by first | rfl | (simp; done) | (simp [*]; done)), H', ⟨by have := HK1.out; first | omega | exact Nat.le_refl _⟩, by repeat (first | exact Drawn0.refl _ | apply Drawn0.step)⟩
     ·
      rw [if_neg c9] at H
      have c9b0 : decide (x6_1 < t156) = false := decide_eq_false c9
      clear c9
      (first | rw [c9b0] | (simp only [i64_w, i32_w]; rw [c9b0]) | skip)
      have H' := Aside0.mk H
      clear H
      go_wp2
      go_meet
      case rel => exact ⟨_, (false), (by first | rfl | (simp; done) | (simp [*]; done)), H', ⟨by have := HK1.out; first | omega | exact Nat.le_refl _⟩, by repeat (first | exact Drawn0.refl _ | apply Drawn0.step)⟩
    case rest =>
     clear HC8
     (try clear p2); (try clear c3); (try clear c3b0); (try clear c4); (try clear c4b0); (try clear p5); (try clear q5); (try clear hx5); (try clear p6); (try clear c7); (try clear c7b0); (try clear c7b1); (try clear c9); (try clear c9b0)
     obtain ⟨kq, x24_7, rfl, HA, HJ7, ⟨mc7, rfl⟩⟩ := hcut
     cases kq with
     | zero => exact absurd HA.out (by simp [siglumref01_fits.j1])
     | succ kj7 =>
      have H := HA.out
      clear HA
      simp only [siglumref01_fits.j1] at H
      by_cases c10 : x24_7 = true
      ·
       subst c10
       have H1 : (if 0 ≤ (wrap64 (a1 + x6_1)) then (if (wrap64 (a1 + x6_1)) < (a0.size : Int) then (if x6_1 = 1 then (if 0 ≤ a1 then (if a1 < (a0.size : Int) then ((siglumref01_second.f (bt a0 a1) (bt a0 (wrap64 (a1 + x6_1)))).bind fun t157 => (if t157 = true then (if x6_1 > 1 then ((siglumref01_between.f (bt a0 (wrap64 (a1 + x6_1))) 128 191).bind fun t158 => (if t158 = true then (siglumref01_fits.l0 kj7 a0 a1 t156 (wrap64 (x6_1 + 1))) else (some x6_1))) else (siglumref01_fits.l0 kj7 a0 a1 t156 (wrap64 (x6_1 + 1)))) else (some x6_1))) else (none)) else (none)) else (if x6_1 > 1 then ((siglumref01_between.f (bt a0 (wrap64 (a1 + x6_1))) 128 191).bind fun t159 => (if t159 = true then (siglumref01_fits.l0 kj7 a0 a1 t156 (wrap64 (x6_1 + 1))) else (some x6_1))) else (siglumref01_fits.l0 kj7 a0 a1 t156 (wrap64 (x6_1 + 1))))) else (none)) else (none)) = some r := by rw [if_pos rfl] at H; exact H
       clear H
       have H := H1
       clear H1
       obtain ⟨ji11, hji11⟩ : ∃ j_ : Int, (wrap64 (a1 + x6_1)) = j_ := ⟨_, rfl⟩
       replace H : (if 0 ≤ (ji11) then (if (ji11) < (a0.size : Int) then (if x6_1 = 1 then (if 0 ≤ a1 then (if a1 < (a0.size : Int) then ((siglumref01_second.f (bt a0 a1) (bt a0 (ji11))).bind fun t157 => (if t157 = true then (if x6_1 > 1 then ((siglumref01_between.f (bt a0 (ji11)) 128 191).bind fun t158 => (if t158 = true then (siglumref01_fits.l0 kj7 a0 a1 t156 (wrap64 (x6_1 + 1))) else (some x6_1))) else (siglumref01_fits.l0 kj7 a0 a1 t156 (wrap64 (x6_1 + 1)))) else (some x6_1))) else (none)) else (none)) else (if x6_1 > 1 then ((siglumref01_between.f (bt a0 (ji11)) 128 191).bind fun t159 => (if t159 = true then (siglumref01_fits.l0 kj7 a0 a1 t156 (wrap64 (x6_1 + 1))) else (some x6_1))) else (siglumref01_fits.l0 kj7 a0 a1 t156 (wrap64 (x6_1 + 1))))) else (none)) else (none)) = some r := by first | (rw [hji11] at H; exact H) | (simp only [hji11] at H ⊢; exact H)
       have hji11w : (IntKind.i64.wrap (a1 + x6_1)) = ji11 := (i64_w _).trans hji11
       by_cases c12 : 0 ≤ (ji11)
       rotate_left
       · rw [if_neg c12] at H; exact absurd H (by simp)
       rw [if_pos c12] at H
       have c12b0 : decide (0 ≤ (ji11)) = true := decide_eq_true c12
       clear c12
       by_cases c13 : (ji11) < (a0.size : Int)
       rotate_left
       · rw [if_neg c13] at H; exact absurd H (by simp)
       rw [if_pos c13] at H
       have c13b0 : decide ((ji11) < (a0.size : Int)) = true := decide_eq_true c13
       clear c13
       by_cases c15 : x6_1 = 1
       ·
        rw [if_pos c15] at H
        have c15b0 : (x6_1 == 1) = true := beq_iff_eq.mpr c15
        have c15b1 : (x6_1 != 1) = false := bne_eq_false_iff_eq.mpr c15
        clear c15
        by_cases c16 : 0 ≤ a1
        rotate_left
        · rw [if_neg c16] at H; exact absurd H (by simp)
        rw [if_pos c16] at H
        have c16b0 : decide (0 ≤ a1) = true := decide_eq_true c16
        clear c16
        by_cases c17 : a1 < (a0.size : Int)
        rotate_left
        · rw [if_neg c17] at H; exact absurd H (by simp)
        rw [if_pos c17] at H
        have c17b0 : decide (a1 < (a0.size : Int)) = true := decide_eq_true c17
        clear c17
        replace H := Option.bind_eq_some_iff.mp H
        obtain ⟨t157, A190, H⟩ := H
        replace H : (if t157 = true then (if x6_1 > 1 then ((siglumref01_between.f (bt a0 (ji11)) 128 191).bind fun t158 => (if t158 = true then (siglumref01_fits.l0 kj7 a0 a1 t156 (wrap64 (x6_1 + 1))) else (some x6_1))) else (siglumref01_fits.l0 kj7 a0 a1 t156 (wrap64 (x6_1 + 1)))) else (some x6_1)) = some r := H
        have A19 := Aside0.mk A190
        clear A190
        by_cases c20 : t157 = true
        ·
         subst c20
         have H1 : (if x6_1 > 1 then ((siglumref01_between.f (bt a0 (ji11)) 128 191).bind fun t158 => (if t158 = true then (siglumref01_fits.l0 kj7 a0 a1 t156 (wrap64 (x6_1 + 1))) else (some x6_1))) else (siglumref01_fits.l0 kj7 a0 a1 t156 (wrap64 (x6_1 + 1)))) = some r := by rw [if_pos rfl] at H; exact H
         clear H
         have H := H1
         clear H1
         by_cases c21 : x6_1 > 1
         ·
          rw [if_pos c21] at H
          have c21b0 : decide (1 < x6_1) = true := decide_eq_true c21
          clear c21
          replace H := Option.bind_eq_some_iff.mp H
          obtain ⟨t158, A220, H⟩ := H
          replace H : (if t158 = true then (siglumref01_fits.l0 kj7 a0 a1 t156 (wrap64 (x6_1 + 1))) else (some x6_1)) = some r := H
          have A22 := Aside0.mk A220
          clear A220
          by_cases c23 : t158 = true
          ·
           subst c23
           have H1 : (siglumref01_fits.l0 kj7 a0 a1 t156 (wrap64 (x6_1 + 1))) = some r := by rw [if_pos rfl] at H; exact H
           clear H
           have H := H1
           clear H1
           have H' := Aside0.mk H
           clear H
           have p14 : 0 ≤ ((ji11) : Int) := of_decide_eq_true (by assumption)
           have q14 : (ji11) < (a0.size : Int) := of_decide_eq_true (by assumption)
           have hx14 := bt_at a0 (ji11)
           replace p14 := eq_true p14
           replace q14 := eq_true q14
           have p18 : 0 ≤ (a1 : Int) := of_decide_eq_true (by assumption)
           have q18 : a1 < (a0.size : Int) := of_decide_eq_true (by assumption)
           have hx18 := bt_at a0 a1
           replace p18 := eq_true p18
           replace q18 := eq_true q18
           go_wp2_with (first | (go_at_call 58; (with_reducible refine (siglumref01_second.calls (bt a0 a1) (bt a0 (ji11)) true _ A19.out).mono ?_); rintro e w' ⟨rfl, ⟨nd, rfl⟩⟩) | (go_at_call 57; (with_reducible refine (siglumref01_between.calls (bt a0 (ji11)) 128 191 true _ A22.out).mono ?_); rintro e w' ⟨rfl, ⟨nd, rfl⟩⟩))
           go_roundg kj7
           case measure => have := HK1.out; have := HJ7.out; omega
           case rel => exact ⟨(wrap64 (x6_1 + 1)), (by first | rfl | (simp; done) | (simp [*]; done)), H', ⟨by have := HK1.out; have := HJ7.out; omega⟩, by repeat (first | exact Drawn0.refl _ | apply Drawn0.step)⟩
          ·
           replace c23 := Bool.eq_false_iff.mpr c23
           subst c23
           have H1 : (some x6_1) = some r := by rw [if_neg (show ¬ (false = true) by decide)] at H; exact H
           clear H
           have H := H1
           clear H1
           obtain rfl := Option.some.inj H
           have p14 : 0 ≤ ((ji11) : Int) := of_decide_eq_true (by assumption)
           have q14 : (ji11) < (a0.size : Int) := of_decide_eq_true (by assumption)
           have hx14 := bt_at a0 (ji11)
           replace p14 := eq_true p14
           replace q14 := eq_true q14
           have p18 : 0 ≤ (a1 : Int) := of_decide_eq_true (by assumption)
           have q18 : a1 < (a0.size : Int) := of_decide_eq_true (by assumption)
           have hx18 := bt_at a0 a1
           replace p18 := eq_true p18
           replace q18 := eq_true q18
           go_wp2_with (first | (go_at_call 58; (with_reducible refine (siglumref01_second.calls (bt a0 a1) (bt a0 (ji11)) true _ A19.out).mono ?_); rintro e w' ⟨rfl, ⟨nd, rfl⟩⟩) | (go_at_call 57; (with_reducible refine (siglumref01_between.calls (bt a0 (ji11)) 128 191 false _ A22.out).mono ?_); rintro e w' ⟨rfl, ⟨nd, rfl⟩⟩))
           go_ret
           exact ⟨by first | rfl | (simp; done) | (simp only [← hji11] <;> (first | rfl | simp)) | (simp [*]; done), by repeat (first | exact Drawn0.refl _ | apply Drawn0.step)⟩
         ·
          rw [if_neg c21] at H
          have c21b0 : decide (1 < x6_1) = false := decide_eq_false c21
          clear c21
          have H' := Aside0.mk H
          clear H
          have p14 : 0 ≤ ((ji11) : Int) := of_decide_eq_true (by assumption)
          have q14 : (ji11) < (a0.size : Int) := of_decide_eq_true (by assumption)
          have hx14 := bt_at a0 (ji11)
          replace p14 := eq_true p14
          replace q14 := eq_true q14
          have p18 : 0 ≤ (a1 : Int) := of_decide_eq_true (by assumption)
          have q18 : a1 < (a0.size : Int) := of_decide_eq_true (by assumption)
          have hx18 := bt_at a0 a1
          replace p18 := eq_true p18
          replace q18 := eq_true q18
          go_wp2_with (first | (go_at_call 58; (with_reducible refine (siglumref01_second.calls (bt a0 a1) (bt a0 (ji11)) true _ A19.out).mono ?_); rintro e w' ⟨rfl, ⟨nd, rfl⟩⟩))
          go_roundg kj7
          case measure => have := HK1.out; have := HJ7.out; omega
          case rel => exact ⟨(wrap64 (x6_1 + 1)), (by first | rfl | (simp; done) | (simp [*]; done)), H', ⟨by have := HK1.out; have := HJ7.out; omega⟩, by repeat (first | exact Drawn0.refl _ | apply Drawn0.step)⟩
        ·
         replace c20 := Bool.eq_false_iff.mpr c20
         subst c20
         have H1 : (some x6_1) = some r := by rw [if_neg (show ¬ (false = true) by decide)] at H; exact H
         clear H
         have H := H1
         clear H1
         obtain rfl := Option.some.inj H
         have p14 : 0 ≤ ((ji11) : Int) := of_decide_eq_true (by assumption)
         have q14 : (ji11) < (a0.size : Int) := of_decide_eq_true (by assumption)
         have hx14 := bt_at a0 (ji11)
         replace p14 := eq_true p14
         replace q14 := eq_true q14
         have p18 : 0 ≤ (a1 : Int) := of_decide_eq_true (by assumption)
         have q18 : a1 < (a0.size : Int) := of_decide_eq_true (by assumption)
         have hx18 := bt_at a0 a1
         replace p18 := eq_true p18
         replace q18 := eq_true q18
         go_wp2_with (first | (go_at_call 58; (with_reducible refine (siglumref01_second.calls (bt a0 a1) (bt a0 (ji11)) false _ A19.out).mono ?_); rintro e w' ⟨rfl, ⟨nd, rfl⟩⟩))
         go_ret
         exact ⟨by first | rfl | (simp; done) | (simp only [← hji11] <;> (first | rfl | simp)) | (simp [*]; done), by repeat (first | exact Drawn0.refl _ | apply Drawn0.step)⟩
       ·
        rw [if_neg c15] at H
        have c15b0 : (x6_1 == 1) = false := beq_eq_false_iff_ne.mpr c15
        have c15b1 : (x6_1 != 1) = true := bne_iff_ne.mpr c15
        by_cases c24 : x6_1 > 1
        ·
         rw [if_pos c24] at H
         have c24b0 : decide (1 < x6_1) = true := decide_eq_true c24
         clear c24
         replace H := Option.bind_eq_some_iff.mp H
         obtain ⟨t159, A250, H⟩ := H
         replace H : (if t159 = true then (siglumref01_fits.l0 kj7 a0 a1 t156 (wrap64 (x6_1 + 1))) else (some x6_1)) = some r := H
         have A25 := Aside0.mk A250
         clear A250
         by_cases c26 : t159 = true
         ·
          subst c26
          have H1 : (siglumref01_fits.l0 kj7 a0 a1 t156 (wrap64 (x6_1 + 1))) = some r := by rw [if_pos rfl] at H; exact H
          clear H
          have H := H1
          clear H1
          have H' := Aside0.mk H
          clear H
          have p14 : 0 ≤ ((ji11) : Int) := of_decide_eq_true (by assumption)
          have q14 : (ji11) < (a0.size : Int) := of_decide_eq_true (by assumption)
          have hx14 := bt_at a0 (ji11)
          replace p14 := eq_true p14
          replace q14 := eq_true q14
          go_wp2_with (first | (go_at_call 57; (with_reducible refine (siglumref01_between.calls (bt a0 (ji11)) 128 191 true _ A25.out).mono ?_); rintro e w' ⟨rfl, ⟨nd, rfl⟩⟩))
          go_roundg kj7
          case measure => have := HK1.out; have := HJ7.out; omega
          case rel => exact ⟨(wrap64 (x6_1 + 1)), (by first | rfl | (simp; done) | (simp [*]; done)), H', ⟨by have := HK1.out; have := HJ7.out; omega⟩, by repeat (first | exact Drawn0.refl _ | apply Drawn0.step)⟩
         ·
          replace c26 := Bool.eq_false_iff.mpr c26
          subst c26
          have H1 : (some x6_1) = some r := by rw [if_neg (show ¬ (false = true) by decide)] at H; exact H
          clear H
          have H := H1
          clear H1
          obtain rfl := Option.some.inj H
          have p14 : 0 ≤ ((ji11) : Int) := of_decide_eq_true (by assumption)
          have q14 : (ji11) < (a0.size : Int) := of_decide_eq_true (by assumption)
          have hx14 := bt_at a0 (ji11)
          replace p14 := eq_true p14
          replace q14 := eq_true q14
          go_wp2_with (first | (go_at_call 57; (with_reducible refine (siglumref01_between.calls (bt a0 (ji11)) 128 191 false _ A25.out).mono ?_); rintro e w' ⟨rfl, ⟨nd, rfl⟩⟩))
          go_ret
          exact ⟨by first | rfl | (simp; done) | (simp only [← hji11] <;> (first | rfl | simp)) | (simp [*]; done), by repeat (first | exact Drawn0.refl _ | apply Drawn0.step)⟩
        ·
         rw [if_neg c24] at H
         have c24b0 : decide (1 < x6_1) = false := decide_eq_false c24
         clear c24
         have H' := Aside0.mk H
         clear H
         have p14 : 0 ≤ ((ji11) : Int) := of_decide_eq_true (by assumption)
         have q14 : (ji11) < (a0.size : Int) := of_decide_eq_true (by assumption)
         have hx14 := bt_at a0 (ji11)
         replace p14 := eq_true p14
         replace q14 := eq_true q14
         go_wp2
         go_roundg kj7
         case measure => have := HK1.out; have := HJ7.out; omega
         case rel => exact ⟨(wrap64 (x6_1 + 1)), (by first | rfl | (simp; done) | (simp [*]; done)), H', ⟨by have := HK1.out; have := HJ7.out; omega⟩, by repeat (first | exact Drawn0.refl _ | apply Drawn0.step)⟩
      ·
       replace c10 := Bool.eq_false_iff.mpr c10
       subst c10
       have H1 : (some x6_1) = some r := by rw [if_neg (show ¬ (false = true) by decide)] at H; exact H
       clear H
       have H := H1
       clear H1
       obtain rfl := Option.some.inj H
       go_wp2
       go_ret
       exact ⟨by first | rfl | (simp; done) | (simp [*]; done), by repeat (first | exact Drawn0.refl _ | apply Drawn0.step)⟩

end Go.Proofs.YtalogampkkjcdaaDoor.P
