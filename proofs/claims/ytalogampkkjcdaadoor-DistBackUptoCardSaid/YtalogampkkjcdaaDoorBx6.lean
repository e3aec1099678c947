-- Printed by hprint.py (this session's program over the kit's print) out of the translation; the parts 'by hand' are the session's own.
import Derived.Test.YtalogampkkjcdaaDoorBx0
import Derived.Test.YtalogampkkjcdaaDoorBx1
import Derived.Test.YtalogampkkjcdaaDoorBx4
import Derived.Test.YtalogampkkjcdaaDoorBx5
namespace Go.Proofs.YtalogampkkjcdaaDoor.B
open Go.RowKit Go.Proofs.YtalogampkkjcdaaDoorW.PrintWords Go.Proofs.YtalogampkkjcdaaDoorW.PrintLast Go.Proofs.YtalogampkkjcdaaDoorW.PrintMore
attribute [local go_sem] max2_int min2_int max_two min_two max_three min_three max_four min_four   -- for this text's walks alone
set_option linter.unusedVariables false
set_option linter.unusedSimpArgs false

attribute [local go_sem high] eqA30
/-! ### siglumlaw08_awake: function 15 -/
def siglumlaw08_awake.f (k : Nat)  : Option (Bool) := (dist_Of.f k (⟨#[195, 169, 255]⟩ : ByteArray) (⟨#[101, 239, 191, 189]⟩ : ByteArray)).bind fun bt141 => ((dist_Path.f k (⟨#[99, 97, 116]⟩ : ByteArray) (⟨#[99, 97, 114, 116]⟩ : ByteArray)).bind fun bt143 => (if bt141.1 = 2 then (if bt141.2 = 0 then (if bt143.2 = 0 then (if (bt143.1.length : Int) = 4 then (if 2 < (bt143.1.length : Int) then (some (((rd_T30 bt143.1 2).f0) == 4 && ((((rd_T30 bt143.1 2).f1).toList) == ([114] : List UInt8)))) else (none)) else (some false)) else (some false)) else (some false)) else (some false)))
theorem siglumlaw08_awake.mono : ∀ k, LeO (siglumlaw08_awake.f k ) (siglumlaw08_awake.f (k + 1) ) := by
  intro  k
  unfold siglumlaw08_awake.f
  repeat' first
      | (with_reducible exact dist_Of.mono _ _ _)
      | (with_reducible exact dist_Path.mono _ _ _)
      | (with_reducible exact LeO.refl _)
      | (with_reducible exact LeO.none _)
      | (with_reducible refine LeO.ite ?_ ?_)
      | (with_reducible refine LeO.bind ?_ (fun _ => ?_))
      | exact dist_Of.mono _ _ _
      | exact dist_Path.mono _ _ _
      | exact LeO.none _
      | refine LeO.ite ?_ ?_
      | refine LeO.bind ?_ (fun _ => ?_)
set_option maxHeartbeats 8000000 in
set_option maxRecDepth 100000 in
theorem siglumlaw08_awake.calls (k : Nat)  (r : Bool) (w : World) (hT : Lib.Utf8Tabs 0 1 w) (h : siglumlaw08_awake.f k  = some r) :
    Calls Tryd.prog 15 #[] w fun e w' => e = .returned (.bool r) ∧ Below w.heap.size w w' := by
  have hu30 := Tryd.underlying30
  have HT := Aside0.mk hT
  clear hT
  have HB := Aside0.mk (Below.refl w.heap.size w)
  have H : ((dist_Of.f k (⟨#[195, 169, 255]⟩ : ByteArray) (⟨#[101, 239, 191, 189]⟩ : ByteArray)).bind fun bt141 => ((dist_Path.f k (⟨#[99, 97, 116]⟩ : ByteArray) (⟨#[99, 97, 114, 116]⟩ : ByteArray)).bind fun bt143 => (if bt141.1 = 2 then (if bt141.2 = 0 then (if bt143.2 = 0 then (if (bt143.1.length : Int) = 4 then (if 2 < (bt143.1.length : Int) then (some (((rd_T30 bt143.1 2).f0) == 4 && ((((rd_T30 bt143.1 2).f1).toList) == ([114] : List UInt8)))) else (none)) else (some false)) else (some false)) else (some false)) else (some false)))) = some r := h
  clear h
  replace H := Option.bind_eq_some_iff.mp H
  obtain ⟨⟨t141, t142⟩, A10, H⟩ := H
  replace H : ((dist_Path.f k (⟨#[99, 97, 116]⟩ : ByteArray) (⟨#[99, 97, 114, 116]⟩ : ByteArray)).bind fun bt143 => (if t141 = 2 then (if t142 = 0 then (if bt143.2 = 0 then (if (bt143.1.length : Int) = 4 then (if 2 < (bt143.1.length : Int) then (some (((rd_T30 bt143.1 2).f0) == 4 && ((((rd_T30 bt143.1 2).f1).toList) == ([114] : List UInt8)))) else (none)) else (some false)) else (some false)) else (some false)) else (some false))) = some r := H
  have A1 := Aside0.mk A10
  clear A10
  replace H := Option.bind_eq_some_iff.mp H
  obtain ⟨⟨t143, t144⟩, A20, H⟩ := H
  replace H : (if t141 = 2 then (if t142 = 0 then (if t144 = 0 then (if (t143.length : Int) = 4 then (if 2 < (t143.length : Int) then (some (((rd_T30 t143 2).f0) == 4 && ((((rd_T30 t143 2).f1).toList) == ([114] : List UInt8)))) else (none)) else (some false)) else (some false)) else (some false)) else (some false)) = some r := H
  have A2 := Aside0.mk A20
  clear A20
  by_cases c3 : t141 = 2
  · rw [if_pos c3] at H
    have c3b0 : (t141 == 2) = true := beq_iff_eq.mpr c3
    have c3b1 : (t141 != 2) = false := bne_eq_false_iff_eq.mpr c3
    clear c3
    by_cases c4 : t142 = 0
    · rw [if_pos c4] at H
      have c4b0 : (t142 == 0) = true := beq_iff_eq.mpr c4
      have c4b1 : (t142 != 0) = false := bne_eq_false_iff_eq.mpr c4
      clear c4
      by_cases c5 : t144 = 0
      · rw [if_pos c5] at H
        have c5b0 : (t144 == 0) = true := beq_iff_eq.mpr c5
        have c5b1 : (t144 != 0) = false := bne_eq_false_iff_eq.mpr c5
        clear c5
        by_cases c6 : (t143.length : Int) = 4
        · rw [if_pos c6] at H
          have c6b0 : ((t143.length : Int) == 4) = true := beq_iff_eq.mpr c6
          have c6b1 : ((t143.length : Int) != 4) = false := bne_eq_false_iff_eq.mpr c6
          clear c6
          by_cases c7 : 2 < (t143.length : Int)
          · rw [if_pos c7] at H
            have c7b0 : decide (2 < (t143.length : Int)) = true := decide_eq_true c7
            have c7b1 : decide (2 < t143.length) = true := decide_eq_true (by omega)
            clear c7
            obtain rfl := Option.some.inj H
            go_enter Tryd.func15, Tryd.ntmps15
            go_wp2_with (first | ((with_reducible refine gate_callee (f := 19) rfl ?_); refine goesL_ (some 6) rfl rfl Tryd.func19 (by kernel_rfl) rfl #[.string (⟨#[195, 169, 255]⟩ : ByteArray), .string (⟨#[101, 239, 191, 189]⟩ : ByteArray)] rfl (by (try simp only [List.map_toArray, List.map_cons, List.map_nil]); first | done | rfl | (simp only [List.length_drop, List.length_take]; rfl)) ?_; (with_reducible refine (dist_Of.calls k (⟨#[195, 169, 255]⟩ : ByteArray) (⟨#[101, 239, 191, 189]⟩ : ByteArray) t141 t142 _ ?side1 A1.out).mono ?_); (case side1 => exact Utf.tabs_step HT.out (by repeat (first | (with_reducible first | exact HB.out | apply below_alloc | apply pw_below_drewN | apply below_drew1) | exact HB.out))); rintro e w8 ⟨rfl, hb⟩; refine ⟨_, rfl, ?_⟩; have n0_ := Aside0.mk (below_step (by repeat (first | (with_reducible first | exact HB.out | apply below_alloc | apply pw_below_drewN | apply below_drew1) | exact HB.out)) hb); clear HB; have HB := n0_; clear n0_; (try clear hb); (try clear hb2); (try clear hk); (try clear hi)) | ((with_reducible refine gate_callee (f := 16) rfl ?_); refine goesL_ (some 10) rfl rfl Tryd.func16 (by kernel_rfl) rfl #[.string (⟨#[99, 97, 116]⟩ : ByteArray), .string (⟨#[99, 97, 114, 116]⟩ : ByteArray)] rfl (by (try simp only [List.map_toArray, List.map_cons, List.map_nil]); first | done | rfl | (simp only [List.length_drop, List.length_take]; rfl)) ?_; (with_reducible refine (dist_Path.calls k (⟨#[99, 97, 116]⟩ : ByteArray) (⟨#[99, 97, 114, 116]⟩ : ByteArray) t143 t144 _ ?side1 A2.out).mono ?_); (case side1 => exact Utf.tabs_step HT.out (by repeat (first | (with_reducible first | exact HB.out | apply below_alloc | apply pw_below_drewN | apply below_drew1) | exact HB.out))); rintro e w9 ⟨v145, rfl, ho0, hb⟩; refine ⟨_, rfl, ?_⟩; have n0_ := Aside0.mk (Kd.R_lower ho0 (below_size (by repeat (first | (with_reducible first | exact HB.out | apply below_alloc | apply pw_below_drewN | apply below_drew1) | exact HB.out)))); have n1_ := Aside0.mk (below_step (by repeat (first | (with_reducible first | exact HB.out | apply below_alloc | apply pw_below_drewN | apply below_drew1) | exact HB.out)) hb); clear HB; have HO146 := n0_; have HB := n1_; clear n0_ n1_; (try clear hb); (try clear hb2); (try clear hk); (try clear hi); (try clear ho0); obtain ⟨Ao10, co10, eo10⟩ := Kd.R_slice HO146.out; subst eo10; have p147 : 0 ≤ (2 : Int) := (by omega); have q147 : 2 < (t143.length : Int) := of_decide_eq_true (by first | (with_reducible assumption) | assumption); obtain ⟨ad147, e147, hx147_0, hx147_1⟩ := at_T30 (Kd.R_reads' HO146.out).2.2 2 p147 q147; cases e147; (try simp only [show (2 : Int).toNat = 2 from rfl, Nat.reduceMul, Nat.reduceEqDiff, Go.Addr.add, ↓reduceIte] at hx147_0); (try simp only [show (2 : Int).toNat = 2 from rfl, Nat.reduceMul, Nat.reduceEqDiff, Go.Addr.add, ↓reduceIte] at hx147_1); have qi147 : (2 < t143.length) = True := eq_true (by omega); (try rw [show ((2 : Int)).toNat = 2 from rfl] at hx147_0); (try rw [show 2 * 2 = 4 from rfl] at hx147_0); (try rw [show ((2 : Int)).toNat = 2 from rfl] at hx147_1); (try rw [show 2 * 2 = 4 from rfl] at hx147_1); replace p147 := eq_true p147; replace q147 := eq_true q147))
            go_ret
            exact ⟨by first | rfl | (simp [errW_none, errW_some] <;> rfl) | (simp [*, errW_none, errW_some] <;> rfl), by repeat (first | (with_reducible first | exact HB.out | apply below_alloc | apply pw_below_drewN | apply below_drew1) | exact HB.out)⟩
          · rw [if_neg c7] at H
            exact absurd H (by simp)
        · rw [if_neg c6] at H
          have c6b0 : ((t143.length : Int) == 4) = false := beq_eq_false_iff_ne.mpr c6
          have c6b1 : ((t143.length : Int) != 4) = true := bne_iff_ne.mpr c6
          obtain rfl := Option.some.inj H
          go_enter Tryd.func15, Tryd.ntmps15
          go_wp2_with (first | ((with_reducible refine gate_callee (f := 19) rfl ?_); refine goesL_ (some 6) rfl rfl Tryd.func19 (by kernel_rfl) rfl #[.string (⟨#[195, 169, 255]⟩ : ByteArray), .string (⟨#[101, 239, 191, 189]⟩ : ByteArray)] rfl (by (try simp only [List.map_toArray, List.map_cons, List.map_nil]); first | done | rfl | (simp only [List.length_drop, List.length_take]; rfl)) ?_; (with_reducible refine (dist_Of.calls k (⟨#[195, 169, 255]⟩ : ByteArray) (⟨#[101, 239, 191, 189]⟩ : ByteArray) t141 t142 _ ?side1 A1.out).mono ?_); (case side1 => exact Utf.tabs_step HT.out (by repeat (first | (with_reducible first | exact HB.out | apply below_alloc | apply pw_below_drewN | apply below_drew1) | exact HB.out))); rintro e w11 ⟨rfl, hb⟩; refine ⟨_, rfl, ?_⟩; have n0_ := Aside0.mk (below_step (by repeat (first | (with_reducible first | exact HB.out | apply below_alloc | apply pw_below_drewN | apply below_drew1) | exact HB.out)) hb); clear HB; have HB := n0_; clear n0_; (try clear hb); (try clear hb2); (try clear hk); (try clear hi)) | ((with_reducible refine gate_callee (f := 16) rfl ?_); refine goesL_ (some 10) rfl rfl Tryd.func16 (by kernel_rfl) rfl #[.string (⟨#[99, 97, 116]⟩ : ByteArray), .string (⟨#[99, 97, 114, 116]⟩ : ByteArray)] rfl (by (try simp only [List.map_toArray, List.map_cons, List.map_nil]); first | done | rfl | (simp only [List.length_drop, List.length_take]; rfl)) ?_; (with_reducible refine (dist_Path.calls k (⟨#[99, 97, 116]⟩ : ByteArray) (⟨#[99, 97, 114, 116]⟩ : ByteArray) t143 t144 _ ?side1 A2.out).mono ?_); (case side1 => exact Utf.tabs_step HT.out (by repeat (first | (with_reducible first | exact HB.out | apply below_alloc | apply pw_below_drewN | apply below_drew1) | exact HB.out))); rintro e w12 ⟨v145, rfl, ho0, hb⟩; refine ⟨_, rfl, ?_⟩; have n0_ := Aside0.mk (Kd.R_lower ho0 (below_size (by repeat (first | (with_reducible first | exact HB.out | apply below_alloc | apply pw_below_drewN | apply below_drew1) | exact HB.out)))); have n1_ := Aside0.mk (below_step (by repeat (first | (with_reducible first | exact HB.out | apply below_alloc | apply pw_below_drewN | apply below_drew1) | exact HB.out)) hb); clear HB; have HO146 := n0_; have HB := n1_; clear n0_ n1_; (try clear hb); (try clear hb2); (try clear hk); (try clear hi); (try clear ho0); obtain ⟨Ao13, co13, eo13⟩ := Kd.R_slice HO146.out; subst eo13))
          go_ret
          exact ⟨by first | rfl | (simp [errW_none, errW_some] <;> rfl) | (simp [*, errW_none, errW_some] <;> rfl), by repeat (first | (with_reducible first | exact HB.out | apply below_alloc | apply pw_below_drewN | apply below_drew1) | exact HB.out)⟩
      · rw [if_neg c5] at H
        have c5b0 : (t144 == 0) = false := beq_eq_false_iff_ne.mpr c5
        have c5b1 : (t144 != 0) = true := bne_iff_ne.mpr c5
        obtain rfl := Option.some.inj H
        go_enter Tryd.func15, Tryd.ntmps15
        go_wp2_with (first | ((with_reducible refine gate_callee (f := 19) rfl ?_); refine goesL_ (some 6) rfl rfl Tryd.func19 (by kernel_rfl) rfl #[.string (⟨#[195, 169, 255]⟩ : ByteArray), .string (⟨#[101, 239, 191, 189]⟩ : ByteArray)] rfl (by (try simp only [List.map_toArray, List.map_cons, List.map_nil]); first | done | rfl | (simp only [List.length_drop, List.length_take]; rfl)) ?_; (with_reducible refine (dist_Of.calls k (⟨#[195, 169, 255]⟩ : ByteArray) (⟨#[101, 239, 191, 189]⟩ : ByteArray) t141 t142 _ ?side1 A1.out).mono ?_); (case side1 => exact Utf.tabs_step HT.out (by repeat (first | (with_reducible first | exact HB.out | apply below_alloc | apply pw_below_drewN | apply below_drew1) | exact HB.out))); rintro e w14 ⟨rfl, hb⟩; refine ⟨_, rfl, ?_⟩; have n0_ := Aside0.mk (below_step (by repeat (first | (with_reducible first | exact HB.out | apply below_alloc | apply pw_below_drewN | apply below_drew1) | exact HB.out)) hb); clear HB; have HB := n0_; clear n0_; (try clear hb); (try clear hb2); (try clear hk); (try clear hi)) | ((with_reducible refine gate_callee (f := 16) rfl ?_); refine goesL_ (some 10) rfl rfl Tryd.func16 (by kernel_rfl) rfl #[.string (⟨#[99, 97, 116]⟩ : ByteArray), .string (⟨#[99, 97, 114, 116]⟩ : ByteArray)] rfl (by (try simp only [List.map_toArray, List.map_cons, List.map_nil]); first | done | rfl | (simp only [List.length_drop, List.length_take]; rfl)) ?_; (with_reducible refine (dist_Path.calls k (⟨#[99, 97, 116]⟩ : ByteArray) (⟨#[99, 97, 114, 116]⟩ : ByteArray) t143 t144 _ ?side1 A2.out).mono ?_); (case side1 => exact Utf.tabs_step HT.out (by repeat (first | (with_reducible first | exact HB.out | apply below_alloc | apply pw_below_drewN | apply below_drew1) | exact HB.out))); rintro e w15 ⟨v145, rfl, ho0, hb⟩; refine ⟨_, rfl, ?_⟩; have n0_ := Aside0.mk (Kd.R_lower ho0 (below_size (by repeat (first | (with_reducible first | exact HB.out | apply below_alloc | apply pw_below_drewN | apply below_drew1) | exact HB.out)))); have n1_ := Aside0.mk (below_step (by repeat (first | (with_reducible first | exact HB.out | apply below_alloc | apply pw_below_drewN | apply below_drew1) | exact HB.out)) hb); clear HB; have HO146 := n0_; have HB := n1_; clear n0_ n1_; (try clear hb); (try clear hb2); (try clear hk); (try clear hi); (try clear ho0)))
        go_ret
        exact ⟨by first | rfl | (simp [errW_none, errW_some] <;> rfl) | (simp [*, errW_none, errW_some] <;> rfl), by repeat (first | (with_reducible first | exact HB.out | apply below_alloc | apply pw_below_drewN | apply below_drew1) | exact HB.out)⟩
    · rw [if_neg c4] at H
      have c4b0 : (t142 == 0) = false := beq_eq_false_iff_ne.mpr c4
      have c4b1 : (t142 != 0) = true := bne_iff_ne.mpr c4
      obtain rfl := Option.some.inj H
      go_enter Tryd.func15, Tryd.ntmps15
      go_wp2_with (first | ((with_reducible refine gate_callee (f := 19) rfl ?_); refine goesL_ (some 6) rfl rfl Tryd.func19 (by kernel_rfl) rfl #[.string (⟨#[195, 169, 255]⟩ : ByteArray), .string (⟨#[101, 239, 191, 189]⟩ : ByteArray)] rfl (by (try simp only [List.map_toArray, List.map_cons, List.map_nil]); first | done | rfl | (simp only [List.length_drop, List.length_take]; rfl)) ?_; (with_reducible refine (dist_Of.calls k (⟨#[195, 169, 255]⟩ : ByteArray) (⟨#[101, 239, 191, 189]⟩ : ByteArray) t141 t142 _ ?side1 A1.out).mono ?_); (case side1 => exact Utf.tabs_step HT.out (by repeat (first | (with_reducible first | exact HB.out | apply below_alloc | apply pw_below_drewN | apply below_drew1) | exact HB.out))); rintro e w16 ⟨rfl, hb⟩; refine ⟨_, rfl, ?_⟩; have n0_ := Aside0.mk (below_step (by repeat (first | (with_reducible first | exact HB.out | apply below_alloc | apply pw_below_drewN | apply below_drew1) | exact HB.out)) hb); clear HB; have HB := n0_; clear n0_; (try clear hb); (try clear hb2); (try clear hk); (try clear hi)) | ((with_reducible refine gate_callee (f := 16) rfl ?_); refine goesL_ (some 10) rfl rfl Tryd.func16 (by kernel_rfl) rfl #[.string (⟨#[99, 97, 116]⟩ : ByteArray), .string (⟨#[99, 97, 114, 116]⟩ : ByteArray)] rfl (by (try simp only [List.map_toArray, List.map_cons, List.map_nil]); first | done | rfl | (simp only [List.length_drop, List.length_take]; rfl)) ?_; (with_reducible refine (dist_Path.calls k (⟨#[99, 97, 116]⟩ : ByteArray) (⟨#[99, 97, 114, 116]⟩ : ByteArray) t143 t144 _ ?side1 A2.out).mono ?_); (case side1 => exact Utf.tabs_step HT.out (by repeat (first | (with_reducible first | exact HB.out | apply below_alloc | apply pw_below_drewN | apply below_drew1) | exact HB.out))); rintro e w17 ⟨v145, rfl, ho0, hb⟩; refine ⟨_, rfl, ?_⟩; have n0_ := Aside0.mk (Kd.R_lower ho0 (below_size (by repeat (first | (with_reducible first | exact HB.out | apply below_alloc | apply pw_below_drewN | apply below_drew1) | exact HB.out)))); have n1_ := Aside0.mk (below_step (by repeat (first | (with_reducible first | exact HB.out | apply below_alloc | apply pw_below_drewN | apply below_drew1) | exact HB.out)) hb); clear HB; have HO146 := n0_; have HB := n1_; clear n0_ n1_; (try clear hb); (try clear hb2); (try clear hk); (try clear hi); (try clear ho0)))
      go_ret
      exact ⟨by first | rfl | (simp [errW_none, errW_some] <;> rfl) | (simp [*, errW_none, errW_some] <;> rfl), by repeat (first | (with_reducible first | exact HB.out | apply below_alloc | apply pw_below_drewN | apply below_drew1) | exact HB.out)⟩
  · rw [if_neg c3] at H
    have c3b0 : (t141 == 2) = false := beq_eq_false_iff_ne.mpr c3
    have c3b1 : (t141 != 2) = true := bne_iff_ne.mpr c3
    obtain rfl := Option.some.inj H
    go_enter Tryd.func15, Tryd.ntmps15
    go_wp2_with (first | ((with_reducible refine gate_callee (f := 19) rfl ?_); refine goesL_ (some 6) rfl rfl Tryd.func19 (by kernel_rfl) rfl #[.string (⟨#[195, 169, 255]⟩ : ByteArray), .string (⟨#[101, 239, 191, 189]⟩ : ByteArray)] rfl (by (try simp only [List.map_toArray, List.map_cons, List.map_nil]); first | done | rfl | (simp only [List.length_drop, List.length_take]; rfl)) ?_; (with_reducible refine (dist_Of.calls k (⟨#[195, 169, 255]⟩ : ByteArray) (⟨#[101, 239, 191, 189]⟩ : ByteArray) t141 t142 _ ?side1 A1.out).mono ?_); (case side1 => exact Utf.tabs_step HT.out (by repeat (first | (with_reducible first | exact HB.out | apply below_alloc | apply pw_below_drewN | apply below_drew1) | exact HB.out))); rintro e w18 ⟨rfl, hb⟩; refine ⟨_, rfl, ?_⟩; have n0_ := Aside0.mk (below_step (by repeat (first | (with_reducible first | exact HB.out | apply below_alloc | apply pw_below_drewN | apply below_drew1) | exact HB.out)) hb); clear HB; have HB := n0_; clear n0_; (try clear hb); (try clear hb2); (try clear hk); (try clear hi)) | ((with_reducible refine gate_callee (f := 16) rfl ?_); refine goesL_ (some 10) rfl rfl Tryd.func16 (by kernel_rfl) rfl #[.string (⟨#[99, 97, 116]⟩ : ByteArray), .string (⟨#[99, 97, 114, 116]⟩ : ByteArray)] rfl (by (try simp only [List.map_toArray, List.map_cons, List.map_nil]); first | done | rfl | (simp only [List.length_drop, List.length_take]; rfl)) ?_; (with_reducible refine (dist_Path.calls k (⟨#[99, 97, 116]⟩ : ByteArray) (⟨#[99, 97, 114, 116]⟩ : ByteArray) t143 t144 _ ?side1 A2.out).mono ?_); (case side1 => exact Utf.tabs_step HT.out (by repeat (first | (with_reducible first | exact HB.out | apply below_alloc | apply pw_below_drewN | apply below_drew1) | exact HB.out))); rintro e w19 ⟨v145, rfl, ho0, hb⟩; refine ⟨_, rfl, ?_⟩; have n0_ := Aside0.mk (Kd.R_lower ho0 (below_size (by repeat (first | (with_reducible first | exact HB.out | apply below_alloc | apply pw_below_drewN | apply below_drew1) | exact HB.out)))); have n1_ := Aside0.mk (below_step (by repeat (first | (with_reducible first | exact HB.out | apply below_alloc | apply pw_below_drewN | apply below_drew1) | exact HB.out)) hb); clear HB; have HO146 := n0_; have HB := n1_; clear n0_ n1_; (try clear hb); (try clear hb2); (try clear hk); (try clear hi); (try clear ho0)))
    go_ret
    exact ⟨by first | rfl | (simp [errW_none, errW_some] <;> rfl) | (simp [*, errW_none, errW_some] <;> rfl), by repeat (first | (with_reducible first | exact HB.out | apply below_alloc | apply pw_below_drewN | apply below_drew1) | exact HB.out)⟩

end Go.Proofs.YtalogampkkjcdaaDoor.B
