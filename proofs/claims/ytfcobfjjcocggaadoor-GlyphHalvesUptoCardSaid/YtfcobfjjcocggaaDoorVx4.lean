-- Printed by hprint.py (this session's program over the kit's print) out of the translation; the parts 'by hand' are the session's own.
import Derived.Test.YtfcobfjjcocggaaDoorVx0
import Derived.Test.YtfcobfjjcocggaaDoorVx1
import Derived.Test.YtfcobfjjcocggaaDoorVx2
import Derived.Test.YtfcobfjjcocggaaDoorVx3
namespace Go.Proofs.YtfcobfjjcocggaaDoor.V
open Go.RowKit Go.Proofs.YtfcobfjjcocggaaDoorW.PrintWords Go.Proofs.YtfcobfjjcocggaaDoorW.PrintLast Go.Proofs.YtfcobfjjcocggaaDoorW.PrintMore
attribute [local go_sem] max2_int min2_int max_two min_two max_three min_three max_four min_four   -- for this text's walks alone
set_option linter.unusedVariables false
set_option linter.unusedSimpArgs false

attribute [local go_sem high] eqA30
/-! ### siglumlaw01_awake: function 13 -/
def siglumlaw01_awake.f  : Option (Bool) := (glyph_Cells.f (⟨#[195, 169, 255]⟩ : ByteArray)).bind fun t101 => (if (t101.length : Int) = 2 then (if 0 < (t101.length : Int) then (if (((rd_T30 t101 0).f0) == 0 && (((rd_T30 t101 0).f1) == 2 && (((rd_T30 t101 0).f2) == 233 && (!((rd_T30 t101 0).f3) && (((rd_T30 t101 0).f4) == 0))))) = true then (if 1 < (t101.length : Int) then (if (((rd_T30 t101 1).f0) == 2 && (((rd_T30 t101 1).f1) == 1 && (((rd_T30 t101 1).f2) == 65533 && (((rd_T30 t101 1).f3) && (((rd_T30 t101 1).f4) == 255))))) = true then ((glyph_Text.f t101).bind fun t106 => (some (t106.toList == ([195, 169, 255] : List UInt8)))) else (some false)) else (none)) else (some false)) else (none)) else (some false))
set_option maxHeartbeats 8000000 in
set_option maxRecDepth 100000 in
theorem siglumlaw01_awake.calls  (r : Bool) (w : World) (hT : Lib.Utf8Tabs 0 1 w) (h : siglumlaw01_awake.f  = some r) :
    Calls Tryd.prog 13 #[] w fun e w' => e = .returned (.bool r) ∧ Below w.heap.size w w' := by
  have hu30 := Tryd.underlying30
  have HT := Aside0.mk hT
  clear hT
  have HB := Aside0.mk (Below.refl w.heap.size w)
  have H : ((glyph_Cells.f (⟨#[195, 169, 255]⟩ : ByteArray)).bind fun t101 => (if (t101.length : Int) = 2 then (if 0 < (t101.length : Int) then (if (((rd_T30 t101 0).f0) == 0 && (((rd_T30 t101 0).f1) == 2 && (((rd_T30 t101 0).f2) == 233 && (!((rd_T30 t101 0).f3) && (((rd_T30 t101 0).f4) == 0))))) = true then (if 1 < (t101.length : Int) then (if (((rd_T30 t101 1).f0) == 2 && (((rd_T30 t101 1).f1) == 1 && (((rd_T30 t101 1).f2) == 65533 && (((rd_T30 t101 1).f3) && (((rd_T30 t101 1).f4) == 255))))) = true then ((glyph_Text.f t101).bind fun t106 => (some (t106.toList == ([195, 169, 255] : List UInt8)))) else (some false)) else (none)) else (some false)) else (none)) else (some false))) = some r := h
  clear h
  replace H := Option.bind_eq_some_iff.mp H
  obtain ⟨t101, A10, H⟩ := H
  replace H : (if (t101.length : Int) = 2 then (if 0 < (t101.length : Int) then (if (((rd_T30 t101 0).f0) == 0 && (((rd_T30 t101 0).f1) == 2 && (((rd_T30 t101 0).f2) == 233 && (!((rd_T30 t101 0).f3) && (((rd_T30 t101 0).f4) == 0))))) = true then (if 1 < (t101.length : Int) then (if (((rd_T30 t101 1).f0) == 2 && (((rd_T30 t101 1).f1) == 1 && (((rd_T30 t101 1).f2) == 65533 && (((rd_T30 t101 1).f3) && (((rd_T30 t101 1).f4) == 255))))) = true then ((glyph_Text.f t101).bind fun t106 => (some (t106.toList == ([195, 169, 255] : List UInt8)))) else (some false)) else (none)) else (some false)) else (none)) else (some false)) = some r := H
  have A1 := Aside0.mk A10
  clear A10
  by_cases c2 : (t101.length : Int) = 2
  · rw [if_pos c2] at H
    have c2b0 : ((t101.length : Int) == 2) = true := beq_iff_eq.mpr c2
    have c2b1 : ((t101.length : Int) != 2) = false := bne_eq_false_iff_eq.mpr c2
    clear c2
    by_cases c3 : 0 < (t101.length : Int)
    · rw [if_pos c3] at H
      have c3b0 : decide (0 < (t101.length : Int)) = true := decide_eq_true c3
      have c3b1 : decide (0 < t101.length) = true := decide_eq_true (by omega)
      clear c3
      by_cases c4 : (((rd_T30 t101 0).f0) == 0 && (((rd_T30 t101 0).f1) == 2 && (((rd_T30 t101 0).f2) == 233 && (!((rd_T30 t101 0).f3) && (((rd_T30 t101 0).f4) == 0))))) = true
      · rw [if_pos c4] at H
        have c4b0 : (((rd_T30 t101 0).f0) == 0 && (((rd_T30 t101 0).f1) == 2 && (((rd_T30 t101 0).f2) == 233 && (!((rd_T30 t101 0).f3) && (((rd_T30 t101 0).f4) == 0))))) = true := c4
        (try (have c4b1 : decide (((rd_T30 t101 0).f0) = 0 && (((rd_T30 t101 0).f1) == 2 && (((rd_T30 t101 0).f2) == 233 && (!((rd_T30 t101 0).f3) && (((rd_T30 t101 0).f4) == 0))))) = true := by simpa using c4))
        (try (have c4b2 : (((rd_T30 t101 0).f0) == 0 && (((rd_T30 t101 0).f1) == 2 && (((rd_T30 t101 0).f2) == 233 && (!((rd_T30 t101 0).f3) && (((rd_T30 t101 0).f4) == 0))))) = true := by simpa using c4))
        clear c4
        by_cases c5 : 1 < (t101.length : Int)
        · rw [if_pos c5] at H
          have c5b0 : decide (1 < (t101.length : Int)) = true := decide_eq_true c5
          have c5b1 : decide (1 < t101.length) = true := decide_eq_true (by omega)
          clear c5
          by_cases c6 : (((rd_T30 t101 1).f0) == 2 && (((rd_T30 t101 1).f1) == 1 && (((rd_T30 t101 1).f2) == 65533 && (((rd_T30 t101 1).f3) && (((rd_T30 t101 1).f4) == 255))))) = true
          · rw [if_pos c6] at H
            have c6b0 : (((rd_T30 t101 1).f0) == 2 && (((rd_T30 t101 1).f1) == 1 && (((rd_T30 t101 1).f2) == 65533 && (((rd_T30 t101 1).f3) && (((rd_T30 t101 1).f4) == 255))))) = true := c6
            (try (have c6b1 : decide (((rd_T30 t101 1).f0) = 2 && (((rd_T30 t101 1).f1) == 1 && (((rd_T30 t101 1).f2) == 65533 && (((rd_T30 t101 1).f3) && (((rd_T30 t101 1).f4) == 255))))) = true := by simpa using c6))
            (try (have c6b2 : (((rd_T30 t101 1).f0) == 2 && (((rd_T30 t101 1).f1) == 1 && (((rd_T30 t101 1).f2) == 65533 && (((rd_T30 t101 1).f3) && (((rd_T30 t101 1).f4) == 255))))) = true := by simpa using c6))
            clear c6
            replace H := Option.bind_eq_some_iff.mp H
            obtain ⟨t106, A70, H⟩ := H
            replace H : (some (t106.toList == ([195, 169, 255] : List UInt8))) = some r := H
            have A7 := Aside0.mk A70
            clear A70
            obtain rfl := Option.some.inj H
            go_enter Tryd.func13, Tryd.ntmps13
            go_wp2_with (first | ((with_reducible refine gate_callee (f := 21) rfl ?_); refine goesL_ (some 2) rfl rfl Tryd.func21 (by kernel_rfl) rfl #[.string (⟨#[195, 169, 255]⟩ : ByteArray)] rfl (by (try simp only [List.map_toArray, List.map_cons, List.map_nil]); first | done | rfl | (simp only [List.length_drop, List.length_take]; rfl)) ?_; (with_reducible refine (glyph_Cells.calls (⟨#[195, 169, 255]⟩ : ByteArray) t101 _ ?side1 A1.out).mono ?_); (case side1 => exact Utf.tabs_step HT.out (by repeat (first | (with_reducible first | exact HB.out | apply below_alloc | apply pw_below_drewN | apply below_drew1) | exact HB.out))); rintro e w8 ⟨v102, rfl, ho0, hb⟩; refine ⟨_, rfl, ?_⟩; have n0_ := Aside0.mk (Kd.R_lower ho0 (below_size (by repeat (first | (with_reducible first | exact HB.out | apply below_alloc | apply pw_below_drewN | apply below_drew1) | exact HB.out)))); have n1_ := Aside0.mk (below_step (by repeat (first | (with_reducible first | exact HB.out | apply below_alloc | apply pw_below_drewN | apply below_drew1) | exact HB.out)) hb); clear HB; have HO103 := n0_; have HB := n1_; clear n0_ n1_; (try clear hb); (try clear hb2); (try clear hk); (try clear hi); (try clear ho0); obtain ⟨Ao9, co9, eo9⟩ := Kd.R_slice HO103.out; subst eo9; have p104 : 0 ≤ (0 : Int) := (by omega); have q104 : 0 < (t101.length : Int) := of_decide_eq_true (by first | (with_reducible assumption) | assumption); obtain ⟨ad104, e104, hx104_0, hx104_1, hx104_2, hx104_3, hx104_4⟩ := at_T30 (Kd.R_reads' HO103.out).2.2 0 p104 q104; cases e104; have qi104 : (0 < t101.length) = True := eq_true (by omega); (try rw [show ((0 : Int)).toNat = 0 from rfl] at hx104_0); (try rw [show 0 * 5 = 0 from rfl] at hx104_0); (try rw [Addr.add_zero'] at hx104_0); (try rw [show ((0 : Int)).toNat = 0 from rfl] at hx104_1); (try rw [show 0 * 5 = 0 from rfl] at hx104_1); (try rw [Addr.add_zero'] at hx104_1); (try rw [show ((0 : Int)).toNat = 0 from rfl] at hx104_2); (try rw [show 0 * 5 = 0 from rfl] at hx104_2); (try rw [Addr.add_zero'] at hx104_2); (try rw [show ((0 : Int)).toNat = 0 from rfl] at hx104_3); (try rw [show 0 * 5 = 0 from rfl] at hx104_3); (try rw [Addr.add_zero'] at hx104_3); (try rw [show ((0 : Int)).toNat = 0 from rfl] at hx104_4); (try rw [show 0 * 5 = 0 from rfl] at hx104_4); (try rw [Addr.add_zero'] at hx104_4); replace p104 := eq_true p104; replace q104 := eq_true q104; have p105 : 0 ≤ (1 : Int) := (by omega); have q105 : 1 < (t101.length : Int) := of_decide_eq_true (by first | (with_reducible assumption) | assumption); obtain ⟨ad105, e105, hx105_0, hx105_1, hx105_2, hx105_3, hx105_4⟩ := at_T30 (Kd.R_reads' HO103.out).2.2 1 p105 q105; obtain rfl : ad104 = ad105 := (by injection e105); (try simp only [show (1 : Int).toNat = 1 from rfl, Nat.reduceMul, Nat.reduceEqDiff, Go.Addr.add, ↓reduceIte] at hx105_0); (try simp only [show (1 : Int).toNat = 1 from rfl, Nat.reduceMul, Nat.reduceEqDiff, Go.Addr.add, ↓reduceIte] at hx105_1); (try simp only [show (1 : Int).toNat = 1 from rfl, Nat.reduceMul, Nat.reduceEqDiff, Go.Addr.add, ↓reduceIte] at hx105_2); (try simp only [show (1 : Int).toNat = 1 from rfl, Nat.reduceMul, Nat.reduceEqDiff, Go.Addr.add, ↓reduceIte] at hx105_3); (try simp only [show (1 : Int).toNat = 1 from rfl, Nat.reduceMul, Nat.reduceEqDiff, Go.Addr.add, ↓reduceIte] at hx105_4); have qi105 : (1 < t101.length) = True := eq_true (by omega); (try rw [show ((1 : Int)).toNat = 1 from rfl] at hx105_0); (try rw [show 1 * 5 = 5 from rfl] at hx105_0); (try rw [show ((1 : Int)).toNat = 1 from rfl] at hx105_1); (try rw [show 1 * 5 = 5 from rfl] at hx105_1); (try rw [show ((1 : Int)).toNat = 1 from rfl] at hx105_2); (try rw [show 1 * 5 = 5 from rfl] at hx105_2); (try rw [show ((1 : Int)).toNat = 1 from rfl] at hx105_3); (try rw [show 1 * 5 = 5 from rfl] at hx105_3); (try rw [show ((1 : Int)).toNat = 1 from rfl] at hx105_4); (try rw [show 1 * 5 = 5 from rfl] at hx105_4); replace p105 := eq_true p105; replace q105 := eq_true q105) | (go_at_call 14; (with_reducible refine (glyph_Text.calls _ _ t101 t106 _ ?side1 ?side2 A7.out).mono ?_); (case side1 => repeat (first | exact (Kd.R_reads' HO103.out).2.2 | (with_reducible refine Kd.C_alloc ?_ _) | (with_reducible refine Kd.C_drewN ?_ _) | (with_reducible refine Kd.C_drew ?_))); (case side2 => exact (Kd.R_reads' HO103.out).2.1); rintro e w10 ⟨rfl, hb⟩; have n0_ := Aside0.mk (Kd.R_below (by (with_reducible repeat (first | apply Kd.R_alloc | apply Kd.R_drewN | apply Kd.R_drew)); exact HO103.out) hb); have n1_ := Aside0.mk (below_step (by repeat (first | (with_reducible first | exact HB.out | apply below_alloc | apply pw_below_drewN | apply below_drew1) | exact HB.out)) hb); clear HO103; clear HB; have HO103 := n0_; have HB := n1_; clear n0_ n1_; (try clear hb); (try clear hb2); (try clear hk); (try clear hi)))
            go_ret
            exact ⟨by first | rfl | (simp [errW_none, errW_some] <;> rfl) | (simp [*, errW_none, errW_some] <;> rfl), by repeat (first | (with_reducible first | exact HB.out | apply below_alloc | apply pw_below_drewN | apply below_drew1) | exact HB.out)⟩
          · rw [if_neg c6] at H
            have c6b0 : (((rd_T30 t101 1).f0) == 2 && (((rd_T30 t101 1).f1) == 1 && (((rd_T30 t101 1).f2) == 65533 && (((rd_T30 t101 1).f3) && (((rd_T30 t101 1).f4) == 255))))) = false := by simpa using c6
            (try (have c6b1 : decide (((rd_T30 t101 1).f0) = 2 && (((rd_T30 t101 1).f1) == 1 && (((rd_T30 t101 1).f2) == 65533 && (((rd_T30 t101 1).f3) && (((rd_T30 t101 1).f4) == 255))))) = false := by simpa using c6))
            (try (have c6b2 : (((rd_T30 t101 1).f0) == 2 && (((rd_T30 t101 1).f1) == 1 && (((rd_T30 t101 1).f2) == 65533 && (((rd_T30 t101 1).f3) && (((rd_T30 t101 1).f4) == 255))))) = false := by simpa using c6))
            (try (have c6b3 : ¬ (((rd_T30 t101 1).f0) = 2 && (((rd_T30 t101 1).f1) == 1 && (((rd_T30 t101 1).f2) == 65533 && (((rd_T30 t101 1).f3) && (((rd_T30 t101 1).f4) == 255))))) := by simpa using c6))
            clear c6
            obtain rfl := Option.some.inj H
            go_enter Tryd.func13, Tryd.ntmps13
            go_wp2_with (first | ((with_reducible refine gate_callee (f := 21) rfl ?_); refine goesL_ (some 2) rfl rfl Tryd.func21 (by kernel_rfl) rfl #[.string (⟨#[195, 169, 255]⟩ : ByteArray)] rfl (by (try simp only [List.map_toArray, List.map_cons, List.map_nil]); first | done | rfl | (simp only [List.length_drop, List.length_take]; rfl)) ?_; (with_reducible refine (glyph_Cells.calls (⟨#[195, 169, 255]⟩ : ByteArray) t101 _ ?side1 A1.out).mono ?_); (case side1 => exact Utf.tabs_step HT.out (by repeat (first | (with_reducible first | exact HB.out | apply below_alloc | apply pw_below_drewN | apply below_drew1) | exact HB.out))); rintro e w11 ⟨v102, rfl, ho0, hb⟩; refine ⟨_, rfl, ?_⟩; have n0_ := Aside0.mk (Kd.R_lower ho0 (below_size (by repeat (first | (with_reducible first | exact HB.out | apply below_alloc | apply pw_below_drewN | apply below_drew1) | exact HB.out)))); have n1_ := Aside0.mk (below_step (by repeat (first | (with_reducible first | exact HB.out | apply below_alloc | apply pw_below_drewN | apply below_drew1) | exact HB.out)) hb); clear HB; have HO103 := n0_; have HB := n1_; clear n0_ n1_; (try clear hb); (try clear hb2); (try clear hk); (try clear hi); (try clear ho0); obtain ⟨Ao12, co12, eo12⟩ := Kd.R_slice HO103.out; subst eo12; have p104 : 0 ≤ (0 : Int) := (by omega); have q104 : 0 < (t101.length : Int) := of_decide_eq_true (by first | (with_reducible assumption) | assumption); obtain ⟨ad104, e104, hx104_0, hx104_1, hx104_2, hx104_3, hx104_4⟩ := at_T30 (Kd.R_reads' HO103.out).2.2 0 p104 q104; cases e104; have qi104 : (0 < t101.length) = True := eq_true (by omega); (try rw [show ((0 : Int)).toNat = 0 from rfl] at hx104_0); (try rw [show 0 * 5 = 0 from rfl] at hx104_0); (try rw [Addr.add_zero'] at hx104_0); (try rw [show ((0 : Int)).toNat = 0 from rfl] at hx104_1); (try rw [show 0 * 5 = 0 from rfl] at hx104_1); (try rw [Addr.add_zero'] at hx104_1); (try rw [show ((0 : Int)).toNat = 0 from rfl] at hx104_2); (try rw [show 0 * 5 = 0 from rfl] at hx104_2); (try rw [Addr.add_zero'] at hx104_2); (try rw [show ((0 : Int)).toNat = 0 from rfl] at hx104_3); (try rw [show 0 * 5 = 0 from rfl] at hx104_3); (try rw [Addr.add_zero'] at hx104_3); (try rw [show ((0 : Int)).toNat = 0 from rfl] at hx104_4); (try rw [show 0 * 5 = 0 from rfl] at hx104_4); (try rw [Addr.add_zero'] at hx104_4); replace p104 := eq_true p104; replace q104 := eq_true q104; have p105 : 0 ≤ (1 : Int) := (by omega); have q105 : 1 < (t101.length : Int) := of_decide_eq_true (by first | (with_reducible assumption) | assumption); obtain ⟨ad105, e105, hx105_0, hx105_1, hx105_2, hx105_3, hx105_4⟩ := at_T30 (Kd.R_reads' HO103.out).2.2 1 p105 q105; obtain rfl : ad104 = ad105 := (by injection e105); (try simp only [show (1 : Int).toNat = 1 from rfl, Nat.reduceMul, Nat.reduceEqDiff, Go.Addr.add, ↓reduceIte] at hx105_0); (try simp only [show (1 : Int).toNat = 1 from rfl, Nat.reduceMul, Nat.reduceEqDiff, Go.Addr.add, ↓reduceIte] at hx105_1); (try simp only [show (1 : Int).toNat = 1 from rfl, Nat.reduceMul, Nat.reduceEqDiff, Go.Addr.add, ↓reduceIte] at hx105_2); (try simp only [show (1 : Int).toNat = 1 from rfl, Nat.reduceMul, Nat.reduceEqDiff, Go.Addr.add, ↓reduceIte] at hx105_3); (try simp only [show (1 : Int).toNat = 1 from rfl, Nat.reduceMul, Nat.reduceEqDiff, Go.Addr.add, ↓reduceIte] at hx105_4); have qi105 : (1 < t101.length) = True := eq_true (by omega); (try rw [show ((1 : Int)).toNat = 1 from rfl] at hx105_0); (try rw [show 1 * 5 = 5 from rfl] at hx105_0); (try rw [show ((1 : Int)).toNat = 1 from rfl] at hx105_1); (try rw [show 1 * 5 = 5 from rfl] at hx105_1); (try rw [show ((1 : Int)).toNat = 1 from rfl] at hx105_2); (try rw [show 1 * 5 = 5 from rfl] at hx105_2); (try rw [show ((1 : Int)).toNat = 1 from rfl] at hx105_3); (try rw [show 1 * 5 = 5 from rfl] at hx105_3); (try rw [show ((1 : Int)).toNat = 1 from rfl] at hx105_4); (try rw [show 1 * 5 = 5 from rfl] at hx105_4); replace p105 := eq_true p105; replace q105 := eq_true q105))
            go_ret
            exact ⟨by first | rfl | (simp [errW_none, errW_some] <;> rfl) | (simp [*, errW_none, errW_some] <;> rfl), by repeat (first | (with_reducible first | exact HB.out | apply below_alloc | apply pw_below_drewN | apply below_drew1) | exact HB.out)⟩
        · rw [if_neg c5] at H
          exact absurd H (by simp)
      · rw [if_neg c4] at H
        have c4b0 : (((rd_T30 t101 0).f0) == 0 && (((rd_T30 t101 0).f1) == 2 && (((rd_T30 t101 0).f2) == 233 && (!((rd_T30 t101 0).f3) && (((rd_T30 t101 0).f4) == 0))))) = false := by simpa using c4
        (try (have c4b1 : decide (((rd_T30 t101 0).f0) = 0 && (((rd_T30 t101 0).f1) == 2 && (((rd_T30 t101 0).f2) == 233 && (!((rd_T30 t101 0).f3) && (((rd_T30 t101 0).f4) == 0))))) = false := by simpa using c4))
        (try (have c4b2 : (((rd_T30 t101 0).f0) == 0 && (((rd_T30 t101 0).f1) == 2 && (((rd_T30 t101 0).f2) == 233 && (!((rd_T30 t101 0).f3) && (((rd_T30 t101 0).f4) == 0))))) = false := by simpa using c4))
        (try (have c4b3 : ¬ (((rd_T30 t101 0).f0) = 0 && (((rd_T30 t101 0).f1) == 2 && (((rd_T30 t101 0).f2) == 233 && (!((rd_T30 t101 0).f3) && (((rd_T30 t101 0).f4) == 0))))) := by simpa using c4))
        clear c4
        obtain rfl := Option.some.inj H
        go_enter Tryd.func13, Tryd.ntmps13
        go_wp2_with (first | ((with_reducible refine gate_callee (f := 21) rfl ?_); refine goesL_ (some 2) rfl rfl Tryd.func21 (by kernel_rfl) rfl #[.string (⟨#[195, 169, 255]⟩ : ByteArray)] rfl (by (try simp only [List.map_toArray, List.map_cons, List.map_nil]); first | done | rfl | (simp only [List.length_drop, List.length_take]; rfl)) ?_; (with_reducible refine (glyph_Cells.calls (⟨#[195, 169, 255]⟩ : ByteArray) t101 _ ?side1 A1.out).mono ?_); (case side1 => exact Utf.tabs_step HT.out (by repeat (first | (with_reducible first | exact HB.out | apply below_alloc | apply pw_below_drewN | apply below_drew1) | exact HB.out))); rintro e w13 ⟨v102, rfl, ho0, hb⟩; refine ⟨_, rfl, ?_⟩; have n0_ := Aside0.mk (Kd.R_lower ho0 (below_size (by repeat (first | (with_reducible first | exact HB.out | apply below_alloc | apply pw_below_drewN | apply below_drew1) | exact HB.out)))); have n1_ := Aside0.mk (below_step (by repeat (first | (with_reducible first | exact HB.out | apply below_alloc | apply pw_below_drewN | apply below_drew1) | exact HB.out)) hb); clear HB; have HO103 := n0_; have HB := n1_; clear n0_ n1_; (try clear hb); (try clear hb2); (try clear hk); (try clear hi); (try clear ho0); obtain ⟨Ao14, co14, eo14⟩ := Kd.R_slice HO103.out; subst eo14; have p104 : 0 ≤ (0 : Int) := (by omega); have q104 : 0 < (t101.length : Int) := of_decide_eq_true (by first | (with_reducible assumption) | assumption); obtain ⟨ad104, e104, hx104_0, hx104_1, hx104_2, hx104_3, hx104_4⟩ := at_T30 (Kd.R_reads' HO103.out).2.2 0 p104 q104; cases e104; have qi104 : (0 < t101.length) = True := eq_true (by omega); (try rw [show ((0 : Int)).toNat = 0 from rfl] at hx104_0); (try rw [show 0 * 5 = 0 from rfl] at hx104_0); (try rw [Addr.add_zero'] at hx104_0); (try rw [show ((0 : Int)).toNat = 0 from rfl] at hx104_1); (try rw [show 0 * 5 = 0 from rfl] at hx104_1); (try rw [Addr.add_zero'] at hx104_1); (try rw [show ((0 : Int)).toNat = 0 from rfl] at hx104_2); (try rw [show 0 * 5 = 0 from rfl] at hx104_2); (try rw [Addr.add_zero'] at hx104_2); (try rw [show ((0 : Int)).toNat = 0 from rfl] at hx104_3); (try rw [show 0 * 5 = 0 from rfl] at hx104_3); (try rw [Addr.add_zero'] at hx104_3); (try rw [show ((0 : Int)).toNat = 0 from rfl] at hx104_4); (try rw [show 0 * 5 = 0 from rfl] at hx104_4); (try rw [Addr.add_zero'] at hx104_4); replace p104 := eq_true p104; replace q104 := eq_true q104))
        go_ret
        exact ⟨by first | rfl | (simp [errW_none, errW_some] <;> rfl) | (simp [*, errW_none, errW_some] <;> rfl), by repeat (first | (with_reducible first | exact HB.out | apply below_alloc | apply pw_below_drewN | apply below_drew1) | exact HB.out)⟩
    · rw [if_neg c3] at H
      exact absurd H (by simp)
  · rw [if_neg c2] at H
    have c2b0 : ((t101.length : Int) == 2) = false := beq_eq_false_iff_ne.mpr c2
    have c2b1 : ((t101.length : Int) != 2) = true := bne_iff_ne.mpr c2
    obtain rfl := Option.some.inj H
    go_enter Tryd.func13, Tryd.ntmps13
    go_wp2_with (first | ((with_reducible refine gate_callee (f := 21) rfl ?_); refine goesL_ (some 2) rfl rfl Tryd.func21 (by kernel_rfl) rfl #[.string (⟨#[195, 169, 255]⟩ : ByteArray)] rfl (by (try simp only [List.map_toArray, List.map_cons, List.map_nil]); first | done | rfl | (simp only [List.length_drop, List.length_take]; rfl)) ?_; (with_reducible refine (glyph_Cells.calls (⟨#[195, 169, 255]⟩ : ByteArray) t101 _ ?side1 A1.out).mono ?_); (case side1 => exact Utf.tabs_step HT.out (by repeat (first | (with_reducible first | exact HB.out | apply below_alloc | apply pw_below_drewN | apply below_drew1) | exact HB.out))); rintro e w15 ⟨v102, rfl, ho0, hb⟩; refine ⟨_, rfl, ?_⟩; have n0_ := Aside0.mk (Kd.R_lower ho0 (below_size (by repeat (first | (with_reducible first | exact HB.out | apply below_alloc | apply pw_below_drewN | apply below_drew1) | exact HB.out)))); have n1_ := Aside0.mk (below_step (by repeat (first | (with_reducible first | exact HB.out | apply below_alloc | apply pw_below_drewN | apply below_drew1) | exact HB.out)) hb); clear HB; have HO103 := n0_; have HB := n1_; clear n0_ n1_; (try clear hb); (try clear hb2); (try clear hk); (try clear hi); (try clear ho0); obtain ⟨Ao16, co16, eo16⟩ := Kd.R_slice HO103.out; subst eo16))
    go_ret
    exact ⟨by first | rfl | (simp [errW_none, errW_some] <;> rfl) | (simp [*, errW_none, errW_some] <;> rfl), by repeat (first | (with_reducible first | exact HB.out | apply below_alloc | apply pw_below_drewN | apply below_drew1) | exact HB.out)⟩

/-! ### siglumlaw01_same: function 29 -/
def siglumlaw01_same.l0 : Nat → List (S30) → List (S30) → Int → Int → Option (Bool)
  | 0, _, _, _, _ => none
  | k + 1, x0, x1, x12, x13 => if x13 < x12 then (if 0 ≤ x13 then (if x13 < (x0.length : Int) then (if x13 < (x1.length : Int) then (if (!(((rd_T30 x0 x13).f0) == ((rd_T30 x1 x13).f0)) || (!(((rd_T30 x0 x13).f1) == ((rd_T30 x1 x13).f1)) || (!(((rd_T30 x0 x13).f2) == ((rd_T30 x1 x13).f2)) || (!(((rd_T30 x0 x13).f3) == ((rd_T30 x1 x13).f3)) || (!(((rd_T30 x0 x13).f4) == ((rd_T30 x1 x13).f4))))))) = true then (some false) else (siglumlaw01_same.l0 k x0 x1 x12 (wrap64 (x13 + 1)))) else (none)) else (none)) else (none)) else (some true)
def siglumlaw01_same.f (k : Nat) (l0 : List (S30)) (l1 : List (S30)) : Option (Bool) := if (l0.length : Int) = (l1.length : Int) then (siglumlaw01_same.l0 k l0 l1 (l0.length : Int) 0) else (some false)
theorem siglumlaw01_same.mono_l : ∀ k, (∀ y0 y1 y2 y3, LeO (siglumlaw01_same.l0 k y0 y1 y2 y3) (siglumlaw01_same.l0 (k + 1) y0 y1 y2 y3))
  | 0 => fun _ _ _ _ r h => by simp [siglumlaw01_same.l0] at h
  | k + 1 => by
    have ih0 := siglumlaw01_same.mono_l k
    · intro y0 y1 y2 y3
      unfold siglumlaw01_same.l0
      repeat' first
      | (with_reducible exact ih0 _ _ _ _)
      | (with_reducible exact LeO.refl _)
      | (with_reducible exact LeO.none _)
      | (with_reducible refine LeO.ite ?_ ?_)
      | (with_reducible refine LeO.bind ?_ (fun _ => ?_))
      | exact ih0 _ _ _ _
      | exact LeO.none _
      | refine LeO.ite ?_ ?_
      | refine LeO.bind ?_ (fun _ => ?_)
theorem siglumlaw01_same.mono : ∀ a0 a1 k, LeO (siglumlaw01_same.f k a0 a1) (siglumlaw01_same.f (k + 1) a0 a1) := by
  intro a0 a1 k
  have ih0 := siglumlaw01_same.mono_l k
  unfold siglumlaw01_same.f
  repeat' first
      | (with_reducible exact ih0 _ _ _ _)
      | (with_reducible exact LeO.refl _)
      | (with_reducible exact LeO.none _)
      | (with_reducible refine LeO.ite ?_ ?_)
      | (with_reducible refine LeO.bind ?_ (fun _ => ?_))
      | exact ih0 _ _ _ _
      | exact LeO.none _
      | refine LeO.ite ?_ ?_
      | refine LeO.bind ?_ (fun _ => ?_)
set_option maxHeartbeats 8000000 in
set_option maxRecDepth 100000 in
theorem siglumlaw01_same.calls (k : Nat) (A0 : Option Addr) (c0 : Nat) (l0 : List (S30)) (A1 : Option Addr) (c1 : Nat) (l1 : List (S30)) (r : Bool) (w : World) (hr0 : Kd.C k30 w A0 l0.length l0) (hc0 : l0.length ≤ c0) (hr1 : Kd.C k30 w A1 l1.length l1) (hc1 : l1.length ≤ c1) (h : siglumlaw01_same.f k l0 l1 = some r) :
    Calls Tryd.prog 29 #[.slice A0 l0.length c0, .slice A1 l1.length c1] w fun e w' => e = .returned (.bool r) ∧ Drawn0 w w' := by
  have hu30 := Tryd.underlying30
  have HR0 := Aside0.mk hr0
  have HC0 := Aside0.mk hc0
  clear hr0 hc0
  have HR1 := Aside0.mk hr1
  have HC1 := Aside0.mk hc1
  clear hr1 hc1
  have H : (if (l0.length : Int) = (l1.length : Int) then (siglumlaw01_same.l0 k l0 l1 (l0.length : Int) 0) else (some false)) = some r := h
  clear h
  by_cases c3 : (l0.length : Int) = (l1.length : Int)
  · rw [if_pos c3] at H
    have c3b0 : ((l0.length : Int) == (l1.length : Int)) = true := beq_iff_eq.mpr c3
    have c3b1 : ((l0.length : Int) != (l1.length : Int)) = false := bne_eq_false_iff_eq.mpr c3
    have c3b2 : (l0.length == l1.length) = true := by first | simpa using c3 | (simp at c3 ⊢; omega)
    clear c3
    have H' := Aside0.mk H
    clear H
    go_enter Tryd.func29, Tryd.ntmps29
    go_wp2
    repeat (go_quiet (fail); try go_wp2)
    go_loopg [13] k (fun kq v13 w' => ∃ (x13_1 : Int), v13 = .int .i64 x13_1 ∧ Aside0 (siglumlaw01_same.l0 kq l0 l1 (l0.length : Int) x13_1 = some r) ∧ Aside0 (kq ≤ k) ∧ Drawn0 w w')
    case atStart => exact ⟨(0), (by first | rfl | (simp; done) | (simp [*]; done)), H', ⟨Nat.le_refl _⟩, by repeat (first | exact Drawn0.refl _ | apply Drawn0.step)⟩
    case round =>
      clear H'
      try clear c1
      try clear c2
      try clear p2
      try clear c3
      try clear c3b0
      try clear c3b1
      try clear c3b2
      obtain ⟨x13_1, rfl, HA, HK1, ⟨m1, rfl⟩⟩ := hrel
      cases gk with
      | zero => exact absurd HA.out (by simp [siglumlaw01_same.l0])
      | succ k1 =>
        have H := HA.out
        clear HA
        simp only [siglumlaw01_same.l0] at H
        by_cases c4 : x13_1 < (l0.length : Int)
        · rw [if_pos c4] at H
          have c4b0 : decide (x13_1 < (l0.length : Int)) = true := decide_eq_true c4
          clear c4
          by_cases c5 : 0 ≤ x13_1
          · rw [if_pos c5] at H
            have c5b0 : decide (0 ≤ x13_1) = true := decide_eq_true c5
            clear c5
            by_cases c6 : x13_1 < (l0.length : Int)
            · rw [if_pos c6] at H
              have c6b0 : decide (x13_1 < (l0.length : Int)) = true := decide_eq_true c6
              clear c6
              by_cases c7 : x13_1 < (l1.length : Int)
              · rw [if_pos c7] at H
                have c7b0 : decide (x13_1 < (l1.length : Int)) = true := decide_eq_true c7
                clear c7
                by_cases c8 : (!(((rd_T30 l0 x13_1).f0) == ((rd_T30 l1 x13_1).f0)) || (!(((rd_T30 l0 x13_1).f1) == ((rd_T30 l1 x13_1).f1)) || (!(((rd_T30 l0 x13_1).f2) == ((rd_T30 l1 x13_1).f2)) || (!(((rd_T30 l0 x13_1).f3) == ((rd_T30 l1 x13_1).f3)) || (!(((rd_T30 l0 x13_1).f4) == ((rd_T30 l1 x13_1).f4))))))) = true
                · rw [if_pos c8] at H
                  have c8b0 : (!(((rd_T30 l0 x13_1).f0) == ((rd_T30 l1 x13_1).f0)) || (!(((rd_T30 l0 x13_1).f1) == ((rd_T30 l1 x13_1).f1)) || (!(((rd_T30 l0 x13_1).f2) == ((rd_T30 l1 x13_1).f2)) || (!(((rd_T30 l0 x13_1).f3) == ((rd_T30 l1 x13_1).f3)) || (!(((rd_T30 l0 x13_1).f4) == ((rd_T30 l1 x13_1).f4))))))) = true := c8
                  clear c8
                  obtain rfl := Option.some.inj H
                  have p107 : 0 ≤ (x13_1 : Int) := of_decide_eq_true (by first | (with_reducible assumption) | assumption)
                  have q107 : x13_1 < (l0.length : Int) := of_decide_eq_true (by first | (with_reducible assumption) | assumption)
                  obtain ⟨ad107, e107, hx107_0, hx107_1, hx107_2, hx107_3, hx107_4⟩ := at_T30 HR0.out x13_1 p107 q107
                  cases e107
                  replace p107 := eq_true p107
                  replace q107 := eq_true q107
                  have p108 : 0 ≤ (x13_1 : Int) := of_decide_eq_true (by first | (with_reducible assumption) | assumption)
                  have q108 : x13_1 < (l1.length : Int) := of_decide_eq_true (by first | (with_reducible assumption) | assumption)
                  obtain ⟨ad108, e108, hx108_0, hx108_1, hx108_2, hx108_3, hx108_4⟩ := at_T30 HR1.out x13_1 p108 q108
                  cases e108
                  replace p108 := eq_true p108
                  replace q108 := eq_true q108
                  go_wp2
                  repeat (go_quiet (fail); try go_wp2)
                  go_ret
                  exact ⟨by first | rfl | (simp; done) | (simp [*]; done), by repeat (first | exact Drawn0.refl _ | apply Drawn0.step)⟩
                · rw [if_neg c8] at H
                  have c8b0 : (!(((rd_T30 l0 x13_1).f0) == ((rd_T30 l1 x13_1).f0)) || (!(((rd_T30 l0 x13_1).f1) == ((rd_T30 l1 x13_1).f1)) || (!(((rd_T30 l0 x13_1).f2) == ((rd_T30 l1 x13_1).f2)) || (!(((rd_T30 l0 x13_1).f3) == ((rd_T30 l1 x13_1).f3)) || (!(((rd_T30 l0 x13_1).f4) == ((rd_T30 l1 x13_1).f4))))))) = false := by simpa using c8
                  clear c8
                  have H' := Aside0.mk H
                  clear H
                  have p107 : 0 ≤ (x13_1 : Int) := of_decide_eq_true (by first | (with_reducible assumption) | assumption)
                  have q107 : x13_1 < (l0.length : Int) := of_decide_eq_true (by first | (with_reducible assumption) | assumption)
                  obtain ⟨ad107, e107, hx107_0, hx107_1, hx107_2, hx107_3, hx107_4⟩ := at_T30 HR0.out x13_1 p107 q107
                  cases e107
                  replace p107 := eq_true p107
                  replace q107 := eq_true q107
                  have p108 : 0 ≤ (x13_1 : Int) := of_decide_eq_true (by first | (with_reducible assumption) | assumption)
                  have q108 : x13_1 < (l1.length : Int) := of_decide_eq_true (by first | (with_reducible assumption) | assumption)
                  obtain ⟨ad108, e108, hx108_0, hx108_1, hx108_2, hx108_3, hx108_4⟩ := at_T30 HR1.out x13_1 p108 q108
                  cases e108
                  replace p108 := eq_true p108
                  replace q108 := eq_true q108
                  go_wp2
                  repeat (go_quiet (fail); try go_wp2)
                  go_roundg k1
                  case measure => have := HK1.out; omega
                  case rel => exact ⟨(wrap64 (x13_1 + 1)), (by first | rfl | (simp; done) | (simp [*]; done)), H', ⟨by have := HK1.out; omega⟩, by repeat (first | exact Drawn0.refl _ | apply Drawn0.step)⟩
              · rw [if_neg c7] at H
                exact absurd H (by simp)
            · rw [if_neg c6] at H
              exact absurd H (by simp)
          · rw [if_neg c5] at H
            exact absurd H (by simp)
        · rw [if_neg c4] at H
          have c4b0 : decide (x13_1 < (l0.length : Int)) = false := decide_eq_false c4
          clear c4
          obtain rfl := Option.some.inj H
          go_wp2
          repeat (go_quiet (fail); try go_wp2)
          go_ret
          exact ⟨by first | rfl | (simp; done) | (simp [*]; done), by repeat (first | exact Drawn0.refl _ | apply Drawn0.step)⟩
  · rw [if_neg c3] at H
    have c3b0 : ((l0.length : Int) == (l1.length : Int)) = false := beq_eq_false_iff_ne.mpr c3
    have c3b1 : ((l0.length : Int) != (l1.length : Int)) = true := bne_iff_ne.mpr c3
    have c3b2 : (l0.length == l1.length) = false := by first | simpa using c3 | (simp at c3 ⊢; omega)
    obtain rfl := Option.some.inj H
    go_enter Tryd.func29, Tryd.ntmps29
    go_wp2
    repeat (go_quiet (fail); try go_wp2)
    go_ret
    exact ⟨by first | rfl | (simp; done) | (simp [*]; done), by repeat (first | exact Drawn0.refl _ | apply Drawn0.step)⟩

/-! ### utf8_RuneStart: function 47 -/
def utf8_RuneStart.f (a0 : Int) : Option (Bool) := some ((Go.bits .and .u8 a0 192) != 128)
set_option maxHeartbeats 8000000 in
set_option maxRecDepth 100000 in
theorem utf8_RuneStart.calls (a0 : Int) (r : Bool) (w : World) (h : utf8_RuneStart.f a0 = some r) :
    Calls Tryd.prog 47 #[.int .u8 a0] w fun e w' => e = .returned (.bool r) ∧ Drawn0 w w' := by
  have H : (some ((Go.bits .and .u8 a0 192) != 128)) = some r := h
  clear h
  obtain rfl := Option.some.inj H
  go_enter Tryd.func47, Tryd.ntmps47
  go_wp2
  go_ret
  exact ⟨by first | rfl | (simp; done) | (simp [*]; done), by repeat (first | exact Drawn0.refl _ | apply Drawn0.step)⟩

end Go.Proofs.YtfcobfjjcocggaaDoor.V
