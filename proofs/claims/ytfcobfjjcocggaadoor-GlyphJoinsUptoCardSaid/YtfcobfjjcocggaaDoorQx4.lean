-- Printed by hprint.py (this session's program over the kit's print) out of the translation; the parts 'by hand' are the session's own.
import Derived.Test.YtfcobfjjcocggaaDoorQx0
import Derived.Test.YtfcobfjjcocggaaDoorQx1
import Derived.Test.YtfcobfjjcocggaaDoorQx2
import Derived.Test.YtfcobfjjcocggaaDoorQx3
namespace Go.Proofs.YtfcobfjjcocggaaDoor.Q
open Go.RowKit Go.Proofs.YtfcobfjjcocggaaDoorW.PrintWords Go.Proofs.YtfcobfjjcocggaaDoorW.PrintLast Go.Proofs.YtfcobfjjcocggaaDoorW.PrintMore
attribute [local go_sem] max2_int min2_int max_two min_two max_three min_three max_four min_four   -- for this text's walks alone
set_option linter.unusedVariables false
set_option linter.unusedSimpArgs false

attribute [local go_sem high] eqA30
/-! ### siglumlaw01_awake: function 13 -/
def siglumlaw01_awake.f  : Option (Bool) := (glyph_Cells.f (⟨#[195, 169, 255]⟩ : ByteArray)).bind fun t101 => (if (t101.length : Int) = 2 then (if 0 < (t101.length : Int) then (if (((rd_T30 t101 0).f0) == 0 && (((rd_T30 t101 0).f1) == 2 && (((rd_T30 t101 0).f2) == 233 && (!((rd_T30 t101 0).f3) && (((rd_T30 t101 0).f4) == 0))))) = true then (if 1 < (t101.length : Int) then (if (((rd_T30 t101 1).f0) == 2 && (((rd_T30 t101 1).f1) == 1 && (((rd_T30 t101 1).f2) == 65533 && (((rd_T30 t101 1).f3) && (((rd_T30 t101 1).f4) == 255))))) = true then ((glyph_Text.f t101).bind fun t106 => (some (t106.toList == ([195, 169, 255] : List UInt8)))) else (some false)) else (none)) else (some false)) else (none)) else (some false))
set_option maxHeartbeats 8000000 in
set_option maxRecDepth 100000 in
theorem siglumlaw01_awake.calls  (r : Bool) (w : World) (hT : Lib.Utf8Tabs 0 1 w) (h : siglumlaw01_awake.f  = some r) :
    Calls Tryd.prog 13 #[] w fun e w' => e = .returned (.bool r) ∧ Below w.heap.size w w' := by
  have hu30 := Tryd.underlying30
  have HT := Aside0.mk hT
  clear hT
  have HB := Aside0.mk (Below.refl w.heap.size w)
  have H : ((glyph_Cells.f (⟨#[195, 169, 255]⟩ : ByteArray)).bind fun t101 => (if (t101.length : Int) = 2 then (if 0 < (t101.length : Int) then (if (((rd_T30 t101 0).f0) == 0 && (((rd_T30 t101 0).f1) == 2 && (((rd_T30 t101 0).f2) == 233 && (!((rd_T30 t101 0).f3) && (((rd_T30 t101 0).f4) == 0))))) = true then (if 1 < (t101.length : Int) then (if (((rd_T30 t101 1).f0) == 2 && (((rd_T30 t101 1).f1) == 1 && (((rd_T30 t101 1).f2) == 65533 && (((rd_T30 t101 1).f3) && (((rd_T30 t101 1).f4) == 255))))) = true then ((glyph_Text.f t101).bind fun t106 => (some (t106.toList == ([195, 169, 255] : List UInt8)))) else (some false)) else (none)) else (some false)) else (none)) else (some false))) = some r := h
  clear h
  replace H := Option.bind_eq_some_iff.mp H
  obtain ⟨t101, A10, H⟩ := H
  replace H : (if (t101.length : Int) = 2 then (if 0 < (t101.length : Int) then (if (((rd_T30 t101 0).f0) == 0 && (((rd_T30 t101 0).f1) == 2 && (((rd_T30 t101 0).f2) == 233 && (!((rd_T30 t101 0).f3) && (((rd_T30 t101 0).f4) == 0))))) = true then (if 1 < (t101.length : Int) then (if (((rd_T30 t101 1).f0) == 2 && (((rd_T30 t101 1).f1) == 1 && (((rd_T30 t101 1).f2) == 65533 && (((rd_T30 t101 1).f3) && (((rd_T30 t101 1).f4) == 255))))) = true then ((glyph_Text.f t101).bind fun t106 => (some (t106.toList == ([195, 169, 255] : List UInt8)))) else (some false)) else (none)) else (some false)) else (none)) else (some false)) = some r := H
  have A1 := Aside0.mk A10
  clear A10
  by_cases c2 : (t101.length : Int) = 2
  · rw [if_pos c2] at H
    have c2b0 : ((t101.length : Int) == 2) = true := beq_iff_eq.mpr c2
    have c2b1 : ((t101.length : Int) != 2) = false := bne_eq_false_iff_eq.mpr c2
    clear c2
    by_cases c3 : 0 < (t101.length : Int)
    · rw [if_pos c3] at H
      have c3b0 : decide (0 < (t101.length : Int)) = true := decide_eq_true c3
      have c3b1 : decide (0 < t101.length) = true := decide_eq_true (by omega)
      clear c3
      by_cases c4 : (((rd_T30 t101 0).f0) == 0 && (((rd_T30 t101 0).f1) == 2 && (((rd_T30 t101 0).f2) == 233 && (!((rd_T30 t101 0).f3) && (((rd_T30 t101 0).f4) == 0))))) = true
      · rw [if_pos c4] at H
        have c4b0 : (((rd_T30 t101 0).f0) == 0 && (((rd_T30 t101 0).f1) == 2 && (((rd_T30 t101 0).f2) == 233 && (!((rd_T30 t101 0).f3) && (((rd_T30 t101 0).f4) == 0))))) = true := c4
        (try (have c4b1 : decide (((rd_T30 t101 0).f0) = 0 && (((rd_T30 t101 0).f1) == 2 && (((rd_T30 t101 0).f2) == 233 && (!((rd_T30 t101 0).f3) && (((rd_T30 t101 0).f4) == 0))))) = true := by simpa using c4))
        (try (have c4b2 : (((rd_T30 t101 0).f0) == 0 && (((rd_T30 t101 0).f1) == 2 && (((rd_T30 t101 0).f2) == 233 && (!((rd_T30 t101 0).f3) && (((rd_T30 t101 0).f4) == 0))))) = true := by simpa using c4))
        clear c4
        by_cases c5 : 1 < (t101.length : Int)
        · rw [if_pos c5] at H
          have c5b0 : decide (1 < (t101.length : Int)) = true := decide_eq_true c5
          have c5b1 : decide (1 < t101.length) = true := decide_eq_true (by omega)
          clear c5
          by_cases c6 : (((rd_T30 t101 1).f0) == 2 && (((rd_T30 t101 1).f1) == 1 && (((rd_T30 t101 1).f2) == 65533 && (((rd_T30 t101 1).f3) && (((rd_T30 t101 1).f4) == 255))))) = true
          · rw [if_pos c6] at H
            have c6b0 : (((rd_T30 t101 1).f0) == 2 && (((rd_T30 t101 1).f1) == 1 && (((rd_T30 t101 1).f2) == 65533 && (((rd_T30 t101 1).f3) && (((rd_T30 t101 1).f4) == 255))))) = true := c6
            (try (have c6b1 : decide (((rd_T30 t101 1).f0) = 2 && (((rd_T30 t101 1).f1) == 1 && (((rd_T30 t101 1).f2) == 65533 && (((rd_T30 t101 1).f3) && (((rd_T30 t101 1).f4) == 255))))) = true := by simpa using c6))
            (try (have c6b2 : (((rd_T30 t101 1).f0) == 2 && (((rd_T30 t101 1).f1) == 1 && (((rd_T30 t101 1).f2) == 65533 && (((rd_T30 t101 1).f3) && (((rd_T30 t101 1).f4) == 255))))) = true := by simpa using c6))
            clear c6
            replace H := Option.bind_eq_some_iff.mp H
            obtain ⟨t106, A70, H⟩ := H
            replace H : (some (t106.toList == ([195, 169, 255] : List UInt8))) = some r := H
            have A7 := Aside0.mk A70
            clear A70
            obtain rfl := Option.some.inj H
            go_enter Tryd.func13, Tryd.ntmps13
            go_wp2_with (first | ((with_reducible refine gate_callee (f := 21) rfl ?_); refine goesL_ (some 2) rfl rfl Tryd.func21 (by kernel_rfl) rfl #[.string (⟨#[195, 169, 255]⟩ : ByteArray)] rfl (by (try simp only [List.map_toArray, List.map_cons, List.map_nil]); first | done | rfl | (simp only [List.length_drop, List.length_take]; rfl)) ?_; (with_reducible refine (glyph_Cells.calls (⟨#[195, 169, 255]⟩ : ByteArray) t101 _ ?side1 A1.out).mono ?_); (case side1 => exact Utf.tabs_step HT.out (by repeat (first | (with_reducible first | exact HB.out | apply below_alloc | apply pw_below_drewN | apply below_drew1) | exact HB.out))); rintro e w8 ⟨v102, rfl, ho0, hb⟩; refine ⟨_, rfl, ?_⟩; have n0_ := Aside0.mk (Kd.R_lower ho0 (below_size (by repeat (first | (with_reducible first | exact HB.out | apply below_alloc | apply pw_below_drewN | apply below_drew1) | exact HB.out)))); have n1_ := Aside0.mk (below_step (by repeat (first | (with_reducible first | exact HB.out | apply below_alloc | apply pw_below_drewN | apply below_drew1) | exact HB.out)) hb); clear HB; have HO103 := n0_; have HB := n1_; clear n0_ n1_; (try clear hb); (try clear hb2); (try clear hk); (try clear hi); (try clear ho0); obtain ⟨Ao9, co9, eo9⟩ := Kd.R_slice HO103.out; subst eo9; have p104 : 0 ≤ (0 : Int) := (by omega); have q104 : 0 < (t101.length : Int) := of_decide_eq_true (by first | (with_reducible assumption) | assumption); obtain ⟨ad104, e104, hx104_0, hx104_1, hx104_2, hx104_3, hx104_4⟩ := at_T30 (Kd.R_reads' HO103.out).2.2 0 p104 q104; cases e104; have qi104 : (0 < t101.length) = True := eq_true (by omega); (try rw [show ((0 : Int)).toNat = 0 from rfl] at hx104_0); (try rw [show 0 * 5 = 0 from rfl] at hx104_0); (try rw [Addr.add_zero'] at hx104_0); (try rw [show ((0 : Int)).toNat = 0 from rfl] at hx104_1); (try rw [show 0 * 5 = 0 from rfl] at hx104_1); (try rw [Addr.add_zero'] at hx104_1); (try rw [show ((0 : Int)).toNat = 0 from rfl] at hx104_2); (try rw [show 0 * 5 = 0 from rfl] at hx104_2); (try rw [Addr.add_zero'] at hx104_2); (try rw [show ((0 : Int)).toNat = 0 from rfl] at hx104_3); (try rw [show 0 * 5 = 0 from rfl] at hx104_3); (try rw [Addr.add_zero'] at hx104_3); (try rw [show ((0 : Int)).toNat = 0 from rfl] at hx104_4); (try rw [show 0 * 5 = 0 from rfl] at hx104_4); (try rw [Addr.add_zero'] at hx104_4); replace p104 := eq_true p104; replace q104 := eq_true q104; have p105 : 0 ≤ (1 : Int) := (by omega); have q105 : 1 < (t101.length : Int) := of_decide_eq_true (by first | (with_reducible assumption) | assumption); obtain ⟨ad105, e105, hx105_0, hx105_1, hx105_2, hx105_3, hx105_4⟩ := at_T30 (Kd.R_reads' HO103.out).2.2 1 p105 q105; obtain rfl : ad104 = ad105 := (by injection e105); (try simp only [show (1 : Int).toNat = 1 from rfl, Nat.reduceMul, Nat.reduceEqDiff, Go.Addr.add, ↓reduceIte] at hx105_0); (try simp only [show (1 : Int).toNat = 1 from rfl, Nat.reduceMul, Nat.reduceEqDiff, Go.Addr.add, ↓reduceIte] at hx105_1); (try simp only [show (1 : Int).toNat = 1 from rfl, Nat.reduceMul, Nat.reduceEqDiff, Go.Addr.add, ↓reduceIte] at hx105_2); (try simp only [show (1 : Int).toNat = 1 from rfl, Nat.reduceMul, Nat.reduceEqDiff, Go.Addr.add, ↓reduceIte] at hx105_3); (try simp only [show (1 : Int).toNat = 1 from rfl, Nat.reduceMul, Nat.reduceEqDiff, Go.Addr.add, ↓reduceIte] at hx105_4); have qi105 : (1 < t101.length) = True := eq_true (by omega); (try rw [show ((1 : Int)).toNat = 1 from rfl] at hx105_0); (try rw [show 1 * 5 = 5 from rfl] at hx105_0); (try rw [show ((1 : Int)).toNat = 1 from rfl] at hx105_1); (try rw [show 1 * 5 = 5 from rfl] at hx105_1); (try rw [show ((1 : Int)).toNat = 1 from rfl] at hx105_2); (try rw [show 1 * 5 = 5 from rfl] at hx105_2); (try rw [show ((1 : Int)).toNat = 1 from rfl] at hx105_3); (try rw [show 1 * 5 = 5 from rfl] at hx105_3); (try rw [show ((1 : Int)).toNat = 1 from rfl] at hx105_4); (try rw [show 1 * 5 = 5 from rfl] at hx105_4); replace p105 := eq_true p105; replace q105 := eq_true q105) | (go_at_call 14; (with_reducible refine (glyph_Text.calls _ _ t101 t106 _ ?side1 ?side2 A7.out).mono ?_); (case side1 => repeat (first | exact (Kd.R_reads' HO103.out).2.2 | (with_reducible refine Kd.C_alloc ?_ _) | (with_reducible refine Kd.C_drewN ?_ _) | (with_reducible refine Kd.C_drew ?_))); (case side2 => exact (Kd.R_reads' HO103.out).2.1); rintro e w10 ⟨rfl, hb⟩; have n0_ := Aside0.mk (Kd.R_below (by (with_reducible repeat (first | apply Kd.R_alloc | apply Kd.R_drewN | apply Kd.R_drew)); exact HO103.out) hb); have n1_ := Aside0.mk (below_step (by repeat (first | (with_reducible first | exact HB.out | apply below_alloc | apply pw_below_drewN | apply below_drew1) | exact HB.out)) hb); clear HO103; clear HB; have HO103 := n0_; have HB := n1_; clear n0_ n1_; (try clear hb); (try clear hb2); (try clear hk); (try clear hi)))
            go_ret
            exact ⟨by first | rfl | (simp [errW_none, errW_some] <;> rfl) | (simp [*, errW_none, errW_some] <;> rfl), by repeat (first | (with_reducible first | exact HB.out | apply below_alloc | apply pw_below_drewN | apply below_drew1) | exact HB.out)⟩
          · rw [if_neg c6] at H
            have c6b0 : (((rd_T30 t101 1).f0) == 2 && (((rd_T30 t101 1).f1) == 1 && (((rd_T30 t101 1).f2) == 65533 && (((rd_T30 t101 1).f3) && (((rd_T30 t101 1).f4) == 255))))) = false := by simpa using c6
            (try (have c6b1 : decide (((rd_T30 t101 1).f0) = 2 && (((rd_T30 t101 1).f1) == 1 && (((rd_T30 t101 1).f2) == 65533 && (((rd_T30 t101 1).f3) && (((rd_T30 t101 1).f4) == 255))))) = false := by simpa using c6))
            (try (have c6b2 : (((rd_T30 t101 1).f0) == 2 && (((rd_T30 t101 1).f1) == 1 && (((rd_T30 t101 1).f2) == 65533 && (((rd_T30 t101 1).f3) && (((rd_T30 t101 1).f4) == 255))))) = false := by simpa using c6))
            (try (have c6b3 : ¬ (((rd_T30 t101 1).f0) = 2 && (((rd_T30 t101 1).f1) == 1 && (((rd_T30 t101 1).f2) == 65533 && (((rd_T30 t101 1).f3) && (((rd_T30 t101 1).f4) == 255))))) := by simpa using c6))
            clear c6
            obtain rfl := Option.some.inj H
            go_enter Tryd.func13, Tryd.ntmps13
            go_wp2_with (first | ((with_reducible refine gate_callee (f := 21) rfl ?_); refine goesL_ (some 2) rfl rfl Tryd.func21 (by kernel_rfl) rfl #[.string (⟨#[195, 169, 255]⟩ : ByteArray)] rfl (by (try simp only [List.map_toArray, List.map_cons, List.map_nil]); first | done | rfl | (simp only [List.length_drop, List.length_take]; rfl)) ?_; (with_reducible refine (glyph_Cells.calls (⟨#[195, 169, 255]⟩ : ByteArray) t101 _ ?side1 A1.out).mono ?_); (case side1 => exact Utf.tabs_step HT.out (by repeat (first | (with_reducible first | exact HB.out | apply below_alloc | apply pw_below_drewN | apply below_drew1) | exact HB.out))); rintro e w11 ⟨v102, rfl, ho0, hb⟩; refine ⟨_, rfl, ?_⟩; have n0_ := Aside0.mk (Kd.R_lower ho0 (below_size (by repeat (first | (with_reducible first | exact HB.out | apply below_alloc | apply pw_below_drewN | apply below_drew1) | exact HB.out)))); have n1_ := Aside0.mk (below_step (by repeat (first | (with_reducible first | exact HB.out | apply below_alloc | apply pw_below_drewN | apply below_drew1) | exact HB.out)) hb); clear HB; have HO103 := n0_; have HB := n1_; clear n0_ n1_; (try clear hb); (try clear hb2); (try clear hk); (try clear hi); (try clear ho0); obtain ⟨Ao12, co12, eo12⟩ := Kd.R_slice HO103.out; subst eo12; have p104 : 0 ≤ (0 : Int) := (by omega); have q104 : 0 < (t101.length : Int) := of_decide_eq_true (by first | (with_reducible assumption) | assumption); obtain ⟨ad104, e104, hx104_0, hx104_1, hx104_2, hx104_3, hx104_4⟩ := at_T30 (Kd.R_reads' HO103.out).2.2 0 p104 q104; cases e104; have qi104 : (0 < t101.length) = True := eq_true (by omega); (try rw [show ((0 : Int)).toNat = 0 from rfl] at hx104_0); (try rw [show 0 * 5 = 0 from rfl] at hx104_0); (try rw [Addr.add_zero'] at hx104_0); (try rw [show ((0 : Int)).toNat = 0 from rfl] at hx104_1); (try rw [show 0 * 5 = 0 from rfl] at hx104_1); (try rw [Addr.add_zero'] at hx104_1); (try rw [show ((0 : Int)).toNat = 0 from rfl] at hx104_2); (try rw [show 0 * 5 = 0 from rfl] at hx104_2); (try rw [Addr.add_zero'] at hx104_2); (try rw [show ((0 : Int)).toNat = 0 from rfl] at hx104_3); (try rw [show 0 * 5 = 0 from rfl] at hx104_3); (try rw [Addr.add_zero'] at hx104_3); (try rw [show ((0 : Int)).toNat = 0 from rfl] at hx104_4); (try rw [show 0 * 5 = 0 from rfl] at hx104_4); (try rw [Addr.add_zero'] at hx104_4); replace p104 := eq_true p104; replace q104 := eq_true q104; have p105 : 0 ≤ (1 : Int) := (by omega); have q105 : 1 < (t101.length : Int) := of_decide_eq_true (by first | (with_reducible assumption) | assumption); obtain ⟨ad105, e105, hx105_0, hx105_1, hx105_2, hx105_3, hx105_4⟩ := at_T30 (Kd.R_reads' HO103.out).2.2 1 p105 q105; obtain rfl : ad104 = ad105 := (by injection e105); (try simp only [show (1 : Int).toNat = 1 from rfl, Nat.reduceMul, Nat.reduceEqDiff, Go.Addr.add, ↓reduceIte] at hx105_0); (try simp only [show (1 : Int).toNat = 1 from rfl, Nat.reduceMul, Nat.reduceEqDiff, Go.Addr.add, ↓reduceIte] at hx105_1); (try simp only [show (1 : Int).toNat = 1 from rfl, Nat.reduceMul, Nat.reduceEqDiff, Go.Addr.add, ↓reduceIte] at hx105_2); (try simp only [show (1 : Int).toNat = 1 from rfl, Nat.reduceMul, Nat.reduceEqDiff, Go.Addr.add, ↓reduceIte] at hx105_3); (try simp only [show (1 : Int).toNat = 1 from rfl, Nat.reduceMul, Nat.reduceEqDiff, Go.Addr.add, ↓reduceIte] at hx105_4); have qi105 : (1 < t101.length) = True := eq_true (by omega); (try rw [show ((1 : Int)).toNat = 1 from rfl] at hx105_0); (try rw [show 1 * 5 = 5 from rfl] at hx105_0); (try rw [show ((1 : Int)).toNat = 1 from rfl] at hx105_1); (try rw [show 1 * 5 = 5 from rfl] at hx105_1); (try rw [show ((1 : Int)).toNat = 1 from rfl] at hx105_2); (try rw [show 1 * 5 = 5 from rfl] at hx105_2); (try rw [show ((1 : Int)).toNat = 1 from rfl] at hx105_3); (try rw [show 1 * 5 = 5 from rfl] at hx105_3); (try rw [show ((1 : Int)).toNat = 1 from rfl] at hx105_4); (try rw [show 1 * 5 = 5 from rfl] at hx105_4); replace p105 := eq_true p105; replace q105 := eq_true q105))
            go_ret
            exact ⟨by first | rfl | (simp [errW_none, errW_some] <;> rfl) | (simp [*, errW_none, errW_some] <;> rfl), by repeat (first | (with_reducible first | exact HB.out | apply below_alloc | apply pw_below_drewN | apply below_drew1) | exact HB.out)⟩
        · rw [if_neg c5] at H
          exact absurd H (by simp)
      · rw [if_neg c4] at H
        have c4b0 : (((rd_T30 t101 0).f0) == 0 && (((rd_T30 t101 0).f1) == 2 && (((rd_T30 t101 0).f2) == 233 && (!((rd_T30 t101 0).f3) && (((rd_T30 t101 0).f4) == 0))))) = false := by simpa using c4
        (try (have c4b1 : decide (((rd_T30 t101 0).f0) = 0 && (((rd_T30 t101 0).f1) == 2 && (((rd_T30 t101 0).f2) == 233 && (!((rd_T30 t101 0).f3) && (((rd_T30 t101 0).f4) == 0))))) = false := by simpa using c4))
        (try (have c4b2 : (((rd_T30 t101 0).f0) == 0 && (((rd_T30 t101 0).f1) == 2 && (((rd_T30 t101 0).f2) == 233 && (!((rd_T30 t101 0).f3) && (((rd_T30 t101 0).f4) == 0))))) = false := by simpa using c4))
        (try (have c4b3 : ¬ (((rd_T30 t101 0).f0) = 0 && (((rd_T30 t101 0).f1) == 2 && (((rd_T30 t101 0).f2) == 233 && (!((rd_T30 t101 0).f3) && (((rd_T30 t101 0).f4) == 0))))) := by simpa using c4))
        clear c4
        obtain rfl := Option.some.inj H
        go_enter Tryd.func13, Tryd.ntmps13
        go_wp2_with (first | ((with_reducible refine gate_callee (f := 21) rfl ?_); refine goesL_ (some 2) rfl rfl Tryd.func21 (by kernel_rfl) rfl #[.string (⟨#[195, 169, 255]⟩ : ByteArray)] rfl (by (try simp only [List.map_toArray, List.map_cons, List.map_nil]); first | done | rfl | (simp only [List.length_drop, List.length_take]; rfl)) ?_; (with_reducible refine (glyph_Cells.calls (⟨#[195, 169, 255]⟩ : ByteArray) t101 _ ?side1 A1.out).mono ?_); (case side1 => exact Utf.tabs_step HT.out (by repeat (first | (with_reducible first | exact HB.out | apply below_alloc | apply pw_below_drewN | apply below_drew1) | exact HB.out))); rintro e w13 ⟨v102, rfl, ho0, hb⟩; refine ⟨_, rfl, ?_⟩; have n0_ := Aside0.mk (Kd.R_lower ho0 (below_size (by repeat (first | (with_reducible first | exact HB.out | apply below_alloc | apply pw_below_drewN | apply below_drew1) | exact HB.out)))); have n1_ := Aside0.mk (below_step (by repeat (first | (with_reducible first | exact HB.out | apply below_alloc | apply pw_below_drewN | apply below_drew1) | exact HB.out)) hb); clear HB; have HO103 := n0_; have HB := n1_; clear n0_ n1_; (try clear hb); (try clear hb2); (try clear hk); (try clear hi); (try clear ho0); obtain ⟨Ao14, co14, eo14⟩ := Kd.R_slice HO103.out; subst eo14; have p104 : 0 ≤ (0 : Int) := (by omega); have q104 : 0 < (t101.length : Int) := of_decide_eq_true (by first | (with_reducible assumption) | assumption); obtain ⟨ad104, e104, hx104_0, hx104_1, hx104_2, hx104_3, hx104_4⟩ := at_T30 (Kd.R_reads' HO103.out).2.2 0 p104 q104; cases e104; have qi104 : (0 < t101.length) = True := eq_true (by omega); (try rw [show ((0 : Int)).toNat = 0 from rfl] at hx104_0); (try rw [show 0 * 5 = 0 from rfl] at hx104_0); (try rw [Addr.add_zero'] at hx104_0); (try rw [show ((0 : Int)).toNat = 0 from rfl] at hx104_1); (try rw [show 0 * 5 = 0 from rfl] at hx104_1); (try rw [Addr.add_zero'] at hx104_1); (try rw [show ((0 : Int)).toNat = 0 from rfl] at hx104_2); (try rw [show 0 * 5 = 0 from rfl] at hx104_2); (try rw [Addr.add_zero'] at hx104_2); (try rw [show ((0 : Int)).toNat = 0 from rfl] at hx104_3); (try rw [show 0 * 5 = 0 from rfl] at hx104_3); (try rw [Addr.add_zero'] at hx104_3); (try rw [show ((0 : Int)).toNat = 0 from rfl] at hx104_4); (try rw [show 0 * 5 = 0 from rfl] at hx104_4); (try rw [Addr.add_zero'] at hx104_4); replace p104 := eq_true p104; replace q104 := eq_true q104))
        go_ret
        exact ⟨by first | rfl | (simp [errW_none, errW_some] <;> rfl) | (simp [*, errW_none, errW_some] <;> rfl), by repeat (first | (with_reducible first | exact HB.out | apply below_alloc | apply pw_below_drewN | apply below_drew1) | exact HB.out)⟩
    · rw [if_neg c3] at H
      exact absurd H (by simp)
  · rw [if_neg c2] at H
    have c2b0 : ((t101.length : Int) == 2) = false := beq_eq_false_iff_ne.mpr c2
    have c2b1 : ((t101.length : Int) != 2) = true := bne_iff_ne.mpr c2
    obtain rfl := Option.some.inj H
    go_enter Tryd.func13, Tryd.ntmps13
    go_wp2_with (first | ((with_reducible refine gate_callee (f := 21) rfl ?_); refine goesL_ (some 2) rfl rfl Tryd.func21 (by kernel_rfl) rfl #[.string (⟨#[195, 169, 255]⟩ : ByteArray)] rfl (by (try simp only [List.map_toArray, List.map_cons, List.map_nil]); first | done | rfl | (simp only [List.length_drop, List.length_take]; rfl)) ?_; (with_reducible refine (glyph_Cells.calls (⟨#[195, 169, 255]⟩ : ByteArray) t101 _ ?side1 A1.out).mono ?_); (case side1 => exact Utf.tabs_step HT.out (by repeat (first | (with_reducible first | exact HB.out | apply below_alloc | apply pw_below_drewN | apply below_drew1) | exact HB.out))); rintro e w15 ⟨v102, rfl, ho0, hb⟩; refine ⟨_, rfl, ?_⟩; have n0_ := Aside0.mk (Kd.R_lower ho0 (below_size (by repeat (first | (with_reducible first | exact HB.out | apply below_alloc | apply pw_below_drewN | apply below_drew1) | exact HB.out)))); have n1_ := Aside0.mk (below_step (by repeat (first | (with_reducible first | exact HB.out | apply below_alloc | apply pw_below_drewN | apply below_drew1) | exact HB.out)) hb); clear HB; have HO103 := n0_; have HB := n1_; clear n0_ n1_; (try clear hb); (try clear hb2); (try clear hk); (try clear hi); (try clear ho0); obtain ⟨Ao16, co16, eo16⟩ := Kd.R_slice HO103.out; subst eo16))
    go_ret
    exact ⟨by first | rfl | (simp [errW_none, errW_some] <;> rfl) | (simp [*, errW_none, errW_some] <;> rfl), by repeat (first | (with_reducible first | exact HB.out | apply below_alloc | apply pw_below_drewN | apply below_drew1) | exact HB.out)⟩

/-! ### siglumref01_written: function 39 -/
mutual
def siglumref01_written.j0 : Nat → Int → Bool → Option (List Int)
  | 0, _, _ => none
  | k + 1, x0, x16 => if x16 = true then (siglumref01_written.j1 k 65533) else (siglumref01_written.j1 k x0)
def siglumref01_written.j1 : Nat → Int → Option (List Int)
  | 0, _ => none
  | k + 1, x0 => if x0 < 128 then (some (([(x0) % 256] : List Int))) else (if x0 < 2048 then (some (([Go.bits .or .u8 192 ((x0 / 64) % 256), Go.bits .or .u8 128 ((Go.bits .and .i32 x0 63) % 256)] : List Int))) else (if x0 < 65536 then (some (([Go.bits .or .u8 224 ((x0 / 4096) % 256), Go.bits .or .u8 128 ((Go.bits .and .i32 (x0 / 64) 63) % 256), Go.bits .or .u8 128 ((Go.bits .and .i32 x0 63) % 256)] : List Int))) else (some (([Go.bits .or .u8 240 ((x0 / 262144) % 256), Go.bits .or .u8 128 ((Go.bits .and .i32 (x0 / 4096) 63) % 256), Go.bits .or .u8 128 ((Go.bits .and .i32 (x0 / 64) 63) % 256), Go.bits .or .u8 128 ((Go.bits .and .i32 x0 63) % 256)] : List Int)))))
end
def siglumref01_written.f (k : Nat) (a0 : Int) : Option (List Int) := if a0 < 0 then (siglumref01_written.j0 k a0 true) else (if a0 > 1114111 then (siglumref01_written.j0 k a0 true) else (if a0 ≥ 55296 then (siglumref01_written.j0 k a0 (decide (a0 ≤ 57343))) else (siglumref01_written.j0 k a0 false)))
theorem siglumref01_written.mono_l : ∀ k, (∀ y0 y1, LeO (siglumref01_written.j0 k y0 y1) (siglumref01_written.j0 (k + 1) y0 y1)) ∧ (∀ y0, LeO (siglumref01_written.j1 k y0) (siglumref01_written.j1 (k + 1) y0))
  | 0 => ⟨fun _ _ r h => by simp [siglumref01_written.j0] at h, fun _ r h => by simp [siglumref01_written.j1] at h⟩
  | k + 1 => by
    obtain ⟨ih0, ih1⟩ := siglumref01_written.mono_l k
    refine ⟨?_, ?_⟩
    · intro y0 y1
      unfold siglumref01_written.j0
      repeat' first
      | (with_reducible exact ih0 _ _)
      | (with_reducible exact ih1 _)
      | (with_reducible exact LeO.refl _)
      | (with_reducible exact LeO.none _)
      | (with_reducible refine LeO.ite ?_ ?_)
      | (with_reducible refine LeO.bind ?_ (fun _ => ?_))
      | exact ih0 _ _
      | exact ih1 _
      | exact LeO.none _
      | refine LeO.ite ?_ ?_
      | refine LeO.bind ?_ (fun _ => ?_)
    · intro y0
      unfold siglumref01_written.j1
      repeat' first
      | (with_reducible exact ih0 _ _)
      | (with_reducible exact ih1 _)
      | (with_reducible exact LeO.refl _)
      | (with_reducible exact LeO.none _)
      | (with_reducible refine LeO.ite ?_ ?_)
      | (with_reducible refine LeO.bind ?_ (fun _ => ?_))
      | exact ih0 _ _
      | exact ih1 _
      | exact LeO.none _
      | refine LeO.ite ?_ ?_
      | refine LeO.bind ?_ (fun _ => ?_)
theorem siglumref01_written.mono : ∀ a0 k, LeO (siglumref01_written.f k a0) (siglumref01_written.f (k + 1) a0) := by
  intro a0 k
  obtain ⟨ih0, ih1⟩ := siglumref01_written.mono_l k
  unfold siglumref01_written.f
  repeat' first
      | (with_reducible exact ih0 _ _)
      | (with_reducible exact ih1 _)
      | (with_reducible exact LeO.refl _)
      | (with_reducible exact LeO.none _)
      | (with_reducible refine LeO.ite ?_ ?_)
      | (with_reducible refine LeO.bind ?_ (fun _ => ?_))
      | exact ih0 _ _
      | exact ih1 _
      | exact LeO.none _
      | refine LeO.ite ?_ ?_
      | refine LeO.bind ?_ (fun _ => ?_)
set_option maxHeartbeats 8000000 in
set_option maxRecDepth 100000 in
theorem siglumref01_written.calls (k : Nat) (a0 : Int) (r : List Int) (w : World) (h : siglumref01_written.f k a0 = some r) :
    Calls Tryd.prog 39 #[.int .i32 a0] w fun e w' => ∃ v0_ : Value, e = .returned (v0_) ∧ Kd.R (Kd.int .u8) 5 w' w.heap.size (fun _ => True) v0_ r ∧ Below w.heap.size w w' := by
  have HB := Aside0.mk (Below.refl w.heap.size w)
  have H : (if a0 < 0 then (siglumref01_written.j0 k a0 true) else (if a0 > 1114111 then (siglumref01_written.j0 k a0 true) else (if a0 ≥ 55296 then (siglumref01_written.j0 k a0 (decide (a0 ≤ 57343))) else (siglumref01_written.j0 k a0 false)))) = some r := h
  clear h
  have HC2 := Aside0.mk H
  clear H
  go_enter Tryd.func39, Tryd.ntmps39
  go_upto_region 1 with (fail)
  go_cut [16] (fun v16 wc => ∃ (kq : Nat) (x16_1 : Bool), v16 = .bool x16_1 ∧ Aside0 (siglumref01_written.j0 kq a0 x16_1 = some r) ∧ Aside0 (kq ≤ k) ∧ Aside0 (Below w.heap.size w wc))
  case first =>
    have H := HC2.out
    clear HC2
    by_cases c3 : a0 < 0
    · rw [if_pos c3] at H
      have c3b0 : decide (a0 < 0) = true := decide_eq_true c3
      clear c3
      (first | rw [c3b0] | (simp only [i64_w, i32_w]; rw [c3b0]) | skip)
      have H' := Aside0.mk H
      clear H
      go_wp2
      go_meet
      case rel => exact ⟨_, (true), (by first | rfl | (simp; done) | (simp [*]; done)), H', ⟨by first | omega | exact Nat.le_refl _⟩, ⟨by repeat (first | (with_reducible first | exact HB.out | apply below_alloc | apply pw_below_drewN | apply below_drew1) | exact HB.out)⟩⟩
    · rw [if_neg c3] at H
      have c3b0 : decide (a0 < 0) = false := decide_eq_false c3
      clear c3
      (first | rw [c3b0] | (simp only [i64_w, i32_w]; rw [c3b0]) | skip)
      by_cases c4 : a0 > 1114111
      · rw [if_pos c4] at H
        have c4b0 : decide (1114111 < a0) = true := decide_eq_true c4
        clear c4
        have H' := Aside0.mk H
        clear H
        go_wp2
        go_meet
        case rel => exact ⟨_, (true), (by first | rfl | (simp; done) | (simp [*]; done)), H', ⟨by first | omega | exact Nat.le_refl _⟩, ⟨by repeat (first | (with_reducible first | exact HB.out | apply below_alloc | apply pw_below_drewN | apply below_drew1) | exact HB.out)⟩⟩
      · rw [if_neg c4] at H
        have c4b0 : decide (1114111 < a0) = false := decide_eq_false c4
        clear c4
        by_cases c5 : a0 ≥ 55296
        · rw [if_pos c5] at H
          have c5b0 : decide (55296 ≤ a0) = true := decide_eq_true c5
          clear c5
          have H' := Aside0.mk H
          clear H
          go_wp2
          go_meet
          case rel => exact ⟨_, (decide (a0 ≤ 57343)), (by first | rfl | (simp; done) | (simp [*]; done)), H', ⟨by first | omega | exact Nat.le_refl _⟩, ⟨by repeat (first | (with_reducible first | exact HB.out | apply below_alloc | apply pw_below_drewN | apply below_drew1) | exact HB.out)⟩⟩
        · rw [if_neg c5] at H
          have c5b0 : decide (55296 ≤ a0) = false := decide_eq_false c5
          clear c5
          have H' := Aside0.mk H
          clear H
          go_wp2
          go_meet
          case rel => exact ⟨_, (false), (by first | rfl | (simp; done) | (simp [*]; done)), H', ⟨by first | omega | exact Nat.le_refl _⟩, ⟨by repeat (first | (with_reducible first | exact HB.out | apply below_alloc | apply pw_below_drewN | apply below_drew1) | exact HB.out)⟩⟩
  case rest =>
    clear HC2
    try clear p2
    try clear c3
    try clear c3b0
    try clear c4
    try clear c4b0
    try clear c5
    try clear c5b0
    obtain ⟨kq, x16_1, rfl, HA, HJ1, HB⟩ := hcut
    cases kq with
    | zero => exact absurd HA.out (by simp [siglumref01_written.j0])
    | succ kj1 =>
      have H := HA.out
      clear HA
      simp only [siglumref01_written.j0] at H
      have HC6 := Aside0.mk H
      clear H
      go_upto_if 16 with (fail)
      go_cut [0] (fun v0 wc => ∃ (kq : Nat) (x0_5 : Int), v0 = .int .i32 x0_5 ∧ Aside0 (siglumref01_written.j1 kq x0_5 = some r) ∧ Aside0 (kq ≤ kj1) ∧ Aside0 (Below w.heap.size w wc))
      case first =>
        have H := HC6.out
        clear HC6
        by_cases c7 : x16_1 = true
        · subst c7
          have H1 : (siglumref01_written.j1 kj1 65533) = some r := by rw [if_pos rfl] at H; exact H
          clear H
          have H := H1
          clear H1
          have H' := Aside0.mk H
          clear H
          go_wp2
          go_meet
          case rel => exact ⟨_, (65533), (by first | rfl | (simp; done) | (simp [*]; done)), H', ⟨by have := HJ1.out; first | omega | exact Nat.le_refl _⟩, ⟨by repeat (first | (with_reducible first | exact HB.out | apply below_alloc | apply pw_below_drewN | apply below_drew1) | exact HB.out)⟩⟩
        · replace c7 := Bool.eq_false_iff.mpr c7
          subst c7
          have H1 : (siglumref01_written.j1 kj1 a0) = some r := by rw [if_neg (show ¬ (false = true) by decide)] at H; exact H
          clear H
          have H := H1
          clear H1
          have H' := Aside0.mk H
          clear H
          go_wp2
          go_meet
          case rel => exact ⟨_, (a0), (by first | rfl | (simp; done) | (simp [*]; done)), H', ⟨by have := HJ1.out; first | omega | exact Nat.le_refl _⟩, ⟨by repeat (first | (with_reducible first | exact HB.out | apply below_alloc | apply pw_below_drewN | apply below_drew1) | exact HB.out)⟩⟩
      case rest =>
        clear HC6
        try clear p2
        try clear c3
        try clear c3b0
        try clear c4
        try clear c4b0
        try clear c5
        try clear c5b0
        try clear c7
        try clear p2
        obtain ⟨kq, x0_5, rfl, HA, HJ5, HB⟩ := hcut
        cases kq with
        | zero => exact absurd HA.out (by simp [siglumref01_written.j1])
        | succ kj5 =>
          have H := HA.out
          clear HA
          simp only [siglumref01_written.j1] at H
          by_cases c8 : x0_5 < 128
          · rw [if_pos c8] at H
            have c8b0 : decide (x0_5 < 128) = true := decide_eq_true c8
            clear c8
            obtain ⟨y107, hy107⟩ : ∃ y_ : List Int, y_ = (([(x0_5) % 256] : List Int)) := ⟨_, rfl⟩
            replace H : (some y107) = some r := by first | (rw [hy107]; with_reducible exact H) | (have H2_ := (Option.bind_some _ _).symm.trans H; rw [hy107]; with_reducible exact H2_) | (have H2_ := (Option.bind_some _ _).symm.trans H; with_reducible exact H2_) | with_reducible exact H | (rw [hy107]; exact H) | exact H
            have Ny107 := Aside0.mk hy107
            clear hy107
            obtain rfl := Option.some.inj H
            go_wp2_with (first | ((with_reducible refine gate_dst (N := 22) rfl ?_); refine Kd.R_lit (Kd.int .u8) _ 5 ?hg (N := 22) ?hd (xs := ([(x0_5) % 256] : List Int)) (inner := [.int .u8 ((x0_5) % 256)]) (ok := fun _ => True) (okp := fun _ => True) ?hr ?hp (fun _ hk => hk) trivial (Below.refl _ _) (Nat.le_refl _) (by simp) ?_; (case hd => rfl); (case hg => rfl); (case hr => first | (go_simp; done) | (go_simp; rfl)); (case hp => exact (Reps.one (show Kd.M (Kd.int .u8) _ _ _ ((x0_5) % 256) [.int .u8 ((x0_5) % 256)] from rfl) (Reps.none _ _))); intro v108 w9 ho10 hb hg_ hnew_; clear hg_ hnew_; (first | rw [← Ny107.out] at ho10 | (simp only [Int.reduceToNat] at ho10; rw [← Ny107.out] at ho10)); have n0_ := Aside0.mk (Kd.R_lower ho10 (below_size (by repeat (first | (with_reducible first | exact HB.out | apply below_alloc | apply pw_below_drewN | apply below_drew1) | exact HB.out)))); have n1_ := Aside0.mk (below_step (by repeat (first | (with_reducible first | exact HB.out | apply below_alloc | apply pw_below_drewN | apply below_drew1) | exact HB.out)) hb); clear HB; have HO109 := n0_; have HB := n1_; clear n0_ n1_; clear hb ho10))
            go_ret
            exact ⟨_, by first | rfl | (simp [errW_none, errW_some] <;> rfl) | (simp [*, errW_none, errW_some] <;> rfl), by (with_reducible repeat (first | apply Kd.R_alloc | apply Kd.R_drewN | apply Kd.R_drew)); exact HO109.out, by repeat (first | (with_reducible first | exact HB.out | apply below_alloc | apply pw_below_drewN | apply below_drew1) | exact HB.out)⟩
          · rw [if_neg c8] at H
            have c8b0 : decide (x0_5 < 128) = false := decide_eq_false c8
            clear c8
            by_cases c11 : x0_5 < 2048
            · rw [if_pos c11] at H
              have c11b0 : decide (x0_5 < 2048) = true := decide_eq_true c11
              clear c11
              obtain ⟨y110, hy110⟩ : ∃ y_ : List Int, y_ = (([Go.bits .or .u8 192 ((x0_5 / 64) % 256), Go.bits .or .u8 128 ((Go.bits .and .i32 x0_5 63) % 256)] : List Int)) := ⟨_, rfl⟩
              replace H : (some y110) = some r := by first | (rw [hy110]; with_reducible exact H) | (have H2_ := (Option.bind_some _ _).symm.trans H; rw [hy110]; with_reducible exact H2_) | (have H2_ := (Option.bind_some _ _).symm.trans H; with_reducible exact H2_) | with_reducible exact H | (rw [hy110]; exact H) | exact H
              have Ny110 := Aside0.mk hy110
              clear hy110
              obtain rfl := Option.some.inj H
              go_wp2_with (first | ((with_reducible refine gate_dst (N := 34) rfl ?_); refine Kd.R_lit (Kd.int .u8) _ 5 ?hg (N := 34) ?hd (xs := ([Go.bits .or .u8 192 ((x0_5 / 64) % 256), Go.bits .or .u8 128 ((Go.bits .and .i32 x0_5 63) % 256)] : List Int)) (inner := [.int .u8 (Go.bits .or .u8 192 ((x0_5 / 64) % 256)), .int .u8 (Go.bits .or .u8 128 ((Go.bits .and .i32 x0_5 63) % 256))]) (ok := fun _ => True) (okp := fun _ => True) ?hr ?hp (fun _ hk => hk) trivial (Below.refl _ _) (Nat.le_refl _) (by simp) ?_; (case hd => rfl); (case hg => rfl); (case hr => first | (go_simp; done) | (go_simp; rfl)); (case hp => exact (Reps.one (show Kd.M (Kd.int .u8) _ _ _ (Go.bits .or .u8 192 ((x0_5 / 64) % 256)) [.int .u8 (Go.bits .or .u8 192 ((x0_5 / 64) % 256))] from rfl) (Reps.one (show Kd.M (Kd.int .u8) _ _ _ (Go.bits .or .u8 128 ((Go.bits .and .i32 x0_5 63) % 256)) [.int .u8 (Go.bits .or .u8 128 ((Go.bits .and .i32 x0_5 63) % 256))] from rfl) (Reps.none _ _)))); intro v111 w12 ho13 hb hg_ hnew_; clear hg_ hnew_; (first | rw [← Ny110.out] at ho13 | (simp only [Int.reduceToNat] at ho13; rw [← Ny110.out] at ho13)); have n0_ := Aside0.mk (Kd.R_lower ho13 (below_size (by repeat (first | (with_reducible first | exact HB.out | apply below_alloc | apply pw_below_drewN | apply below_drew1) | exact HB.out)))); have n1_ := Aside0.mk (below_step (by repeat (first | (with_reducible first | exact HB.out | apply below_alloc | apply pw_below_drewN | apply below_drew1) | exact HB.out)) hb); clear HB; have HO112 := n0_; have HB := n1_; clear n0_ n1_; clear hb ho13))
              go_ret
              exact ⟨_, by first | rfl | (simp [errW_none, errW_some] <;> rfl) | (simp [*, errW_none, errW_some] <;> rfl), by (with_reducible repeat (first | apply Kd.R_alloc | apply Kd.R_drewN | apply Kd.R_drew)); exact HO112.out, by repeat (first | (with_reducible first | exact HB.out | apply below_alloc | apply pw_below_drewN | apply below_drew1) | exact HB.out)⟩
            · rw [if_neg c11] at H
              have c11b0 : decide (x0_5 < 2048) = false := decide_eq_false c11
              clear c11
              by_cases c14 : x0_5 < 65536
              · rw [if_pos c14] at H
                have c14b0 : decide (x0_5 < 65536) = true := decide_eq_true c14
                clear c14
                obtain ⟨y113, hy113⟩ : ∃ y_ : List Int, y_ = (([Go.bits .or .u8 224 ((x0_5 / 4096) % 256), Go.bits .or .u8 128 ((Go.bits .and .i32 (x0_5 / 64) 63) % 256), Go.bits .or .u8 128 ((Go.bits .and .i32 x0_5 63) % 256)] : List Int)) := ⟨_, rfl⟩
                replace H : (some y113) = some r := by first | (rw [hy113]; with_reducible exact H) | (have H2_ := (Option.bind_some _ _).symm.trans H; rw [hy113]; with_reducible exact H2_) | (have H2_ := (Option.bind_some _ _).symm.trans H; with_reducible exact H2_) | with_reducible exact H | (rw [hy113]; exact H) | exact H
                have Ny113 := Aside0.mk hy113
                clear hy113
                obtain rfl := Option.some.inj H
                go_wp2_with (first | ((with_reducible refine gate_dst (N := 51) rfl ?_); refine Kd.R_lit (Kd.int .u8) _ 5 ?hg (N := 51) ?hd (xs := ([Go.bits .or .u8 224 ((x0_5 / 4096) % 256), Go.bits .or .u8 128 ((Go.bits .and .i32 (x0_5 / 64) 63) % 256), Go.bits .or .u8 128 ((Go.bits .and .i32 x0_5 63) % 256)] : List Int)) (inner := [.int .u8 (Go.bits .or .u8 224 ((x0_5 / 4096) % 256)), .int .u8 (Go.bits .or .u8 128 ((Go.bits .and .i32 (x0_5 / 64) 63) % 256)), .int .u8 (Go.bits .or .u8 128 ((Go.bits .and .i32 x0_5 63) % 256))]) (ok := fun _ => True) (okp := fun _ => True) ?hr ?hp (fun _ hk => hk) trivial (Below.refl _ _) (Nat.le_refl _) (by simp) ?_; (case hd => rfl); (case hg => rfl); (case hr => first | (go_simp; done) | (go_simp; rfl)); (case hp => exact (Reps.one (show Kd.M (Kd.int .u8) _ _ _ (Go.bits .or .u8 224 ((x0_5 / 4096) % 256)) [.int .u8 (Go.bits .or .u8 224 ((x0_5 / 4096) % 256))] from rfl) (Reps.one (show Kd.M (Kd.int .u8) _ _ _ (Go.bits .or .u8 128 ((Go.bits .and .i32 (x0_5 / 64) 63) % 256)) [.int .u8 (Go.bits .or .u8 128 ((Go.bits .and .i32 (x0_5 / 64) 63) % 256))] from rfl) (Reps.one (show Kd.M (Kd.int .u8) _ _ _ (Go.bits .or .u8 128 ((Go.bits .and .i32 x0_5 63) % 256)) [.int .u8 (Go.bits .or .u8 128 ((Go.bits .and .i32 x0_5 63) % 256))] from rfl) (Reps.none _ _))))); intro v114 w15 ho16 hb hg_ hnew_; clear hg_ hnew_; (first | rw [← Ny113.out] at ho16 | (simp only [Int.reduceToNat] at ho16; rw [← Ny113.out] at ho16)); have n0_ := Aside0.mk (Kd.R_lower ho16 (below_size (by repeat (first | (with_reducible first | exact HB.out | apply below_alloc | apply pw_below_drewN | apply below_drew1) | exact HB.out)))); have n1_ := Aside0.mk (below_step (by repeat (first | (with_reducible first | exact HB.out | apply below_alloc | apply pw_below_drewN | apply below_drew1) | exact HB.out)) hb); clear HB; have HO115 := n0_; have HB := n1_; clear n0_ n1_; clear hb ho16))
                go_ret
                exact ⟨_, by first | rfl | (simp [errW_none, errW_some] <;> rfl) | (simp [*, errW_none, errW_some] <;> rfl), by (with_reducible repeat (first | apply Kd.R_alloc | apply Kd.R_drewN | apply Kd.R_drew)); exact HO115.out, by repeat (first | (with_reducible first | exact HB.out | apply below_alloc | apply pw_below_drewN | apply below_drew1) | exact HB.out)⟩
              · rw [if_neg c14] at H
                have c14b0 : decide (x0_5 < 65536) = false := decide_eq_false c14
                clear c14
                obtain ⟨y116, hy116⟩ : ∃ y_ : List Int, y_ = (([Go.bits .or .u8 240 ((x0_5 / 262144) % 256), Go.bits .or .u8 128 ((Go.bits .and .i32 (x0_5 / 4096) 63) % 256), Go.bits .or .u8 128 ((Go.bits .and .i32 (x0_5 / 64) 63) % 256), Go.bits .or .u8 128 ((Go.bits .and .i32 x0_5 63) % 256)] : List Int)) := ⟨_, rfl⟩
                replace H : (some y116) = some r := by first | (rw [hy116]; with_reducible exact H) | (have H2_ := (Option.bind_some _ _).symm.trans H; rw [hy116]; with_reducible exact H2_) | (have H2_ := (Option.bind_some _ _).symm.trans H; with_reducible exact H2_) | with_reducible exact H | (rw [hy116]; exact H) | exact H
                have Ny116 := Aside0.mk hy116
                clear hy116
                obtain rfl := Option.some.inj H
                go_wp2_with (first | ((with_reducible refine gate_dst (N := 70) rfl ?_); refine Kd.R_lit (Kd.int .u8) _ 5 ?hg (N := 70) ?hd (xs := ([Go.bits .or .u8 240 ((x0_5 / 262144) % 256), Go.bits .or .u8 128 ((Go.bits .and .i32 (x0_5 / 4096) 63) % 256), Go.bits .or .u8 128 ((Go.bits .and .i32 (x0_5 / 64) 63) % 256), Go.bits .or .u8 128 ((Go.bits .and .i32 x0_5 63) % 256)] : List Int)) (inner := [.int .u8 (Go.bits .or .u8 240 ((x0_5 / 262144) % 256)), .int .u8 (Go.bits .or .u8 128 ((Go.bits .and .i32 (x0_5 / 4096) 63) % 256)), .int .u8 (Go.bits .or .u8 128 ((Go.bits .and .i32 (x0_5 / 64) 63) % 256)), .int .u8 (Go.bits .or .u8 128 ((Go.bits .and .i32 x0_5 63) % 256))]) (ok := fun _ => True) (okp := fun _ => True) ?hr ?hp (fun _ hk => hk) trivial (Below.refl _ _) (Nat.le_refl _) (by simp) ?_; (case hd => rfl); (case hg => rfl); (case hr => first | (go_simp; done) | (go_simp; rfl)); (case hp => exact (Reps.one (show Kd.M (Kd.int .u8) _ _ _ (Go.bits .or .u8 240 ((x0_5 / 262144) % 256)) [.int .u8 (Go.bits .or .u8 240 ((x0_5 / 262144) % 256))] from rfl) (Reps.one (show Kd.M (Kd.int .u8) _ _ _ (Go.bits .or .u8 128 ((Go.bits .and .i32 (x0_5 / 4096) 63) % 256)) [.int .u8 (Go.bits .or .u8 128 ((Go.bits .and .i32 (x0_5 / 4096) 63) % 256))] from rfl) (Reps.one (show Kd.M (Kd.int .u8) _ _ _ (Go.bits .or .u8 128 ((Go.bits .and .i32 (x0_5 / 64) 63) % 256)) [.int .u8 (Go.bits .or .u8 128 ((Go.bits .and .i32 (x0_5 / 64) 63) % 256))] from rfl) (Reps.one (show Kd.M (Kd.int .u8) _ _ _ (Go.bits .or .u8 128 ((Go.bits .and .i32 x0_5 63) % 256)) [.int .u8 (Go.bits .or .u8 128 ((Go.bits .and .i32 x0_5 63) % 256))] from rfl) (Reps.none _ _)))))); intro v117 w17 ho18 hb hg_ hnew_; clear hg_ hnew_; (first | rw [← Ny116.out] at ho18 | (simp only [Int.reduceToNat] at ho18; rw [← Ny116.out] at ho18)); have n0_ := Aside0.mk (Kd.R_lower ho18 (below_size (by repeat (first | (with_reducible first | exact HB.out | apply below_alloc | apply pw_below_drewN | apply below_drew1) | exact HB.out)))); have n1_ := Aside0.mk (below_step (by repeat (first | (with_reducible first | exact HB.out | apply below_alloc | apply pw_below_drewN | apply below_drew1) | exact HB.out)) hb); clear HB; have HO118 := n0_; have HB := n1_; clear n0_ n1_; clear hb ho18))
                go_ret
                exact ⟨_, by first | rfl | (simp [errW_none, errW_some] <;> rfl) | (simp [*, errW_none, errW_some] <;> rfl), by (with_reducible repeat (first | apply Kd.R_alloc | apply Kd.R_drewN | apply Kd.R_drew)); exact HO118.out, by repeat (first | (with_reducible first | exact HB.out | apply below_alloc | apply pw_below_drewN | apply below_drew1) | exact HB.out)⟩

end Go.Proofs.YtfcobfjjcocggaaDoor.Q
