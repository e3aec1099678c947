-- Printed by hprint.py (this session's program over the kit's print) out of the translation; the parts 'by hand' are the session's own.
import Derived.Test.YtalogampkkjcdaaDoorCx0
import Derived.Test.YtalogampkkjcdaaDoorCx7
namespace Go.Proofs.YtalogampkkjcdaaDoor.C
open Go.RowKit Go.Proofs.YtalogampkkjcdaaDoorW.PrintWords Go.Proofs.YtalogampkkjcdaaDoorW.PrintLast Go.Proofs.YtalogampkkjcdaaDoorW.PrintMore
attribute [local go_sem] max2_int min2_int max_two min_two max_three min_three max_four min_four   -- for this text's walks alone
set_option linter.unusedVariables false
set_option linter.unusedSimpArgs false

/-! ### siglumlaw04_ScanJoins: function 9 -/
mutual
def siglumlaw04_ScanJoins.l0 : Nat → ByteArray → List (S51) → Int → Int → List (S51) → Int → Int → Option (Bool)
  | 0, _, _, _, _, _, _, _ => none
  | k + 1, x0, x3, x4, x5, x25, x26, x27 => if x27 < x26 then (if 0 ≤ x27 then (if x27 < (x25.length : Int) then (if ((rd_T51 x25 x27).f1) = x5 then (if ((rd_T51 x25 x27).f2).toList = ([] : List UInt8) then (siglumlaw04_ScanJoins.j1 k x0 x3 x4 x5 x27 x25 x26 x27 true ((rd_T51 x25 x27).f0) ((rd_T51 x25 x27).f1) ((rd_T51 x25 x27).f2)) else (if (((rd_T51 x25 x27).f2).size : Int) > (wrap64 ((x0.size : Int) - x5)) then (siglumlaw04_ScanJoins.j1 k x0 x3 x4 x5 x27 x25 x26 x27 true ((rd_T51 x25 x27).f0) ((rd_T51 x25 x27).f1) ((rd_T51 x25 x27).f2)) else (if 0 ≤ x5 then (if x5 ≤ (wrap64 (x5 + (((rd_T51 x25 x27).f2).size : Int))) then (if (wrap64 (x5 + (((rd_T51 x25 x27).f2).size : Int))) ≤ (x0.size : Int) then (if (x0.extract (x5 : Int).toNat ((wrap64 (x5 + (((rd_T51 x25 x27).f2).size : Int))) : Int).toNat).toList = ((rd_T51 x25 x27).f2).toList then (if ((rd_T51 x25 x27).f0) < 1 then (siglumlaw04_ScanJoins.j1 k x0 x3 x4 x5 x27 x25 x26 x27 true ((rd_T51 x25 x27).f0) ((rd_T51 x25 x27).f1) ((rd_T51 x25 x27).f2)) else (siglumlaw04_ScanJoins.j1 k x0 x3 x4 x5 x27 x25 x26 x27 (decide (((rd_T51 x25 x27).f0) > 5)) ((rd_T51 x25 x27).f0) ((rd_T51 x25 x27).f1) ((rd_T51 x25 x27).f2))) else (siglumlaw04_ScanJoins.j1 k x0 x3 x4 x5 x27 x25 x26 x27 true ((rd_T51 x25 x27).f0) ((rd_T51 x25 x27).f1) ((rd_T51 x25 x27).f2))) else (none)) else (none)) else (none)))) else (siglumlaw04_ScanJoins.j1 k x0 x3 x4 x5 x27 x25 x26 x27 true ((rd_T51 x25 x27).f0) ((rd_T51 x25 x27).f1) ((rd_T51 x25 x27).f2))) else (none)) else (none)) else (if x4 = 0 then (some (x5 == (x0.size : Int))) else (some false))
def siglumlaw04_ScanJoins.j1 : Nat → ByteArray → List (S51) → Int → Int → Int → List (S51) → Int → Int → Bool → Int → Int → ByteArray → Option (Bool)
  | 0, _, _, _, _, _, _, _, _, _, _, _, _ => none
  | k + 1, x0, x3, x4, x5, x6, x25, x26, x27, x73, x238000, x238001, x238002 => if x73 = true then (some false) else (if x6 > 0 then (if 0 ≤ (wrap64 (x6 - 1)) then (if (wrap64 (x6 - 1)) < (x3.length : Int) then (if x238000 = ((rd_T51 x3 (wrap64 (x6 - 1))).f0) then (if x238000 ≤ 2 then (some false) else (siglumlaw04_ScanJoins.l0 k x0 x3 x4 (wrap64 (x5 + (x238002.size : Int))) x25 x26 (wrap64 (x27 + 1)))) else (siglumlaw04_ScanJoins.l0 k x0 x3 x4 (wrap64 (x5 + (x238002.size : Int))) x25 x26 (wrap64 (x27 + 1)))) else (none)) else (none)) else (siglumlaw04_ScanJoins.l0 k x0 x3 x4 (wrap64 (x5 + (x238002.size : Int))) x25 x26 (wrap64 (x27 + 1))))
end
def siglumlaw04_ScanJoins.f (k : Nat) (a0 : ByteArray) : Option (Bool) := (siglumlaw04_awake.f).bind fun t231 => (if t231 = true then ((scan_Tokens.f a0).bind fun bt232 => (if (a0.size : Int) > 65536 then (if bt232.2 = 1 then (some ((bt232.1.length : Int) == 0)) else (some false)) else (siglumlaw04_ScanJoins.l0 k a0 bt232.1 bt232.2 0 bt232.1 (bt232.1.length : Int) 0))) else (some false))
theorem siglumlaw04_ScanJoins.mono_l : ∀ k, (∀ y0 y1 y2 y3 y4 y5 y6, LeO (siglumlaw04_ScanJoins.l0 k y0 y1 y2 y3 y4 y5 y6) (siglumlaw04_ScanJoins.l0 (k + 1) y0 y1 y2 y3 y4 y5 y6)) ∧ (∀ y0 y1 y2 y3 y4 y5 y6 y7 y8 y9 y10 y11, LeO (siglumlaw04_ScanJoins.j1 k y0 y1 y2 y3 y4 y5 y6 y7 y8 y9 y10 y11) (siglumlaw04_ScanJoins.j1 (k + 1) y0 y1 y2 y3 y4 y5 y6 y7 y8 y9 y10 y11))
  | 0 => ⟨fun _ _ _ _ _ _ _ r h => by simp [siglumlaw04_ScanJoins.l0] at h, fun _ _ _ _ _ _ _ _ _ _ _ _ r h => by simp [siglumlaw04_ScanJoins.j1] at h⟩
  | k + 1 => by
    obtain ⟨ih0, ih1⟩ := siglumlaw04_ScanJoins.mono_l k
    refine ⟨?_, ?_⟩
    · intro y0 y1 y2 y3 y4 y5 y6
      unfold siglumlaw04_ScanJoins.l0
      repeat' first
      | (with_reducible exact ih0 _ _ _ _ _ _ _)
      | (with_reducible exact ih1 _ _ _ _ _ _ _ _ _ _ _ _)
      | (with_reducible exact LeO.refl _)
      | (with_reducible exact LeO.none _)
      | (with_reducible refine LeO.ite ?_ ?_)
      | (with_reducible refine LeO.bind ?_ (fun _ => ?_))
      | exact ih0 _ _ _ _ _ _ _
      | exact ih1 _ _ _ _ _ _ _ _ _ _ _ _
      | exact LeO.none _
      | refine LeO.ite ?_ ?_
      | refine LeO.bind ?_ (fun _ => ?_)
    · intro y0 y1 y2 y3 y4 y5 y6 y7 y8 y9 y10 y11
      unfold siglumlaw04_ScanJoins.j1
      repeat' first
      | (with_reducible exact ih0 _ _ _ _ _ _ _)
      | (with_reducible exact ih1 _ _ _ _ _ _ _ _ _ _ _ _)
      | (with_reducible exact LeO.refl _)
      | (with_reducible exact LeO.none _)
      | (with_reducible refine LeO.ite ?_ ?_)
      | (with_reducible refine LeO.bind ?_ (fun _ => ?_))
      | exact ih0 _ _ _ _ _ _ _
      | exact ih1 _ _ _ _ _ _ _ _ _ _ _ _
      | exact LeO.none _
      | refine LeO.ite ?_ ?_
      | refine LeO.bind ?_ (fun _ => ?_)
theorem siglumlaw04_ScanJoins.mono : ∀ a0 k, LeO (siglumlaw04_ScanJoins.f k a0) (siglumlaw04_ScanJoins.f (k + 1) a0) := by
  intro a0 k
  obtain ⟨ih0, ih1⟩ := siglumlaw04_ScanJoins.mono_l k
  unfold siglumlaw04_ScanJoins.f
  repeat' first
      | (with_reducible exact ih0 _ _ _ _ _ _ _)
      | (with_reducible exact ih1 _ _ _ _ _ _ _ _ _ _ _ _)
      | (with_reducible exact LeO.refl _)
      | (with_reducible exact LeO.none _)
      | (with_reducible refine LeO.ite ?_ ?_)
      | (with_reducible refine LeO.bind ?_ (fun _ => ?_))
      | exact ih0 _ _ _ _ _ _ _
      | exact ih1 _ _ _ _ _ _ _ _ _ _ _ _
      | exact LeO.none _
      | refine LeO.ite ?_ ?_
      | refine LeO.bind ?_ (fun _ => ?_)
set_option maxHeartbeats 8000000 in
set_option maxRecDepth 100000 in
theorem siglumlaw04_ScanJoins.calls (k : Nat) (a0 : ByteArray) (r : Bool) (w : World) (hT : Lib.Utf8Tabs 0 1 w) (h : siglumlaw04_ScanJoins.f k a0 = some r) :
    Calls Tryd.prog 9 #[.string a0] w fun e w' => e = .returned (.bool r) ∧ Below w.heap.size w w' := by
  have hu51 := Tryd.underlying51
  have HT := Aside0.mk hT
  clear hT
  have HB := Aside0.mk (Below.refl w.heap.size w)
  have H : ((siglumlaw04_awake.f).bind fun t231 => (if t231 = true then ((scan_Tokens.f a0).bind fun bt232 => (if (a0.size : Int) > 65536 then (if bt232.2 = 1 then (some ((bt232.1.length : Int) == 0)) else (some false)) else (siglumlaw04_ScanJoins.l0 k a0 bt232.1 bt232.2 0 bt232.1 (bt232.1.length : Int) 0))) else (some false))) = some r := h
  clear h
  replace H := Option.bind_eq_some_iff.mp H
  obtain ⟨t231, A20, H⟩ := H
  replace H : (if t231 = true then ((scan_Tokens.f a0).bind fun bt232 => (if (a0.size : Int) > 65536 then (if bt232.2 = 1 then (some ((bt232.1.length : Int) == 0)) else (some false)) else (siglumlaw04_ScanJoins.l0 k a0 bt232.1 bt232.2 0 bt232.1 (bt232.1.length : Int) 0))) else (some false)) = some r := H
  have A2 := Aside0.mk A20
  clear A20
  by_cases c3 : t231 = true
  · subst c3
    have H1 : ((scan_Tokens.f a0).bind fun bt232 => (if (a0.size : Int) > 65536 then (if bt232.2 = 1 then (some ((bt232.1.length : Int) == 0)) else (some false)) else (siglumlaw04_ScanJoins.l0 k a0 bt232.1 bt232.2 0 bt232.1 (bt232.1.length : Int) 0))) = some r := by rw [if_pos rfl] at H; exact H
    clear H
    have H := H1
    clear H1
    replace H := Option.bind_eq_some_iff.mp H
    obtain ⟨⟨t232, t233⟩, A40, H⟩ := H
    replace H : (if (a0.size : Int) > 65536 then (if t233 = 1 then (some ((t232.length : Int) == 0)) else (some false)) else (siglumlaw04_ScanJoins.l0 k a0 t232 t233 0 t232 (t232.length : Int) 0)) = some r := H
    have A4 := Aside0.mk A40
    clear A40
    by_cases c5 : (a0.size : Int) > 65536
    · rw [if_pos c5] at H
      have c5b0 : decide (65536 < (a0.size : Int)) = true := decide_eq_true c5
      have c5b1 : decide (65536 < a0.size) = true := decide_eq_true (by omega)
      clear c5
      by_cases c6 : t233 = 1
      · rw [if_pos c6] at H
        have c6b0 : (t233 == 1) = true := beq_iff_eq.mpr c6
        have c6b1 : (t233 != 1) = false := bne_eq_false_iff_eq.mpr c6
        clear c6
        obtain rfl := Option.some.inj H
        go_enter Tryd.func9, Tryd.ntmps9
        go_wp2_with (first | (go_at_call 25; (with_reducible refine (siglumlaw04_awake.calls  true _ ?side1 A2.out).mono ?_); (case side1 => exact Utf.tabs_step HT.out (by repeat (first | (with_reducible first | exact HB.out | apply below_alloc | apply pw_below_drewN | apply below_drew1) | exact HB.out))); rintro e w7 ⟨rfl, hb⟩; have n0_ := Aside0.mk (below_step (by repeat (first | (with_reducible first | exact HB.out | apply below_alloc | apply pw_below_drewN | apply below_drew1) | exact HB.out)) hb); clear HB; have HB := n0_; clear n0_; (try clear hb); (try clear hb2); (try clear hk); (try clear hi)) | (go_at_call 26; (with_reducible refine (scan_Tokens.calls a0 t232 t233 _ ?side1 A4.out).mono ?_); (case side1 => exact Utf.tabs_step HT.out (by repeat (first | (with_reducible first | exact HB.out | apply below_alloc | apply pw_below_drewN | apply below_drew1) | exact HB.out))); rintro e w8 ⟨v234, rfl, ho0, hb⟩; have n0_ := Aside0.mk (Kd.R_lower ho0 (below_size (by repeat (first | (with_reducible first | exact HB.out | apply below_alloc | apply pw_below_drewN | apply below_drew1) | exact HB.out)))); have n1_ := Aside0.mk (below_step (by repeat (first | (with_reducible first | exact HB.out | apply below_alloc | apply pw_below_drewN | apply below_drew1) | exact HB.out)) hb); clear HB; have HO235 := n0_; have HB := n1_; clear n0_ n1_; (try clear hb); (try clear hb2); (try clear hk); (try clear hi); (try clear ho0); obtain ⟨Ao9, co9, eo9⟩ := Kd.R_slice HO235.out; subst eo9))
        repeat (go_quiet (first | (go_at_call 25; (with_reducible refine (siglumlaw04_awake.calls  true _ ?side1 A2.out).mono ?_); (case side1 => exact Utf.tabs_step HT.out (by repeat (first | (with_reducible first | exact HB.out | apply below_alloc | apply pw_below_drewN | apply below_drew1) | exact HB.out))); rintro e w7 ⟨rfl, hb⟩; have n0_ := Aside0.mk (below_step (by repeat (first | (with_reducible first | exact HB.out | apply below_alloc | apply pw_below_drewN | apply below_drew1) | exact HB.out)) hb); clear HB; have HB := n0_; clear n0_; (try clear hb); (try clear hb2); (try clear hk); (try clear hi)) | (go_at_call 26; (with_reducible refine (scan_Tokens.calls a0 t232 t233 _ ?side1 A4.out).mono ?_); (case side1 => exact Utf.tabs_step HT.out (by repeat (first | (with_reducible first | exact HB.out | apply below_alloc | apply pw_below_drewN | apply below_drew1) | exact HB.out))); rintro e w8 ⟨v234, rfl, ho0, hb⟩; have n0_ := Aside0.mk (Kd.R_lower ho0 (below_size (by repeat (first | (with_reducible first | exact HB.out | apply below_alloc | apply pw_below_drewN | apply below_drew1) | exact HB.out)))); have n1_ := Aside0.mk (below_step (by repeat (first | (with_reducible first | exact HB.out | apply below_alloc | apply pw_below_drewN | apply below_drew1) | exact HB.out)) hb); clear HB; have HO235 := n0_; have HB := n1_; clear n0_ n1_; (try clear hb); (try clear hb2); (try clear hk); (try clear hi); (try clear ho0); obtain ⟨Ao9, co9, eo9⟩ := Kd.R_slice HO235.out; subst eo9)); try go_wp2_with (first | (go_at_call 25; (with_reducible refine (siglumlaw04_awake.calls  true _ ?side1 A2.out).mono ?_); (case side1 => exact Utf.tabs_step HT.out (by repeat (first | (with_reducible first | exact HB.out | apply below_alloc | apply pw_below_drewN | apply below_drew1) | exact HB.out))); rintro e w7 ⟨rfl, hb⟩; have n0_ := Aside0.mk (below_step (by repeat (first | (with_reducible first | exact HB.out | apply below_alloc | apply pw_below_drewN | apply below_drew1) | exact HB.out)) hb); clear HB; have HB := n0_; clear n0_; (try clear hb); (try clear hb2); (try clear hk); (try clear hi)) | (go_at_call 26; (with_reducible refine (scan_Tokens.calls a0 t232 t233 _ ?side1 A4.out).mono ?_); (case side1 => exact Utf.tabs_step HT.out (by repeat (first | (with_reducible first | exact HB.out | apply below_alloc | apply pw_below_drewN | apply below_drew1) | exact HB.out))); rintro e w8 ⟨v234, rfl, ho0, hb⟩; have n0_ := Aside0.mk (Kd.R_lower ho0 (below_size (by repeat (first | (with_reducible first | exact HB.out | apply below_alloc | apply pw_below_drewN | apply below_drew1) | exact HB.out)))); have n1_ := Aside0.mk (below_step (by repeat (first | (with_reducible first | exact HB.out | apply below_alloc | apply pw_below_drewN | apply below_drew1) | exact HB.out)) hb); clear HB; have HO235 := n0_; have HB := n1_; clear n0_ n1_; (try clear hb); (try clear hb2); (try clear hk); (try clear hi); (try clear ho0); obtain ⟨Ao9, co9, eo9⟩ := Kd.R_slice HO235.out; subst eo9)))
        go_ret
        exact ⟨by first | rfl | (simp [errW_none, errW_some] <;> rfl) | (simp [*, errW_none, errW_some] <;> rfl), by repeat (first | (with_reducible first | exact HB.out | apply below_alloc | apply pw_below_drewN | apply below_drew1) | exact HB.out)⟩
      · rw [if_neg c6] at H
        have c6b0 : (t233 == 1) = false := beq_eq_false_iff_ne.mpr c6
        have c6b1 : (t233 != 1) = true := bne_iff_ne.mpr c6
        obtain rfl := Option.some.inj H
        go_enter Tryd.func9, Tryd.ntmps9
        go_wp2_with (first | (go_at_call 25; (with_reducible refine (siglumlaw04_awake.calls  true _ ?side1 A2.out).mono ?_); (case side1 => exact Utf.tabs_step HT.out (by repeat (first | (with_reducible first | exact HB.out | apply below_alloc | apply pw_below_drewN | apply below_drew1) | exact HB.out))); rintro e w10 ⟨rfl, hb⟩; have n0_ := Aside0.mk (below_step (by repeat (first | (with_reducible first | exact HB.out | apply below_alloc | apply pw_below_drewN | apply below_drew1) | exact HB.out)) hb); clear HB; have HB := n0_; clear n0_; (try clear hb); (try clear hb2); (try clear hk); (try clear hi)) | (go_at_call 26; (with_reducible refine (scan_Tokens.calls a0 t232 t233 _ ?side1 A4.out).mono ?_); (case side1 => exact Utf.tabs_step HT.out (by repeat (first | (with_reducible first | exact HB.out | apply below_alloc | apply pw_below_drewN | apply below_drew1) | exact HB.out))); rintro e w11 ⟨v234, rfl, ho0, hb⟩; have n0_ := Aside0.mk (Kd.R_lower ho0 (below_size (by repeat (first | (with_reducible first | exact HB.out | apply below_alloc | apply pw_below_drewN | apply below_drew1) | exact HB.out)))); have n1_ := Aside0.mk (below_step (by repeat (first | (with_reducible first | exact HB.out | apply below_alloc | apply pw_below_drewN | apply below_drew1) | exact HB.out)) hb); clear HB; have HO235 := n0_; have HB := n1_; clear n0_ n1_; (try clear hb); (try clear hb2); (try clear hk); (try clear hi); (try clear ho0)))
        repeat (go_quiet (first | (go_at_call 25; (with_reducible refine (siglumlaw04_awake.calls  true _ ?side1 A2.out).mono ?_); (case side1 => exact Utf.tabs_step HT.out (by repeat (first | (with_reducible first | exact HB.out | apply below_alloc | apply pw_below_drewN | apply below_drew1) | exact HB.out))); rintro e w10 ⟨rfl, hb⟩; have n0_ := Aside0.mk (below_step (by repeat (first | (with_reducible first | exact HB.out | apply below_alloc | apply pw_below_drewN | apply below_drew1) | exact HB.out)) hb); clear HB; have HB := n0_; clear n0_; (try clear hb); (try clear hb2); (try clear hk); (try clear hi)) | (go_at_call 26; (with_reducible refine (scan_Tokens.calls a0 t232 t233 _ ?side1 A4.out).mono ?_); (case side1 => exact Utf.tabs_step HT.out (by repeat (first | (with_reducible first | exact HB.out | apply below_alloc | apply pw_below_drewN | apply below_drew1) | exact HB.out))); rintro e w11 ⟨v234, rfl, ho0, hb⟩; have n0_ := Aside0.mk (Kd.R_lower ho0 (below_size (by repeat (first | (with_reducible first | exact HB.out | apply below_alloc | apply pw_below_drewN | apply below_drew1) | exact HB.out)))); have n1_ := Aside0.mk (below_step (by repeat (first | (with_reducible first | exact HB.out | apply below_alloc | apply pw_below_drewN | apply below_drew1) | exact HB.out)) hb); clear HB; have HO235 := n0_; have HB := n1_; clear n0_ n1_; (try clear hb); (try clear hb2); (try clear hk); (try clear hi); (try clear ho0))); try go_wp2_with (first | (go_at_call 25; (with_reducible refine (siglumlaw04_awake.calls  true _ ?side1 A2.out).mono ?_); (case side1 => exact Utf.tabs_step HT.out (by repeat (first | (with_reducible first | exact HB.out | apply below_alloc | apply pw_below_drewN | apply below_drew1) | exact HB.out))); rintro e w10 ⟨rfl, hb⟩; have n0_ := Aside0.mk (below_step (by repeat (first | (with_reducible first | exact HB.out | apply below_alloc | apply pw_below_drewN | apply below_drew1) | exact HB.out)) hb); clear HB; have HB := n0_; clear n0_; (try clear hb); (try clear hb2); (try clear hk); (try clear hi)) | (go_at_call 26; (with_reducible refine (scan_Tokens.calls a0 t232 t233 _ ?side1 A4.out).mono ?_); (case side1 => exact Utf.tabs_step HT.out (by repeat (first | (with_reducible first | exact HB.out | apply below_alloc | apply pw_below_drewN | apply below_drew1) | exact HB.out))); rintro e w11 ⟨v234, rfl, ho0, hb⟩; have n0_ := Aside0.mk (Kd.R_lower ho0 (below_size (by repeat (first | (with_reducible first | exact HB.out | apply below_alloc | apply pw_below_drewN | apply below_drew1) | exact HB.out)))); have n1_ := Aside0.mk (below_step (by repeat (first | (with_reducible first | exact HB.out | apply below_alloc | apply pw_below_drewN | apply below_drew1) | exact HB.out)) hb); clear HB; have HO235 := n0_; have HB := n1_; clear n0_ n1_; (try clear hb); (try clear hb2); (try clear hk); (try clear hi); (try clear ho0))))
        go_ret
        exact ⟨by first | rfl | (simp [errW_none, errW_some] <;> rfl) | (simp [*, errW_none, errW_some] <;> rfl), by repeat (first | (with_reducible first | exact HB.out | apply below_alloc | apply pw_below_drewN | apply below_drew1) | exact HB.out)⟩
    · rw [if_neg c5] at H
      have c5b0 : decide (65536 < (a0.size : Int)) = false := decide_eq_false c5
      have c5b1 : decide (65536 < a0.size) = false := decide_eq_false (by omega)
      clear c5
      have H' := Aside0.mk H
      clear H
      go_enter Tryd.func9, Tryd.ntmps9
      go_wp2_with (first | (go_at_call 25; (with_reducible refine (siglumlaw04_awake.calls  true _ ?side1 A2.out).mono ?_); (case side1 => exact Utf.tabs_step HT.out (by repeat (first | (with_reducible first | exact HB.out | apply below_alloc | apply pw_below_drewN | apply below_drew1) | exact HB.out))); rintro e w12 ⟨rfl, hb⟩; have n0_ := Aside0.mk (below_step (by repeat (first | (with_reducible first | exact HB.out | apply below_alloc | apply pw_below_drewN | apply below_drew1) | exact HB.out)) hb); clear HB; have HB := n0_; clear n0_; (try clear hb); (try clear hb2); (try clear hk); (try clear hi)) | (go_at_call 26; (with_reducible refine (scan_Tokens.calls a0 t232 t233 _ ?side1 A4.out).mono ?_); (case side1 => exact Utf.tabs_step HT.out (by repeat (first | (with_reducible first | exact HB.out | apply below_alloc | apply pw_below_drewN | apply below_drew1) | exact HB.out))); rintro e w13 ⟨v234, rfl, ho0, hb⟩; have n0_ := Aside0.mk (Kd.R_lower ho0 (below_size (by repeat (first | (with_reducible first | exact HB.out | apply below_alloc | apply pw_below_drewN | apply below_drew1) | exact HB.out)))); have n1_ := Aside0.mk (below_step (by repeat (first | (with_reducible first | exact HB.out | apply below_alloc | apply pw_below_drewN | apply below_drew1) | exact HB.out)) hb); clear HB; have HO235 := n0_; have HB := n1_; clear n0_ n1_; (try clear hb); (try clear hb2); (try clear hk); (try clear hi); (try clear ho0); obtain ⟨Ao14, co14, eo14⟩ := Kd.R_slice HO235.out; subst eo14))
      repeat (go_quiet (first | (go_at_call 25; (with_reducible refine (siglumlaw04_awake.calls  true _ ?side1 A2.out).mono ?_); (case side1 => exact Utf.tabs_step HT.out (by repeat (first | (with_reducible first | exact HB.out | apply below_alloc | apply pw_below_drewN | apply below_drew1) | exact HB.out))); rintro e w12 ⟨rfl, hb⟩; have n0_ := Aside0.mk (below_step (by repeat (first | (with_reducible first | exact HB.out | apply below_alloc | apply pw_below_drewN | apply below_drew1) | exact HB.out)) hb); clear HB; have HB := n0_; clear n0_; (try clear hb); (try clear hb2); (try clear hk); (try clear hi)) | (go_at_call 26; (with_reducible refine (scan_Tokens.calls a0 t232 t233 _ ?side1 A4.out).mono ?_); (case side1 => exact Utf.tabs_step HT.out (by repeat (first | (with_reducible first | exact HB.out | apply below_alloc | apply pw_below_drewN | apply below_drew1) | exact HB.out))); rintro e w13 ⟨v234, rfl, ho0, hb⟩; have n0_ := Aside0.mk (Kd.R_lower ho0 (below_size (by repeat (first | (with_reducible first | exact HB.out | apply below_alloc | apply pw_below_drewN | apply below_drew1) | exact HB.out)))); have n1_ := Aside0.mk (below_step (by repeat (first | (with_reducible first | exact HB.out | apply below_alloc | apply pw_below_drewN | apply below_drew1) | exact HB.out)) hb); clear HB; have HO235 := n0_; have HB := n1_; clear n0_ n1_; (try clear hb); (try clear hb2); (try clear hk); (try clear hi); (try clear ho0); obtain ⟨Ao14, co14, eo14⟩ := Kd.R_slice HO235.out; subst eo14)); try go_wp2_with (first | (go_at_call 25; (with_reducible refine (siglumlaw04_awake.calls  true _ ?side1 A2.out).mono ?_); (case side1 => exact Utf.tabs_step HT.out (by repeat (first | (with_reducible first | exact HB.out | apply below_alloc | apply pw_below_drewN | apply below_drew1) | exact HB.out))); rintro e w12 ⟨rfl, hb⟩; have n0_ := Aside0.mk (below_step (by repeat (first | (with_reducible first | exact HB.out | apply below_alloc | apply pw_below_drewN | apply below_drew1) | exact HB.out)) hb); clear HB; have HB := n0_; clear n0_; (try clear hb); (try clear hb2); (try clear hk); (try clear hi)) | (go_at_call 26; (with_reducible refine (scan_Tokens.calls a0 t232 t233 _ ?side1 A4.out).mono ?_); (case side1 => exact Utf.tabs_step HT.out (by repeat (first | (with_reducible first | exact HB.out | apply below_alloc | apply pw_below_drewN | apply below_drew1) | exact HB.out))); rintro e w13 ⟨v234, rfl, ho0, hb⟩; have n0_ := Aside0.mk (Kd.R_lower ho0 (below_size (by repeat (first | (with_reducible first | exact HB.out | apply below_alloc | apply pw_below_drewN | apply below_drew1) | exact HB.out)))); have n1_ := Aside0.mk (below_step (by repeat (first | (with_reducible first | exact HB.out | apply below_alloc | apply pw_below_drewN | apply below_drew1) | exact HB.out)) hb); clear HB; have HO235 := n0_; have HB := n1_; clear n0_ n1_; (try clear hb); (try clear hb2); (try clear hk); (try clear hi); (try clear ho0); obtain ⟨Ao14, co14, eo14⟩ := Kd.R_slice HO235.out; subst eo14)))
      go_loopg [5, 27] k (fun kq v5 v27 w' => ∃ (x5_1 : Int) (x27_1 : Int), v5 = .int .i64 x5_1 ∧ v27 = .int .i64 x27_1 ∧ Aside0 (siglumlaw04_ScanJoins.l0 kq a0 t232 t233 x5_1 t232 (t232.length : Int) x27_1 = some r) ∧ Aside0 (kq ≤ k) ∧ Aside0 (Kd.R k51 51 w' w.heap.size (fun _ => True) (.slice Ao14 t232.length co14) t232) ∧ Aside0 (Kd.R k51 51 w' w.heap.size (fun _ => True) (.slice Ao14 t232.length co14) t232) ∧ Aside0 (Below w.heap.size w w'))
      case atStart => exact ⟨(0), (0), (by first | rfl | (simp; done) | (simp [*]; done)), (by first | rfl | (simp; done) | (simp [*]; done)), H', ⟨Nat.le_refl _⟩, ⟨by (with_reducible repeat (first | apply Kd.R_alloc | apply Kd.R_drewN | apply Kd.R_drew)); exact HO235.out⟩, ⟨by (with_reducible repeat (first | apply Kd.R_alloc | apply Kd.R_drewN | apply Kd.R_drew)); exact HO235.out⟩, ⟨by repeat (first | (with_reducible first | exact HB.out | apply below_alloc | apply pw_below_drewN | apply below_drew1) | exact HB.out)⟩⟩
      case round =>
        clear H'
        try clear p2
        try clear c3
        try clear c5
        try clear c5b0
        try clear c5b1
        try clear c6
        try clear c6b0
        try clear c6b1
        try clear c9
        obtain ⟨x5_1, x27_1, rfl, rfl, HA, HK1, HO_3, HO_25, HB⟩ := hrel
        cases gk with
        | zero => exact absurd HA.out (by simp [siglumlaw04_ScanJoins.l0])
        | succ k1 =>
          have H := HA.out
          clear HA
          simp only [siglumlaw04_ScanJoins.l0] at H
          by_cases c15 : x27_1 < (t232.length : Int)
          · rw [if_pos c15] at H
            have c15b0 : decide (x27_1 < (t232.length : Int)) = true := decide_eq_true c15
            clear c15
            by_cases c16 : 0 ≤ x27_1
            · rw [if_pos c16] at H
              have c16b0 : decide (0 ≤ x27_1) = true := decide_eq_true c16
              clear c16
              by_cases c17 : x27_1 < (t232.length : Int)
              · rw [if_pos c17] at H
                have c17b0 : decide (x27_1 < (t232.length : Int)) = true := decide_eq_true c17
                clear c17
                have HC18 := Aside0.mk H
                clear H
                have p236 : 0 ≤ (x27_1 : Int) := of_decide_eq_true (by first | (with_reducible assumption) | assumption)
                have q236 : x27_1 < (t232.length : Int) := of_decide_eq_true (by first | (with_reducible assumption) | assumption)
                obtain ⟨ad236, e236, hx236_0, hx236_1, hx236_2⟩ := at_T51 (Kd.R_reads' HO_25.out).2.2 x27_1 p236 q236
                cases e236
                replace p236 := eq_true p236
                replace q236 := eq_true q236
                go_upto_region 10 with (first | ((with_reducible refine gate_dst (N := 7) rfl ?_); (try (refine gate_guard (by rfl) ?_; dsimp only)); refine box_event ?hg (N := 7) ?hd (cs := #[.int .i64 0, .int .i64 0, .string (⟨#[]⟩ : ByteArray)]) (t := 51) ?hr ?_; (case hd => rfl); (case hg => rfl); (case hr => first | (go_simp; done) | (go_simp; rfl)); intro gb237 hg w19 hbox hb; have n0_ := Aside0.mk (Kd.R_below (Kd.R_elderB (by (with_reducible repeat (first | apply Kd.R_alloc | apply Kd.R_drewN | apply Kd.R_drew)); exact HO_3.out) gb237 (Nat.le_of_eq hg.symm)) hb); have n1_ := Aside0.mk (Kd.R_below (Kd.R_elderB (by (with_reducible repeat (first | apply Kd.R_alloc | apply Kd.R_drewN | apply Kd.R_drew)); exact HO_25.out) gb237 (Nat.le_of_eq hg.symm)) hb); have n2_ := Aside0.mk (below_step (by repeat (first | (with_reducible first | exact HB.out | apply below_alloc | apply pw_below_drewN | apply below_drew1) | exact HB.out)) hb); have n3_ := Aside0.mk (hbox); have n4_ := Aside0.mk ((by rw [hg]; exact (below_size (by repeat (first | (with_reducible first | exact HB.out | apply below_alloc | apply pw_below_drewN | apply below_drew1) | exact HB.out))) : w.heap.size ≤ gb237)); have n5_ := Aside0.mk ((by rw [hg]; exact (below_size (by repeat (first | (with_reducible first | exact HB.out | apply below_alloc | apply pw_below_drewN | apply below_drew1) | exact HB.out))) : w.heap.size ≤ gb237)); clear HO_3; clear HO_25; clear HB; have HO_3 := n0_; have HO_25 := n1_; have HB := n2_; have BK237 := n3_; have GW237 := n4_; have GE237 := n5_; clear n0_ n1_ n2_ n3_ n4_ n5_; clear hb hbox hg; have hcz20_0 : w19.cell? ⟨gb237, 0, none⟩ = some (.int .i64 0) := (blk_cell BK237.out 0).trans rfl; have hcz20_1 : w19.cell? ⟨gb237, 1, none⟩ = some (.int .i64 0) := (blk_cell BK237.out 1).trans rfl; have hcz20_2 : w19.cell? ⟨gb237, 2, none⟩ = some (.string (⟨#[]⟩ : ByteArray)) := (blk_cell BK237.out 2).trans rfl; have hfz20_0 := blk_frozen BK237.out 0; have hfz20_1 := blk_frozen BK237.out 1; have hfz20_2 := blk_frozen BK237.out 2))
                repeat (go_quiet (first | ((with_reducible refine gate_dst (N := 7) rfl ?_); (try (refine gate_guard (by rfl) ?_; dsimp only)); refine box_event ?hg (N := 7) ?hd (cs := #[.int .i64 0, .int .i64 0, .string (⟨#[]⟩ : ByteArray)]) (t := 51) ?hr ?_; (case hd => rfl); (case hg => rfl); (case hr => first | (go_simp; done) | (go_simp; rfl)); intro gb237 hg w19 hbox hb; have n0_ := Aside0.mk (Kd.R_below (Kd.R_elderB (by (with_reducible repeat (first | apply Kd.R_alloc | apply Kd.R_drewN | apply Kd.R_drew)); exact HO_3.out) gb237 (Nat.le_of_eq hg.symm)) hb); have n1_ := Aside0.mk (Kd.R_below (Kd.R_elderB (by (with_reducible repeat (first | apply Kd.R_alloc | apply Kd.R_drewN | apply Kd.R_drew)); exact HO_25.out) gb237 (Nat.le_of_eq hg.symm)) hb); have n2_ := Aside0.mk (below_step (by repeat (first | (with_reducible first | exact HB.out | apply below_alloc | apply pw_below_drewN | apply below_drew1) | exact HB.out)) hb); have n3_ := Aside0.mk (hbox); have n4_ := Aside0.mk ((by rw [hg]; exact (below_size (by repeat (first | (with_reducible first | exact HB.out | apply below_alloc | apply pw_below_drewN | apply below_drew1) | exact HB.out))) : w.heap.size ≤ gb237)); have n5_ := Aside0.mk ((by rw [hg]; exact (below_size (by repeat (first | (with_reducible first | exact HB.out | apply below_alloc | apply pw_below_drewN | apply below_drew1) | exact HB.out))) : w.heap.size ≤ gb237)); clear HO_3; clear HO_25; clear HB; have HO_3 := n0_; have HO_25 := n1_; have HB := n2_; have BK237 := n3_; have GW237 := n4_; have GE237 := n5_; clear n0_ n1_ n2_ n3_ n4_ n5_; clear hb hbox hg; have hcz20_0 : w19.cell? ⟨gb237, 0, none⟩ = some (.int .i64 0) := (blk_cell BK237.out 0).trans rfl; have hcz20_1 : w19.cell? ⟨gb237, 1, none⟩ = some (.int .i64 0) := (blk_cell BK237.out 1).trans rfl; have hcz20_2 : w19.cell? ⟨gb237, 2, none⟩ = some (.string (⟨#[]⟩ : ByteArray)) := (blk_cell BK237.out 2).trans rfl; have hfz20_0 := blk_frozen BK237.out 0; have hfz20_1 := blk_frozen BK237.out 1; have hfz20_2 := blk_frozen BK237.out 2)); go_upto_region 10 with (first | ((with_reducible refine gate_dst (N := 7) rfl ?_); (try (refine gate_guard (by rfl) ?_; dsimp only)); refine box_event ?hg (N := 7) ?hd (cs := #[.int .i64 0, .int .i64 0, .string (⟨#[]⟩ : ByteArray)]) (t := 51) ?hr ?_; (case hd => rfl); (case hg => rfl); (case hr => first | (go_simp; done) | (go_simp; rfl)); intro gb237 hg w19 hbox hb; have n0_ := Aside0.mk (Kd.R_below (Kd.R_elderB (by (with_reducible repeat (first | apply Kd.R_alloc | apply Kd.R_drewN | apply Kd.R_drew)); exact HO_3.out) gb237 (Nat.le_of_eq hg.symm)) hb); have n1_ := Aside0.mk (Kd.R_below (Kd.R_elderB (by (with_reducible repeat (first | apply Kd.R_alloc | apply Kd.R_drewN | apply Kd.R_drew)); exact HO_25.out) gb237 (Nat.le_of_eq hg.symm)) hb); have n2_ := Aside0.mk (below_step (by repeat (first | (with_reducible first | exact HB.out | apply below_alloc | apply pw_below_drewN | apply below_drew1) | exact HB.out)) hb); have n3_ := Aside0.mk (hbox); have n4_ := Aside0.mk ((by rw [hg]; exact (below_size (by repeat (first | (with_reducible first | exact HB.out | apply below_alloc | apply pw_below_drewN | apply below_drew1) | exact HB.out))) : w.heap.size ≤ gb237)); have n5_ := Aside0.mk ((by rw [hg]; exact (below_size (by repeat (first | (with_reducible first | exact HB.out | apply below_alloc | apply pw_below_drewN | apply below_drew1) | exact HB.out))) : w.heap.size ≤ gb237)); clear HO_3; clear HO_25; clear HB; have HO_3 := n0_; have HO_25 := n1_; have HB := n2_; have BK237 := n3_; have GW237 := n4_; have GE237 := n5_; clear n0_ n1_ n2_ n3_ n4_ n5_; clear hb hbox hg; have hcz20_0 : w19.cell? ⟨gb237, 0, none⟩ = some (.int .i64 0) := (blk_cell BK237.out 0).trans rfl; have hcz20_1 : w19.cell? ⟨gb237, 1, none⟩ = some (.int .i64 0) := (blk_cell BK237.out 1).trans rfl; have hcz20_2 : w19.cell? ⟨gb237, 2, none⟩ = some (.string (⟨#[]⟩ : ByteArray)) := (blk_cell BK237.out 2).trans rfl; have hfz20_0 := blk_frozen BK237.out 0; have hfz20_1 := blk_frozen BK237.out 1; have hfz20_2 := blk_frozen BK237.out 2)))
                (try simp only [Act.put, List.setIfInBounds_toArray, List.set_cons_zero, List.set_cons_succ])
                go_cut [73] (fun v73 wc => ∃ (kq : Nat) (x73_17 : Bool), v73 = .bool x73_17 ∧ Aside0 (siglumlaw04_ScanJoins.j1 kq a0 t232 t233 x5_1 x27_1 t232 (t232.length : Int) x27_1 x73_17 ((rd_T51 t232 x27_1).f0) ((rd_T51 t232 x27_1).f1) ((rd_T51 t232 x27_1).f2) = some r) ∧ Aside0 (kq ≤ k1) ∧ Aside0 (Kd.R k51 51 wc w.heap.size (fun k_ => k_ ≠ gb237) (.slice (some ad236) t232.length co14) t232) ∧ Aside0 (Kd.R k51 51 wc w.heap.size (fun k_ => k_ ≠ gb237) (.slice (some ad236) t232.length co14) t232) ∧ Aside0 (wc.heap[gb237]? = some (.cells #[.int .i64 ((rd_T51 t232 x27_1).f0), .int .i64 ((rd_T51 t232 x27_1).f1), .string ((rd_T51 t232 x27_1).f2)] 51 (0, 0))) ∧ Aside0 (Below w.heap.size w wc))
                case first =>
                  have H := HC18.out
                  clear HC18
                  by_cases c21 : ((rd_T51 t232 x27_1).f1) = x5_1
                  · rw [if_pos c21] at H
                    have c21b0 : (((rd_T51 t232 x27_1).f1) == x5_1) = true := beq_iff_eq.mpr c21
                    have c21b1 : (((rd_T51 t232 x27_1).f1) != x5_1) = false := bne_eq_false_iff_eq.mpr c21
                    clear c21
                    (first | rw [c21b0] | (simp only [i64_w, i32_w]; rw [c21b0]) | skip)
                    by_cases c22 : ((rd_T51 t232 x27_1).f2).toList = ([] : List UInt8)
                    · rw [if_pos c22] at H
                      have c22b0 : (((rd_T51 t232 x27_1).f2).toList == ([] : List UInt8)) = true := beq_iff_eq.mpr c22
                      have c22b1 : (((rd_T51 t232 x27_1).f2).toList != ([] : List UInt8)) = false := bne_eq_false_iff_eq.mpr c22
                      clear c22
                      have H' := Aside0.mk H
                      clear H
                      have hcz23_0 : w19.cell? ⟨gb237, 0, none⟩ = some (.int .i64 0) := (blk_cell BK237.out 0).trans rfl
                      have hcz23_1 : w19.cell? ⟨gb237, 1, none⟩ = some (.int .i64 0) := (blk_cell BK237.out 1).trans rfl
                      have hcz23_2 : w19.cell? ⟨gb237, 2, none⟩ = some (.string (⟨#[]⟩ : ByteArray)) := (blk_cell BK237.out 2).trans rfl
                      have hfz23_0 := blk_frozen BK237.out 0
                      have hfz23_1 := blk_frozen BK237.out 1
                      have hfz23_2 := blk_frozen BK237.out 2
                      go_wp2
                      repeat (go_quiet (fail); try go_wp2)
                      go_meet
                      case rel => exact ⟨_, (true), (by first | rfl | (simp; done) | (simp [*]; done)), H', ⟨by have := HK1.out; first | omega | exact Nat.le_refl _⟩, ⟨by (with_reducible repeat (first | apply Kd.R_alloc | apply Kd.R_drewN | apply Kd.R_drew)); exact Kd.R_mono (Kd.R_far (p := ⟨gb237, 2, none⟩) (Kd.R_far (p := ⟨gb237, 1, none⟩) (Kd.R_far (p := ⟨gb237, 0, none⟩) (Kd.R_mono HO_3.out (fun k_ hk => (⟨hk, hk.2⟩ : _ ∧ k_ ≠ gb237))) (fun _ hk => hk.2) (.int .i64 ((rd_T51 t232 x27_1).f0))) (fun _ hk => hk.2) (.int .i64 ((rd_T51 t232 x27_1).f1))) (fun _ hk => hk.2) (.string ((rd_T51 t232 x27_1).f2))) (fun _ hk => hk.1.2)⟩, ⟨by (with_reducible repeat (first | apply Kd.R_alloc | apply Kd.R_drewN | apply Kd.R_drew)); exact Kd.R_mono (Kd.R_far (p := ⟨gb237, 2, none⟩) (Kd.R_far (p := ⟨gb237, 1, none⟩) (Kd.R_far (p := ⟨gb237, 0, none⟩) (Kd.R_mono HO_25.out (fun k_ hk => (⟨hk, hk.2⟩ : _ ∧ k_ ≠ gb237))) (fun _ hk => hk.2) (.int .i64 ((rd_T51 t232 x27_1).f0))) (fun _ hk => hk.2) (.int .i64 ((rd_T51 t232 x27_1).f1))) (fun _ hk => hk.2) (.string ((rd_T51 t232 x27_1).f2))) (fun _ hk => hk.1.2)⟩, ⟨by (with_reducible repeat (first | refine blk_drewN ?_ _ | refine blk_drew ?_ | refine blk_alloc ?_ _)); refine blk_put (cs := #[.int .i64 ((rd_T51 t232 x27_1).f0), .int .i64 ((rd_T51 t232 x27_1).f1), .string (⟨#[]⟩ : ByteArray)]) ?_ 2 _ rfl; (with_reducible repeat (first | refine blk_drewN ?_ _ | refine blk_drew ?_ | refine blk_alloc ?_ _)); refine blk_put (cs := #[.int .i64 ((rd_T51 t232 x27_1).f0), .int .i64 0, .string (⟨#[]⟩ : ByteArray)]) ?_ 1 _ rfl; (with_reducible repeat (first | refine blk_drewN ?_ _ | refine blk_drew ?_ | refine blk_alloc ?_ _)); refine blk_put (cs := #[.int .i64 0, .int .i64 0, .string (⟨#[]⟩ : ByteArray)]) ?_ 0 _ rfl; (with_reducible repeat (first | refine blk_drewN ?_ _ | refine blk_drew ?_ | refine blk_alloc ?_ _)); exact BK237.out⟩, ⟨by repeat (first | (with_reducible first | exact HB.out | apply below_alloc | apply pw_below_drewN | apply below_drew1 | refine below_set ?_ GE237.out) | exact HB.out)⟩⟩
                    · rw [if_neg c22] at H
                      have c22b0 : (((rd_T51 t232 x27_1).f2).toList == ([] : List UInt8)) = false := beq_eq_false_iff_ne.mpr c22
                      have c22b1 : (((rd_T51 t232 x27_1).f2).toList != ([] : List UInt8)) = true := bne_iff_ne.mpr c22
                      by_cases c24 : (((rd_T51 t232 x27_1).f2).size : Int) > (wrap64 ((a0.size : Int) - x5_1))
                      · rw [if_pos c24] at H
                        have c24b0 : decide ((wrap64 ((a0.size : Int) - x5_1)) < (((rd_T51 t232 x27_1).f2).size : Int)) = true := decide_eq_true c24
                        clear c24
                        have H' := Aside0.mk H
                        clear H
                        have hcz25_0 : w19.cell? ⟨gb237, 0, none⟩ = some (.int .i64 0) := (blk_cell BK237.out 0).trans rfl
                        have hcz25_1 : w19.cell? ⟨gb237, 1, none⟩ = some (.int .i64 0) := (blk_cell BK237.out 1).trans rfl
                        have hcz25_2 : w19.cell? ⟨gb237, 2, none⟩ = some (.string (⟨#[]⟩ : ByteArray)) := (blk_cell BK237.out 2).trans rfl
                        have hfz25_0 := blk_frozen BK237.out 0
                        have hfz25_1 := blk_frozen BK237.out 1
                        have hfz25_2 := blk_frozen BK237.out 2
                        go_wp2
                        repeat (go_quiet (fail); try go_wp2)
                        go_meet
                        case rel => exact ⟨_, (true), (by first | rfl | (simp; done) | (simp [*]; done)), H', ⟨by have := HK1.out; first | omega | exact Nat.le_refl _⟩, ⟨by (with_reducible repeat (first | apply Kd.R_alloc | apply Kd.R_drewN | apply Kd.R_drew)); exact Kd.R_mono (Kd.R_far (p := ⟨gb237, 2, none⟩) (Kd.R_far (p := ⟨gb237, 1, none⟩) (Kd.R_far (p := ⟨gb237, 0, none⟩) (Kd.R_mono HO_3.out (fun k_ hk => (⟨hk, hk.2⟩ : _ ∧ k_ ≠ gb237))) (fun _ hk => hk.2) (.int .i64 ((rd_T51 t232 x27_1).f0))) (fun _ hk => hk.2) (.int .i64 ((rd_T51 t232 x27_1).f1))) (fun _ hk => hk.2) (.string ((rd_T51 t232 x27_1).f2))) (fun _ hk => hk.1.2)⟩, ⟨by (with_reducible repeat (first | apply Kd.R_alloc | apply Kd.R_drewN | apply Kd.R_drew)); exact Kd.R_mono (Kd.R_far (p := ⟨gb237, 2, none⟩) (Kd.R_far (p := ⟨gb237, 1, none⟩) (Kd.R_far (p := ⟨gb237, 0, none⟩) (Kd.R_mono HO_25.out (fun k_ hk => (⟨hk, hk.2⟩ : _ ∧ k_ ≠ gb237))) (fun _ hk => hk.2) (.int .i64 ((rd_T51 t232 x27_1).f0))) (fun _ hk => hk.2) (.int .i64 ((rd_T51 t232 x27_1).f1))) (fun _ hk => hk.2) (.string ((rd_T51 t232 x27_1).f2))) (fun _ hk => hk.1.2)⟩, ⟨by (with_reducible repeat (first | refine blk_drewN ?_ _ | refine blk_drew ?_ | refine blk_alloc ?_ _)); refine blk_put (cs := #[.int .i64 ((rd_T51 t232 x27_1).f0), .int .i64 ((rd_T51 t232 x27_1).f1), .string (⟨#[]⟩ : ByteArray)]) ?_ 2 _ rfl; (with_reducible repeat (first | refine blk_drewN ?_ _ | refine blk_drew ?_ | refine blk_alloc ?_ _)); refine blk_put (cs := #[.int .i64 ((rd_T51 t232 x27_1).f0), .int .i64 0, .string (⟨#[]⟩ : ByteArray)]) ?_ 1 _ rfl; (with_reducible repeat (first | refine blk_drewN ?_ _ | refine blk_drew ?_ | refine blk_alloc ?_ _)); refine blk_put (cs := #[.int .i64 0, .int .i64 0, .string (⟨#[]⟩ : ByteArray)]) ?_ 0 _ rfl; (with_reducible repeat (first | refine blk_drewN ?_ _ | refine blk_drew ?_ | refine blk_alloc ?_ _)); exact BK237.out⟩, ⟨by repeat (first | (with_reducible first | exact HB.out | apply below_alloc | apply pw_below_drewN | apply below_drew1 | refine below_set ?_ GE237.out) | exact HB.out)⟩⟩
                      · rw [if_neg c24] at H
                        have c24b0 : decide ((wrap64 ((a0.size : Int) - x5_1)) < (((rd_T51 t232 x27_1).f2).size : Int)) = false := decide_eq_false c24
                        clear c24
                        by_cases c26 : 0 ≤ x5_1
                        · rw [if_pos c26] at H
                          have c26b0 := eq_true c26
                          have c26b1 : decide (0 ≤ x5_1) = true := decide_eq_true c26
                          clear c26
                          by_cases c27 : x5_1 ≤ (wrap64 (x5_1 + (((rd_T51 t232 x27_1).f2).size : Int)))
                          · rw [if_pos c27] at H
                            have c27b0 := eq_true c27
                            have c27b1 : decide (x5_1 ≤ (wrap64 (x5_1 + (((rd_T51 t232 x27_1).f2).size : Int)))) = true := decide_eq_true c27
                            by_cases c28 : (wrap64 (x5_1 + (((rd_T51 t232 x27_1).f2).size : Int))) ≤ (a0.size : Int)
                            · rw [if_pos c28] at H
                              have c28b0 := eq_true c28
                              have c28b1 : decide ((wrap64 (x5_1 + (((rd_T51 t232 x27_1).f2).size : Int))) ≤ (a0.size : Int)) = true := decide_eq_true c28
                              by_cases c29 : (a0.extract (x5_1 : Int).toNat ((wrap64 (x5_1 + (((rd_T51 t232 x27_1).f2).size : Int))) : Int).toNat).toList = ((rd_T51 t232 x27_1).f2).toList
                              · rw [if_pos c29] at H
                                have c29b0 : ((a0.extract (x5_1 : Int).toNat ((wrap64 (x5_1 + (((rd_T51 t232 x27_1).f2).size : Int))) : Int).toNat).toList == ((rd_T51 t232 x27_1).f2).toList) = true := beq_iff_eq.mpr c29
                                have c29b1 : ((a0.extract (x5_1 : Int).toNat ((wrap64 (x5_1 + (((rd_T51 t232 x27_1).f2).size : Int))) : Int).toNat).toList != ((rd_T51 t232 x27_1).f2).toList) = false := bne_eq_false_iff_eq.mpr c29
                                clear c29
                                by_cases c30 : ((rd_T51 t232 x27_1).f0) < 1
                                · rw [if_pos c30] at H
                                  have c30b0 : decide (((rd_T51 t232 x27_1).f0) < 1) = true := decide_eq_true c30
                                  clear c30
                                  have H' := Aside0.mk H
                                  clear H
                                  have hcz31_0 : w19.cell? ⟨gb237, 0, none⟩ = some (.int .i64 0) := (blk_cell BK237.out 0).trans rfl
                                  have hcz31_1 : w19.cell? ⟨gb237, 1, none⟩ = some (.int .i64 0) := (blk_cell BK237.out 1).trans rfl
                                  have hcz31_2 : w19.cell? ⟨gb237, 2, none⟩ = some (.string (⟨#[]⟩ : ByteArray)) := (blk_cell BK237.out 2).trans rfl
                                  have hfz31_0 := blk_frozen BK237.out 0
                                  have hfz31_1 := blk_frozen BK237.out 1
                                  have hfz31_2 := blk_frozen BK237.out 2
                                  go_wp2
                                  repeat (go_quiet (fail); try go_wp2)
                                  go_meet
                                  case rel => exact ⟨_, (true), (by first | rfl | (simp; done) | (simp [*]; done)), H', ⟨by have := HK1.out; first | omega | exact Nat.le_refl _⟩, ⟨by (with_reducible repeat (first | apply Kd.R_alloc | apply Kd.R_drewN | apply Kd.R_drew)); exact Kd.R_mono (Kd.R_far (p := ⟨gb237, 2, none⟩) (Kd.R_far (p := ⟨gb237, 1, none⟩) (Kd.R_far (p := ⟨gb237, 0, none⟩) (Kd.R_mono HO_3.out (fun k_ hk => (⟨hk, hk.2⟩ : _ ∧ k_ ≠ gb237))) (fun _ hk => hk.2) (.int .i64 ((rd_T51 t232 x27_1).f0))) (fun _ hk => hk.2) (.int .i64 ((rd_T51 t232 x27_1).f1))) (fun _ hk => hk.2) (.string ((rd_T51 t232 x27_1).f2))) (fun _ hk => hk.1.2)⟩, ⟨by (with_reducible repeat (first | apply Kd.R_alloc | apply Kd.R_drewN | apply Kd.R_drew)); exact Kd.R_mono (Kd.R_far (p := ⟨gb237, 2, none⟩) (Kd.R_far (p := ⟨gb237, 1, none⟩) (Kd.R_far (p := ⟨gb237, 0, none⟩) (Kd.R_mono HO_25.out (fun k_ hk => (⟨hk, hk.2⟩ : _ ∧ k_ ≠ gb237))) (fun _ hk => hk.2) (.int .i64 ((rd_T51 t232 x27_1).f0))) (fun _ hk => hk.2) (.int .i64 ((rd_T51 t232 x27_1).f1))) (fun _ hk => hk.2) (.string ((rd_T51 t232 x27_1).f2))) (fun _ hk => hk.1.2)⟩, ⟨by (with_reducible repeat (first | refine blk_drewN ?_ _ | refine blk_drew ?_ | refine blk_alloc ?_ _)); refine blk_put (cs := #[.int .i64 ((rd_T51 t232 x27_1).f0), .int .i64 ((rd_T51 t232 x27_1).f1), .string (⟨#[]⟩ : ByteArray)]) ?_ 2 _ rfl; (with_reducible repeat (first | refine blk_drewN ?_ _ | refine blk_drew ?_ | refine blk_alloc ?_ _)); refine blk_put (cs := #[.int .i64 ((rd_T51 t232 x27_1).f0), .int .i64 0, .string (⟨#[]⟩ : ByteArray)]) ?_ 1 _ rfl; (with_reducible repeat (first | refine blk_drewN ?_ _ | refine blk_drew ?_ | refine blk_alloc ?_ _)); refine blk_put (cs := #[.int .i64 0, .int .i64 0, .string (⟨#[]⟩ : ByteArray)]) ?_ 0 _ rfl; (with_reducible repeat (first | refine blk_drewN ?_ _ | refine blk_drew ?_ | refine blk_alloc ?_ _)); exact BK237.out⟩, ⟨by repeat (first | (with_reducible first | exact HB.out | apply below_alloc | apply pw_below_drewN | apply below_drew1 | refine below_set ?_ GE237.out) | exact HB.out)⟩⟩
                                · rw [if_neg c30] at H
                                  have c30b0 : decide (((rd_T51 t232 x27_1).f0) < 1) = false := decide_eq_false c30
                                  clear c30
                                  have H' := Aside0.mk H
                                  clear H
                                  have hcz32_0 : w19.cell? ⟨gb237, 0, none⟩ = some (.int .i64 0) := (blk_cell BK237.out 0).trans rfl
                                  have hcz32_1 : w19.cell? ⟨gb237, 1, none⟩ = some (.int .i64 0) := (blk_cell BK237.out 1).trans rfl
                                  have hcz32_2 : w19.cell? ⟨gb237, 2, none⟩ = some (.string (⟨#[]⟩ : ByteArray)) := (blk_cell BK237.out 2).trans rfl
                                  have hfz32_0 := blk_frozen BK237.out 0
                                  have hfz32_1 := blk_frozen BK237.out 1
                                  have hfz32_2 := blk_frozen BK237.out 2
                                  go_wp2
                                  repeat (go_quiet (fail); try go_wp2)
                                  go_meet
                                  case rel => exact ⟨_, (decide (((rd_T51 t232 x27_1).f0) > 5)), (by first | rfl | (simp; done) | (simp [*]; done)), H', ⟨by have := HK1.out; first | omega | exact Nat.le_refl _⟩, ⟨by (with_reducible repeat (first | apply Kd.R_alloc | apply Kd.R_drewN | apply Kd.R_drew)); exact Kd.R_mono (Kd.R_far (p := ⟨gb237, 2, none⟩) (Kd.R_far (p := ⟨gb237, 1, none⟩) (Kd.R_far (p := ⟨gb237, 0, none⟩) (Kd.R_mono HO_3.out (fun k_ hk => (⟨hk, hk.2⟩ : _ ∧ k_ ≠ gb237))) (fun _ hk => hk.2) (.int .i64 ((rd_T51 t232 x27_1).f0))) (fun _ hk => hk.2) (.int .i64 ((rd_T51 t232 x27_1).f1))) (fun _ hk => hk.2) (.string ((rd_T51 t232 x27_1).f2))) (fun _ hk => hk.1.2)⟩, ⟨by (with_reducible repeat (first | apply Kd.R_alloc | apply Kd.R_drewN | apply Kd.R_drew)); exact Kd.R_mono (Kd.R_far (p := ⟨gb237, 2, none⟩) (Kd.R_far (p := ⟨gb237, 1, none⟩) (Kd.R_far (p := ⟨gb237, 0, none⟩) (Kd.R_mono HO_25.out (fun k_ hk => (⟨hk, hk.2⟩ : _ ∧ k_ ≠ gb237))) (fun _ hk => hk.2) (.int .i64 ((rd_T51 t232 x27_1).f0))) (fun _ hk => hk.2) (.int .i64 ((rd_T51 t232 x27_1).f1))) (fun _ hk => hk.2) (.string ((rd_T51 t232 x27_1).f2))) (fun _ hk => hk.1.2)⟩, ⟨by (with_reducible repeat (first | refine blk_drewN ?_ _ | refine blk_drew ?_ | refine blk_alloc ?_ _)); refine blk_put (cs := #[.int .i64 ((rd_T51 t232 x27_1).f0), .int .i64 ((rd_T51 t232 x27_1).f1), .string (⟨#[]⟩ : ByteArray)]) ?_ 2 _ rfl; (with_reducible repeat (first | refine blk_drewN ?_ _ | refine blk_drew ?_ | refine blk_alloc ?_ _)); refine blk_put (cs := #[.int .i64 ((rd_T51 t232 x27_1).f0), .int .i64 0, .string (⟨#[]⟩ : ByteArray)]) ?_ 1 _ rfl; (with_reducible repeat (first | refine blk_drewN ?_ _ | refine blk_drew ?_ | refine blk_alloc ?_ _)); refine blk_put (cs := #[.int .i64 0, .int .i64 0, .string (⟨#[]⟩ : ByteArray)]) ?_ 0 _ rfl; (with_reducible repeat (first | refine blk_drewN ?_ _ | refine blk_drew ?_ | refine blk_alloc ?_ _)); exact BK237.out⟩, ⟨by repeat (first | (with_reducible first | exact HB.out | apply below_alloc | apply pw_below_drewN | apply below_drew1 | refine below_set ?_ GE237.out) | exact HB.out)⟩⟩
                              · rw [if_neg c29] at H
                                have c29b0 : ((a0.extract (x5_1 : Int).toNat ((wrap64 (x5_1 + (((rd_T51 t232 x27_1).f2).size : Int))) : Int).toNat).toList == ((rd_T51 t232 x27_1).f2).toList) = false := beq_eq_false_iff_ne.mpr c29
                                have c29b1 : ((a0.extract (x5_1 : Int).toNat ((wrap64 (x5_1 + (((rd_T51 t232 x27_1).f2).size : Int))) : Int).toNat).toList != ((rd_T51 t232 x27_1).f2).toList) = true := bne_iff_ne.mpr c29
                                have H' := Aside0.mk H
                                clear H
                                have hcz33_0 : w19.cell? ⟨gb237, 0, none⟩ = some (.int .i64 0) := (blk_cell BK237.out 0).trans rfl
                                have hcz33_1 : w19.cell? ⟨gb237, 1, none⟩ = some (.int .i64 0) := (blk_cell BK237.out 1).trans rfl
                                have hcz33_2 : w19.cell? ⟨gb237, 2, none⟩ = some (.string (⟨#[]⟩ : ByteArray)) := (blk_cell BK237.out 2).trans rfl
                                have hfz33_0 := blk_frozen BK237.out 0
                                have hfz33_1 := blk_frozen BK237.out 1
                                have hfz33_2 := blk_frozen BK237.out 2
                                go_wp2
                                repeat (go_quiet (fail); try go_wp2)
                                go_meet
                                case rel => exact ⟨_, (true), (by first | rfl | (simp; done) | (simp [*]; done)), H', ⟨by have := HK1.out; first | omega | exact Nat.le_refl _⟩, ⟨by (with_reducible repeat (first | apply Kd.R_alloc | apply Kd.R_drewN | apply Kd.R_drew)); exact Kd.R_mono (Kd.R_far (p := ⟨gb237, 2, none⟩) (Kd.R_far (p := ⟨gb237, 1, none⟩) (Kd.R_far (p := ⟨gb237, 0, none⟩) (Kd.R_mono HO_3.out (fun k_ hk => (⟨hk, hk.2⟩ : _ ∧ k_ ≠ gb237))) (fun _ hk => hk.2) (.int .i64 ((rd_T51 t232 x27_1).f0))) (fun _ hk => hk.2) (.int .i64 ((rd_T51 t232 x27_1).f1))) (fun _ hk => hk.2) (.string ((rd_T51 t232 x27_1).f2))) (fun _ hk => hk.1.2)⟩, ⟨by (with_reducible repeat (first | apply Kd.R_alloc | apply Kd.R_drewN | apply Kd.R_drew)); exact Kd.R_mono (Kd.R_far (p := ⟨gb237, 2, none⟩) (Kd.R_far (p := ⟨gb237, 1, none⟩) (Kd.R_far (p := ⟨gb237, 0, none⟩) (Kd.R_mono HO_25.out (fun k_ hk => (⟨hk, hk.2⟩ : _ ∧ k_ ≠ gb237))) (fun _ hk => hk.2) (.int .i64 ((rd_T51 t232 x27_1).f0))) (fun _ hk => hk.2) (.int .i64 ((rd_T51 t232 x27_1).f1))) (fun _ hk => hk.2) (.string ((rd_T51 t232 x27_1).f2))) (fun _ hk => hk.1.2)⟩, ⟨by (with_reducible repeat (first | refine blk_drewN ?_ _ | refine blk_drew ?_ | refine blk_alloc ?_ _)); refine blk_put (cs := #[.int .i64 ((rd_T51 t232 x27_1).f0), .int .i64 ((rd_T51 t232 x27_1).f1), .string (⟨#[]⟩ : ByteArray)]) ?_ 2 _ rfl; (with_reducible repeat (first | refine blk_drewN ?_ _ | refine blk_drew ?_ | refine blk_alloc ?_ _)); refine blk_put (cs := #[.int .i64 ((rd_T51 t232 x27_1).f0), .int .i64 0, .string (⟨#[]⟩ : ByteArray)]) ?_ 1 _ rfl; (with_reducible repeat (first | refine blk_drewN ?_ _ | refine blk_drew ?_ | refine blk_alloc ?_ _)); refine blk_put (cs := #[.int .i64 0, .int .i64 0, .string (⟨#[]⟩ : ByteArray)]) ?_ 0 _ rfl; (with_reducible repeat (first | refine blk_drewN ?_ _ | refine blk_drew ?_ | refine blk_alloc ?_ _)); exact BK237.out⟩, ⟨by repeat (first | (with_reducible first | exact HB.out | apply below_alloc | apply pw_below_drewN | apply below_drew1 | refine below_set ?_ GE237.out) | exact HB.out)⟩⟩
                            · rw [if_neg c28] at H
                              exact absurd H (by simp)
                          · rw [if_neg c27] at H
                            exact absurd H (by simp)
                        · rw [if_neg c26] at H
                          exact absurd H (by simp)
                  · rw [if_neg c21] at H
                    have c21b0 : (((rd_T51 t232 x27_1).f1) == x5_1) = false := beq_eq_false_iff_ne.mpr c21
                    have c21b1 : (((rd_T51 t232 x27_1).f1) != x5_1) = true := bne_iff_ne.mpr c21
                    (first | rw [c21b0] | (simp only [i64_w, i32_w]; rw [c21b0]) | skip)
                    have H' := Aside0.mk H
                    clear H
                    have hcz34_0 : w19.cell? ⟨gb237, 0, none⟩ = some (.int .i64 0) := (blk_cell BK237.out 0).trans rfl
                    have hcz34_1 : w19.cell? ⟨gb237, 1, none⟩ = some (.int .i64 0) := (blk_cell BK237.out 1).trans rfl
                    have hcz34_2 : w19.cell? ⟨gb237, 2, none⟩ = some (.string (⟨#[]⟩ : ByteArray)) := (blk_cell BK237.out 2).trans rfl
                    have hfz34_0 := blk_frozen BK237.out 0
                    have hfz34_1 := blk_frozen BK237.out 1
                    have hfz34_2 := blk_frozen BK237.out 2
                    go_wp2
                    repeat (go_quiet (fail); try go_wp2)
                    go_meet
                    case rel => exact ⟨_, (true), (by first | rfl | (simp; done) | (simp [*]; done)), H', ⟨by have := HK1.out; first | omega | exact Nat.le_refl _⟩, ⟨by (with_reducible repeat (first | apply Kd.R_alloc | apply Kd.R_drewN | apply Kd.R_drew)); exact Kd.R_mono (Kd.R_far (p := ⟨gb237, 2, none⟩) (Kd.R_far (p := ⟨gb237, 1, none⟩) (Kd.R_far (p := ⟨gb237, 0, none⟩) (Kd.R_mono HO_3.out (fun k_ hk => (⟨hk, hk.2⟩ : _ ∧ k_ ≠ gb237))) (fun _ hk => hk.2) (.int .i64 ((rd_T51 t232 x27_1).f0))) (fun _ hk => hk.2) (.int .i64 ((rd_T51 t232 x27_1).f1))) (fun _ hk => hk.2) (.string ((rd_T51 t232 x27_1).f2))) (fun _ hk => hk.1.2)⟩, ⟨by (with_reducible repeat (first | apply Kd.R_alloc | apply Kd.R_drewN | apply Kd.R_drew)); exact Kd.R_mono (Kd.R_far (p := ⟨gb237, 2, none⟩) (Kd.R_far (p := ⟨gb237, 1, none⟩) (Kd.R_far (p := ⟨gb237, 0, none⟩) (Kd.R_mono HO_25.out (fun k_ hk => (⟨hk, hk.2⟩ : _ ∧ k_ ≠ gb237))) (fun _ hk => hk.2) (.int .i64 ((rd_T51 t232 x27_1).f0))) (fun _ hk => hk.2) (.int .i64 ((rd_T51 t232 x27_1).f1))) (fun _ hk => hk.2) (.string ((rd_T51 t232 x27_1).f2))) (fun _ hk => hk.1.2)⟩, ⟨by (with_reducible repeat (first | refine blk_drewN ?_ _ | refine blk_drew ?_ | refine blk_alloc ?_ _)); refine blk_put (cs := #[.int .i64 ((rd_T51 t232 x27_1).f0), .int .i64 ((rd_T51 t232 x27_1).f1), .string (⟨#[]⟩ : ByteArray)]) ?_ 2 _ rfl; (with_reducible repeat (first | refine blk_drewN ?_ _ | refine blk_drew ?_ | refine blk_alloc ?_ _)); refine blk_put (cs := #[.int .i64 ((rd_T51 t232 x27_1).f0), .int .i64 0, .string (⟨#[]⟩ : ByteArray)]) ?_ 1 _ rfl; (with_reducible repeat (first | refine blk_drewN ?_ _ | refine blk_drew ?_ | refine blk_alloc ?_ _)); refine blk_put (cs := #[.int .i64 0, .int .i64 0, .string (⟨#[]⟩ : ByteArray)]) ?_ 0 _ rfl; (with_reducible repeat (first | refine blk_drewN ?_ _ | refine blk_drew ?_ | refine blk_alloc ?_ _)); exact BK237.out⟩, ⟨by repeat (first | (with_reducible first | exact HB.out | apply below_alloc | apply pw_below_drewN | apply below_drew1 | refine below_set ?_ GE237.out) | exact HB.out)⟩⟩
                case rest =>
                  clear HC18
                  try clear c1
                  try clear c2
                  try clear p2
                  try clear q2
                  try clear hx2
                  try clear c3
                  try clear c5
                  try clear c5b0
                  try clear c5b1
                  try clear c6
                  try clear c6b0
                  try clear c6b1
                  try clear p6
                  try clear c9
                  try clear c15
                  try clear c15b0
                  try clear c16
                  try clear c16b0
                  try clear c17
                  try clear c17b0
                  try clear c21
                  try clear c21b0
                  try clear c21b1
                  try clear c22
                  try clear c22b0
                  try clear c22b1
                  try clear p23
                  try clear q23
                  try clear hx23
                  try clear c24
                  try clear c24b0
                  try clear c26
                  try clear c26b0
                  try clear c26b1
                  try clear c27
                  try clear c27b0
                  try clear c27b1
                  try clear c28
                  try clear c28b0
                  try clear c28b1
                  try clear c29
                  try clear c29b0
                  try clear c29b1
                  try clear c30
                  try clear c30b0
                  try clear hcz20_0
                  try clear hcz20_1
                  try clear hcz20_2
                  try clear hcz23_0
                  try clear hcz23_1
                  try clear hcz23_2
                  try clear hcz25_0
                  try clear hcz25_1
                  try clear hcz25_2
                  try clear hcz31_0
                  try clear hcz31_1
                  try clear hcz31_2
                  try clear hcz32_0
                  try clear hcz32_1
                  try clear hcz32_2
                  try clear hcz33_0
                  try clear hcz33_1
                  try clear hcz33_2
                  try clear hcz34_0
                  try clear hcz34_1
                  try clear hcz34_2
                  try clear hfz20_0
                  try clear hfz20_1
                  try clear hfz20_2
                  try clear hfz23_0
                  try clear hfz23_1
                  try clear hfz23_2
                  try clear hfz25_0
                  try clear hfz25_1
                  try clear hfz25_2
                  try clear hfz31_0
                  try clear hfz31_1
                  try clear hfz31_2
                  try clear hfz32_0
                  try clear hfz32_1
                  try clear hfz32_2
                  try clear hfz33_0
                  try clear hfz33_1
                  try clear hfz33_2
                  try clear hfz34_0
                  try clear hfz34_1
                  try clear hfz34_2
                  try clear hx236_0
                  try clear hx236_1
                  try clear hx236_2
                  try clear p2
                  try clear p236
                  try clear q236
                  obtain ⟨kq, x73_17, rfl, HA, HJ17, HO_3, HO_25, BK237, HB⟩ := hcut
                  cases kq with
                  | zero => exact absurd HA.out (by simp [siglumlaw04_ScanJoins.j1])
                  | succ kj17 =>
                    have H := HA.out
                    clear HA
                    simp only [siglumlaw04_ScanJoins.j1] at H
                    by_cases c35 : x73_17 = true
                    · subst c35
                      have H1 : (some false) = some r := by rw [if_pos rfl] at H; exact H
                      clear H
                      have H := H1
                      clear H1
                      obtain rfl := Option.some.inj H
                      go_wp2
                      repeat (go_quiet (fail); try go_wp2)
                      go_ret
                      exact ⟨by first | rfl | (simp [errW_none, errW_some] <;> rfl) | (simp [*, errW_none, errW_some] <;> rfl), by repeat (first | (with_reducible first | exact HB.out | apply below_alloc | apply pw_below_drewN | apply below_drew1 | refine below_set ?_ GE237.out) | exact HB.out)⟩
                    · replace c35 := Bool.eq_false_iff.mpr c35
                      subst c35
                      have H1 : (if x27_1 > 0 then (if 0 ≤ (wrap64 (x27_1 - 1)) then (if (wrap64 (x27_1 - 1)) < (t232.length : Int) then (if ((rd_T51 t232 x27_1).f0) = ((rd_T51 t232 (wrap64 (x27_1 - 1))).f0) then (if ((rd_T51 t232 x27_1).f0) ≤ 2 then (some false) else (siglumlaw04_ScanJoins.l0 kj17 a0 t232 t233 (wrap64 (x5_1 + (((rd_T51 t232 x27_1).f2).size : Int))) t232 (t232.length : Int) (wrap64 (x27_1 + 1)))) else (siglumlaw04_ScanJoins.l0 kj17 a0 t232 t233 (wrap64 (x5_1 + (((rd_T51 t232 x27_1).f2).size : Int))) t232 (t232.length : Int) (wrap64 (x27_1 + 1)))) else (none)) else (none)) else (siglumlaw04_ScanJoins.l0 kj17 a0 t232 t233 (wrap64 (x5_1 + (((rd_T51 t232 x27_1).f2).size : Int))) t232 (t232.length : Int) (wrap64 (x27_1 + 1)))) = some r := by rw [if_neg (show ¬ (false = true) by decide)] at H; exact H
                      clear H
                      have H := H1
                      clear H1
                      by_cases c36 : x27_1 > 0
                      · rw [if_pos c36] at H
                        have c36b0 : decide (0 < x27_1) = true := decide_eq_true c36
                        clear c36
                        obtain ⟨ji37, hji37⟩ : ∃ j_ : Int, (wrap64 (x27_1 - 1)) = j_ := ⟨_, rfl⟩
                        replace H : (if 0 ≤ (ji37) then (if (ji37) < (t232.length : Int) then (if ((rd_T51 t232 x27_1).f0) = ((rd_T51 t232 (ji37)).f0) then (if ((rd_T51 t232 x27_1).f0) ≤ 2 then (some false) else (siglumlaw04_ScanJoins.l0 kj17 a0 t232 t233 (wrap64 (x5_1 + (((rd_T51 t232 x27_1).f2).size : Int))) t232 (t232.length : Int) (wrap64 (x27_1 + 1)))) else (siglumlaw04_ScanJoins.l0 kj17 a0 t232 t233 (wrap64 (x5_1 + (((rd_T51 t232 x27_1).f2).size : Int))) t232 (t232.length : Int) (wrap64 (x27_1 + 1)))) else (none)) else (none)) = some r := by first | (rw [hji37] at H; exact H) | (simp only [hji37] at H ⊢; exact H)
                        have hji37w : (IntKind.i64.wrap (x27_1 - 1)) = ji37 := (i64_w _).trans hji37
                        by_cases c38 : 0 ≤ (ji37)
                        · rw [if_pos c38] at H
                          have c38b0 : decide (0 ≤ (ji37)) = true := decide_eq_true c38
                          clear c38
                          by_cases c39 : (ji37) < (t232.length : Int)
                          · rw [if_pos c39] at H
                            have c39b0 : decide ((ji37) < (t232.length : Int)) = true := decide_eq_true c39
                            clear c39
                            by_cases c40 : ((rd_T51 t232 x27_1).f0) = ((rd_T51 t232 (ji37)).f0)
                            · rw [if_pos c40] at H
                              have c40b0 : (((rd_T51 t232 x27_1).f0) == ((rd_T51 t232 (ji37)).f0)) = true := beq_iff_eq.mpr c40
                              have c40b1 : (((rd_T51 t232 x27_1).f0) != ((rd_T51 t232 (ji37)).f0)) = false := bne_eq_false_iff_eq.mpr c40
                              clear c40
                              by_cases c41 : ((rd_T51 t232 x27_1).f0) ≤ 2
                              · rw [if_pos c41] at H
                                have c41b0 : decide (((rd_T51 t232 x27_1).f0) ≤ 2) = true := decide_eq_true c41
                                clear c41
                                obtain rfl := Option.some.inj H
                                have hcz42_0 : wc.cell? ⟨gb237, 0, none⟩ = some (.int .i64 ((rd_T51 t232 x27_1).f0)) := (blk_cell BK237.out 0).trans rfl
                                have hcz42_1 : wc.cell? ⟨gb237, 1, none⟩ = some (.int .i64 ((rd_T51 t232 x27_1).f1)) := (blk_cell BK237.out 1).trans rfl
                                have hcz42_2 : wc.cell? ⟨gb237, 2, none⟩ = some (.string ((rd_T51 t232 x27_1).f2)) := (blk_cell BK237.out 2).trans rfl
                                have hfz42_0 := blk_frozen BK237.out 0
                                have hfz42_1 := blk_frozen BK237.out 1
                                have hfz42_2 := blk_frozen BK237.out 2
                                have p238 : 0 ≤ ((ji37) : Int) := of_decide_eq_true (by first | (with_reducible assumption) | assumption)
                                have q238 : (ji37) < (t232.length : Int) := of_decide_eq_true (by first | (with_reducible assumption) | assumption)
                                obtain ⟨ad238, e238, hx238_0, hx238_1, hx238_2⟩ := at_T51 (Kd.R_reads' HO_3.out).2.2 (ji37) p238 q238
                                obtain rfl : ad236 = ad238 := (by injection e238)
                                replace p238 := eq_true p238
                                replace q238 := eq_true q238
                                go_wp2
                                repeat (go_quiet (fail); try go_wp2)
                                go_ret
                                exact ⟨by first | rfl | (simp [errW_none, errW_some] <;> rfl) | (simp only [← hji37]; first | rfl | (simp [errW_none, errW_some] <;> rfl)) | (simp [*, errW_none, errW_some] <;> rfl), by repeat (first | (with_reducible first | exact HB.out | apply below_alloc | apply pw_below_drewN | apply below_drew1 | refine below_set ?_ GE237.out) | exact HB.out)⟩
                              · rw [if_neg c41] at H
                                have c41b0 : decide (((rd_T51 t232 x27_1).f0) ≤ 2) = false := decide_eq_false c41
                                clear c41
                                have H' := Aside0.mk H
                                clear H
                                have hcz43_0 : wc.cell? ⟨gb237, 0, none⟩ = some (.int .i64 ((rd_T51 t232 x27_1).f0)) := (blk_cell BK237.out 0).trans rfl
                                have hcz43_1 : wc.cell? ⟨gb237, 1, none⟩ = some (.int .i64 ((rd_T51 t232 x27_1).f1)) := (blk_cell BK237.out 1).trans rfl
                                have hcz43_2 : wc.cell? ⟨gb237, 2, none⟩ = some (.string ((rd_T51 t232 x27_1).f2)) := (blk_cell BK237.out 2).trans rfl
                                have hfz43_0 := blk_frozen BK237.out 0
                                have hfz43_1 := blk_frozen BK237.out 1
                                have hfz43_2 := blk_frozen BK237.out 2
                                have p238 : 0 ≤ ((ji37) : Int) := of_decide_eq_true (by first | (with_reducible assumption) | assumption)
                                have q238 : (ji37) < (t232.length : Int) := of_decide_eq_true (by first | (with_reducible assumption) | assumption)
                                obtain ⟨ad238, e238, hx238_0, hx238_1, hx238_2⟩ := at_T51 (Kd.R_reads' HO_3.out).2.2 (ji37) p238 q238
                                obtain rfl : ad236 = ad238 := (by injection e238)
                                replace p238 := eq_true p238
                                replace q238 := eq_true q238
                                go_wp2
                                repeat (go_quiet (fail); try go_wp2)
                                go_roundg kj17
                                case measure => have := HK1.out; have := HJ17.out; omega
                                case rel => exact ⟨(wrap64 (x5_1 + (((rd_T51 t232 x27_1).f2).size : Int))), (wrap64 (x27_1 + 1)), (by first | rfl | (simp; done) | (simp [*]; done)), (by first | rfl | (simp; done) | (simp [*]; done)), H', ⟨by have := HK1.out; have := HJ17.out; omega⟩, ⟨by (with_reducible repeat (first | apply Kd.R_alloc | apply Kd.R_drewN | apply Kd.R_drew)); exact Kd.R_mono HO_3.out (fun _ hk => trivial)⟩, ⟨by (with_reducible repeat (first | apply Kd.R_alloc | apply Kd.R_drewN | apply Kd.R_drew)); exact Kd.R_mono HO_25.out (fun _ hk => trivial)⟩, ⟨by repeat (first | (with_reducible first | exact HB.out | apply below_alloc | apply pw_below_drewN | apply below_drew1 | refine below_set ?_ GE237.out) | exact HB.out)⟩⟩
                            · rw [if_neg c40] at H
                              have c40b0 : (((rd_T51 t232 x27_1).f0) == ((rd_T51 t232 (ji37)).f0)) = false := beq_eq_false_iff_ne.mpr c40
                              have c40b1 : (((rd_T51 t232 x27_1).f0) != ((rd_T51 t232 (ji37)).f0)) = true := bne_iff_ne.mpr c40
                              have H' := Aside0.mk H
                              clear H
                              have hcz44_0 : wc.cell? ⟨gb237, 0, none⟩ = some (.int .i64 ((rd_T51 t232 x27_1).f0)) := (blk_cell BK237.out 0).trans rfl
                              have hcz44_1 : wc.cell? ⟨gb237, 1, none⟩ = some (.int .i64 ((rd_T51 t232 x27_1).f1)) := (blk_cell BK237.out 1).trans rfl
                              have hcz44_2 : wc.cell? ⟨gb237, 2, none⟩ = some (.string ((rd_T51 t232 x27_1).f2)) := (blk_cell BK237.out 2).trans rfl
                              have hfz44_0 := blk_frozen BK237.out 0
                              have hfz44_1 := blk_frozen BK237.out 1
                              have hfz44_2 := blk_frozen BK237.out 2
                              have p238 : 0 ≤ ((ji37) : Int) := of_decide_eq_true (by first | (with_reducible assumption) | assumption)
                              have q238 : (ji37) < (t232.length : Int) := of_decide_eq_true (by first | (with_reducible assumption) | assumption)
                              obtain ⟨ad238, e238, hx238_0, hx238_1, hx238_2⟩ := at_T51 (Kd.R_reads' HO_3.out).2.2 (ji37) p238 q238
                              obtain rfl : ad236 = ad238 := (by injection e238)
                              replace p238 := eq_true p238
                              replace q238 := eq_true q238
                              go_wp2
                              repeat (go_quiet (fail); try go_wp2)
                              go_roundg kj17
                              case measure => have := HK1.out; have := HJ17.out; omega
                              case rel => exact ⟨(wrap64 (x5_1 + (((rd_T51 t232 x27_1).f2).size : Int))), (wrap64 (x27_1 + 1)), (by first | rfl | (simp; done) | (simp [*]; done)), (by first | rfl | (simp; done) | (simp [*]; done)), H', ⟨by have := HK1.out; have := HJ17.out; omega⟩, ⟨by (with_reducible repeat (first | apply Kd.R_alloc | apply Kd.R_drewN | apply Kd.R_drew)); exact Kd.R_mono HO_3.out (fun _ hk => trivial)⟩, ⟨by (with_reducible repeat (first | apply Kd.R_alloc | apply Kd.R_drewN | apply Kd.R_drew)); exact Kd.R_mono HO_25.out (fun _ hk => trivial)⟩, ⟨by repeat (first | (with_reducible first | exact HB.out | apply below_alloc | apply pw_below_drewN | apply below_drew1 | refine below_set ?_ GE237.out) | exact HB.out)⟩⟩
                          · rw [if_neg c39] at H
                            exact absurd H (by simp)
                        · rw [if_neg c38] at H
                          exact absurd H (by simp)
                      · rw [if_neg c36] at H
                        have c36b0 : decide (0 < x27_1) = false := decide_eq_false c36
                        clear c36
                        have H' := Aside0.mk H
                        clear H
                        have hcz45_0 : wc.cell? ⟨gb237, 0, none⟩ = some (.int .i64 ((rd_T51 t232 x27_1).f0)) := (blk_cell BK237.out 0).trans rfl
                        have hcz45_1 : wc.cell? ⟨gb237, 1, none⟩ = some (.int .i64 ((rd_T51 t232 x27_1).f1)) := (blk_cell BK237.out 1).trans rfl
                        have hcz45_2 : wc.cell? ⟨gb237, 2, none⟩ = some (.string ((rd_T51 t232 x27_1).f2)) := (blk_cell BK237.out 2).trans rfl
                        have hfz45_0 := blk_frozen BK237.out 0
                        have hfz45_1 := blk_frozen BK237.out 1
                        have hfz45_2 := blk_frozen BK237.out 2
                        go_wp2
                        repeat (go_quiet (fail); try go_wp2)
                        go_roundg kj17
                        case measure => have := HK1.out; have := HJ17.out; omega
                        case rel => exact ⟨(wrap64 (x5_1 + (((rd_T51 t232 x27_1).f2).size : Int))), (wrap64 (x27_1 + 1)), (by first | rfl | (simp; done) | (simp [*]; done)), (by first | rfl | (simp; done) | (simp [*]; done)), H', ⟨by have := HK1.out; have := HJ17.out; omega⟩, ⟨by (with_reducible repeat (first | apply Kd.R_alloc | apply Kd.R_drewN | apply Kd.R_drew)); exact Kd.R_mono HO_3.out (fun _ hk => trivial)⟩, ⟨by (with_reducible repeat (first | apply Kd.R_alloc | apply Kd.R_drewN | apply Kd.R_drew)); exact Kd.R_mono HO_25.out (fun _ hk => trivial)⟩, ⟨by repeat (first | (with_reducible first | exact HB.out | apply below_alloc | apply pw_below_drewN | apply below_drew1 | refine below_set ?_ GE237.out) | exact HB.out)⟩⟩
              · rw [if_neg c17] at H
                exact absurd H (by simp)
            · rw [if_neg c16] at H
              exact absurd H (by simp)
          · rw [if_neg c15] at H
            have c15b0 : decide (x27_1 < (t232.length : Int)) = false := decide_eq_false c15
            clear c15
            by_cases c46 : t233 = 0
            · rw [if_pos c46] at H
              have c46b0 : (t233 == 0) = true := beq_iff_eq.mpr c46
              have c46b1 : (t233 != 0) = false := bne_eq_false_iff_eq.mpr c46
              clear c46
              obtain rfl := Option.some.inj H
              go_wp2
              repeat (go_quiet (fail); try go_wp2)
              go_ret
              exact ⟨by first | rfl | (simp [errW_none, errW_some] <;> rfl) | (simp [*, errW_none, errW_some] <;> rfl), by repeat (first | (with_reducible first | exact HB.out | apply below_alloc | apply pw_below_drewN | apply below_drew1) | exact HB.out)⟩
            · rw [if_neg c46] at H
              have c46b0 : (t233 == 0) = false := beq_eq_false_iff_ne.mpr c46
              have c46b1 : (t233 != 0) = true := bne_iff_ne.mpr c46
              obtain rfl := Option.some.inj H
              go_wp2
              repeat (go_quiet (fail); try go_wp2)
              go_ret
              exact ⟨by first | rfl | (simp [errW_none, errW_some] <;> rfl) | (simp [*, errW_none, errW_some] <;> rfl), by repeat (first | (with_reducible first | exact HB.out | apply below_alloc | apply pw_below_drewN | apply below_drew1) | exact HB.out)⟩
  · replace c3 := Bool.eq_false_iff.mpr c3
    subst c3
    have H1 : (some false) = some r := by rw [if_neg (show ¬ (false = true) by decide)] at H; exact H
    clear H
    have H := H1
    clear H1
    obtain rfl := Option.some.inj H
    go_enter Tryd.func9, Tryd.ntmps9
    go_wp2_with (first | (go_at_call 25; (with_reducible refine (siglumlaw04_awake.calls  false _ ?side1 A2.out).mono ?_); (case side1 => exact Utf.tabs_step HT.out (by repeat (first | (with_reducible first | exact HB.out | apply below_alloc | apply pw_below_drewN | apply below_drew1) | exact HB.out))); rintro e w47 ⟨rfl, hb⟩; have n0_ := Aside0.mk (below_step (by repeat (first | (with_reducible first | exact HB.out | apply below_alloc | apply pw_below_drewN | apply below_drew1) | exact HB.out)) hb); clear HB; have HB := n0_; clear n0_; (try clear hb); (try clear hb2); (try clear hk); (try clear hi)))
    repeat (go_quiet (first | (go_at_call 25; (with_reducible refine (siglumlaw04_awake.calls  false _ ?side1 A2.out).mono ?_); (case side1 => exact Utf.tabs_step HT.out (by repeat (first | (with_reducible first | exact HB.out | apply below_alloc | apply pw_below_drewN | apply below_drew1) | exact HB.out))); rintro e w47 ⟨rfl, hb⟩; have n0_ := Aside0.mk (below_step (by repeat (first | (with_reducible first | exact HB.out | apply below_alloc | apply pw_below_drewN | apply below_drew1) | exact HB.out)) hb); clear HB; have HB := n0_; clear n0_; (try clear hb); (try clear hb2); (try clear hk); (try clear hi))); try go_wp2_with (first | (go_at_call 25; (with_reducible refine (siglumlaw04_awake.calls  false _ ?side1 A2.out).mono ?_); (case side1 => exact Utf.tabs_step HT.out (by repeat (first | (with_reducible first | exact HB.out | apply below_alloc | apply pw_below_drewN | apply below_drew1) | exact HB.out))); rintro e w47 ⟨rfl, hb⟩; have n0_ := Aside0.mk (below_step (by repeat (first | (with_reducible first | exact HB.out | apply below_alloc | apply pw_below_drewN | apply below_drew1) | exact HB.out)) hb); clear HB; have HB := n0_; clear n0_; (try clear hb); (try clear hb2); (try clear hk); (try clear hi))))
    go_ret
    exact ⟨by first | rfl | (simp [errW_none, errW_some] <;> rfl) | (simp [*, errW_none, errW_some] <;> rfl), by repeat (first | (with_reducible first | exact HB.out | apply below_alloc | apply pw_below_drewN | apply below_drew1) | exact HB.out)⟩

end Go.Proofs.YtalogampkkjcdaaDoor.C
