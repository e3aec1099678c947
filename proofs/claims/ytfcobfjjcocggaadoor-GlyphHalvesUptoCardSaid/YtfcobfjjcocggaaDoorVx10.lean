-- Printed by hprint.py (this session's program over the kit's print) out of the translation; the parts 'by hand' are the session's own.
import Derived.Test.YtfcobfjjcocggaaDoorVx0
import Derived.Test.YtfcobfjjcocggaaDoorVx3
import Derived.Test.YtfcobfjjcocggaaDoorVx4
import Derived.Test.YtfcobfjjcocggaaDoorVx6
import Derived.Test.YtfcobfjjcocggaaDoorVx9
namespace Go.Proofs.YtfcobfjjcocggaaDoor.V
open Go.RowKit Go.Proofs.YtfcobfjjcocggaaDoorW.PrintWords Go.Proofs.YtfcobfjjcocggaaDoorW.PrintLast Go.Proofs.YtfcobfjjcocggaaDoorW.PrintMore
attribute [local go_sem] max2_int min2_int max_two min_two max_three min_three max_four min_four   -- for this text's walks alone
set_option linter.unusedVariables false
set_option linter.unusedSimpArgs false

/-! ### siglumlaw01_GlyphWhole: function 10 -/
def siglumlaw01_GlyphWhole.j0 : Nat → ByteArray → ByteArray → Int → Bool → Option (Bool)
  | 0, _, _, _, _ => none
  | k + 1, x0, x1, x5, x25 => if x25 = true then (some false) else (if 0 ≤ x5 then (if x5 ≤ (x0.size : Int) then ((glyph_Cells.f (x0.extract 0 (x5 : Int).toNat)).bind fun t126 => (if x0.size + x1.size ≤ 9223372036854775807 then ((glyph_Cells.f (x0 ++ x1)).bind fun t129 => (if (t129.length : Int) ≥ (t126.length : Int) then (if 0 ≤ (t126.length : Int) then (if (t126.length : Int) ≤ (t129.length : Int) then ((siglumlaw01_same.f k (t129.take ((t126.length : Int) : Int).toNat) t126).bind fun t136 => (some t136)) else (none)) else (none)) else (some false))) else (none))) else (none)) else (none))
def siglumlaw01_GlyphWhole.f (k : Nat) (a0 : ByteArray) (a1 : ByteArray) : Option (Bool) := (siglumlaw01_awake.f).bind fun t123 => (if t123 = true then ((glyph_Whole.f a0).bind fun t124 => ((siglumref01_Whole.f k a0).bind fun t125 => (if t124 = t125 then (if t124 < 0 then (siglumlaw01_GlyphWhole.j0 k a0 a1 t124 true) else (siglumlaw01_GlyphWhole.j0 k a0 a1 t124 (decide (t124 > (a0.size : Int))))) else (siglumlaw01_GlyphWhole.j0 k a0 a1 t124 true)))) else (some false))
theorem siglumlaw01_GlyphWhole.mono_l : ∀ k, (∀ y0 y1 y2 y3, LeO (siglumlaw01_GlyphWhole.j0 k y0 y1 y2 y3) (siglumlaw01_GlyphWhole.j0 (k + 1) y0 y1 y2 y3))
  | 0 => fun _ _ _ _ r h => by simp [siglumlaw01_GlyphWhole.j0] at h
  | k + 1 => by
    have ih0 := siglumlaw01_GlyphWhole.mono_l k
    · intro y0 y1 y2 y3
      unfold siglumlaw01_GlyphWhole.j0
      repeat' first
      | (with_reducible exact ih0 _ _ _ _)
      | (with_reducible exact siglumlaw01_same.mono _ _ _)
      | (with_reducible exact siglumref01_Whole.mono _ _)
      | (with_reducible exact LeO.refl _)
      | (with_reducible exact LeO.none _)
      | (with_reducible refine LeO.ite ?_ ?_)
      | (with_reducible refine LeO.bind ?_ (fun _ => ?_))
      | exact ih0 _ _ _ _
      | exact siglumlaw01_same.mono _ _ _
      | exact siglumref01_Whole.mono _ _
      | exact LeO.none _
      | refine LeO.ite ?_ ?_
      | refine LeO.bind ?_ (fun _ => ?_)
theorem siglumlaw01_GlyphWhole.mono : ∀ a0 a1 k, LeO (siglumlaw01_GlyphWhole.f k a0 a1) (siglumlaw01_GlyphWhole.f (k + 1) a0 a1) := by
  intro a0 a1 k
  have ih0 := siglumlaw01_GlyphWhole.mono_l k
  unfold siglumlaw01_GlyphWhole.f
  repeat' first
      | (with_reducible exact ih0 _ _ _ _)
      | (with_reducible exact siglumlaw01_same.mono _ _ _)
      | (with_reducible exact siglumref01_Whole.mono _ _)
      | (with_reducible exact LeO.refl _)
      | (with_reducible exact LeO.none _)
      | (with_reducible refine LeO.ite ?_ ?_)
      | (with_reducible refine LeO.bind ?_ (fun _ => ?_))
      | exact ih0 _ _ _ _
      | exact siglumlaw01_same.mono _ _ _
      | exact siglumref01_Whole.mono _ _
      | exact LeO.none _
      | refine LeO.ite ?_ ?_
      | refine LeO.bind ?_ (fun _ => ?_)
set_option maxHeartbeats 8000000 in
set_option maxRecDepth 100000 in
theorem siglumlaw01_GlyphWhole.calls (k : Nat) (a0 : ByteArray) (a1 : ByteArray) (r : Bool) (w : World) (hT : Lib.Utf8Tabs 0 1 w) (h : siglumlaw01_GlyphWhole.f k a0 a1 = some r) :
    Calls Tryd.prog 10 #[.string a0, .string a1] w fun e w' => e = .returned (.bool r) ∧ Below w.heap.size w w' := by
  have HT := Aside0.mk hT
  clear hT
  have HB := Aside0.mk (Below.refl w.heap.size w)
  have H : ((siglumlaw01_awake.f).bind fun t123 => (if t123 = true then ((glyph_Whole.f a0).bind fun t124 => ((siglumref01_Whole.f k a0).bind fun t125 => (if t124 = t125 then (if t124 < 0 then (siglumlaw01_GlyphWhole.j0 k a0 a1 t124 true) else (siglumlaw01_GlyphWhole.j0 k a0 a1 t124 (decide (t124 > (a0.size : Int))))) else (siglumlaw01_GlyphWhole.j0 k a0 a1 t124 true)))) else (some false))) = some r := h
  clear h
  replace H := Option.bind_eq_some_iff.mp H
  obtain ⟨t123, A30, H⟩ := H
  replace H : (if t123 = true then ((glyph_Whole.f a0).bind fun t124 => ((siglumref01_Whole.f k a0).bind fun t125 => (if t124 = t125 then (if t124 < 0 then (siglumlaw01_GlyphWhole.j0 k a0 a1 t124 true) else (siglumlaw01_GlyphWhole.j0 k a0 a1 t124 (decide (t124 > (a0.size : Int))))) else (siglumlaw01_GlyphWhole.j0 k a0 a1 t124 true)))) else (some false)) = some r := H
  have A3 := Aside0.mk A30
  clear A30
  by_cases c4 : t123 = true
  · subst c4
    have H1 : ((glyph_Whole.f a0).bind fun t124 => ((siglumref01_Whole.f k a0).bind fun t125 => (if t124 = t125 then (if t124 < 0 then (siglumlaw01_GlyphWhole.j0 k a0 a1 t124 true) else (siglumlaw01_GlyphWhole.j0 k a0 a1 t124 (decide (t124 > (a0.size : Int))))) else (siglumlaw01_GlyphWhole.j0 k a0 a1 t124 true)))) = some r := by rw [if_pos rfl] at H; exact H
    clear H
    have H := H1
    clear H1
    replace H := Option.bind_eq_some_iff.mp H
    obtain ⟨t124, A50, H⟩ := H
    replace H : ((siglumref01_Whole.f k a0).bind fun t125 => (if t124 = t125 then (if t124 < 0 then (siglumlaw01_GlyphWhole.j0 k a0 a1 t124 true) else (siglumlaw01_GlyphWhole.j0 k a0 a1 t124 (decide (t124 > (a0.size : Int))))) else (siglumlaw01_GlyphWhole.j0 k a0 a1 t124 true))) = some r := H
    have A5 := Aside0.mk A50
    clear A50
    have HC6 := Aside0.mk H
    clear H
    go_enter Tryd.func10, Tryd.ntmps10
    go_upto_region 4 with (first | ((with_reducible refine gate_callee (f := 13) rfl ?_); refine goesL_ (some 8) rfl rfl Tryd.func13 (by kernel_rfl) rfl #[] rfl (by (try simp only [List.map_toArray, List.map_cons, List.map_nil]); first | done | rfl | (simp only [List.length_drop, List.length_take]; rfl)) ?_; (with_reducible refine (siglumlaw01_awake.calls  true _ ?side1 A3.out).mono ?_); (case side1 => exact Utf.tabs_step HT.out (by repeat (first | (with_reducible first | exact HB.out | apply below_alloc | apply pw_below_drewN | apply below_drew1) | exact HB.out))); rintro e w7 ⟨rfl, hb⟩; refine ⟨_, rfl, ?_⟩; have n0_ := Aside0.mk (below_step (by repeat (first | (with_reducible first | exact HB.out | apply below_alloc | apply pw_below_drewN | apply below_drew1) | exact HB.out)) hb); clear HB; have HB := n0_; clear n0_; (try clear hb); (try clear hb2); (try clear hk); (try clear hi)) | ((with_reducible refine gate_callee (f := 30) rfl ?_); refine goesL_ (some 11) rfl rfl Tryd.func30 (by kernel_rfl) rfl #[.string a0] rfl (by (try simp only [List.map_toArray, List.map_cons, List.map_nil]); first | done | rfl | (simp only [List.length_drop, List.length_take]; rfl)) ?_; (with_reducible refine (glyph_Whole.calls a0 t124 _ ?side1 A5.out).mono ?_); (case side1 => exact Utf.tabs_step HT.out (by repeat (first | (with_reducible first | exact HB.out | apply below_alloc | apply pw_below_drewN | apply below_drew1) | exact HB.out))); rintro e w8 ⟨rfl, hb⟩; refine ⟨_, rfl, ?_⟩; have n0_ := Aside0.mk (below_step (by repeat (first | (with_reducible first | exact HB.out | apply below_alloc | apply pw_below_drewN | apply below_drew1) | exact HB.out)) hb); clear HB; have HB := n0_; clear n0_; (try clear hb); (try clear hb2); (try clear hk); (try clear hi)))
    (try simp only [Act.put, List.setIfInBounds_toArray, List.set_cons_zero, List.set_cons_succ])
    go_cut [25] (fun v25 wc => ∃ (kq : Nat) (x25_5 : Bool), v25 = .bool x25_5 ∧ Aside0 (siglumlaw01_GlyphWhole.j0 kq a0 a1 t124 x25_5 = some r) ∧ Aside0 (kq ≤ k) ∧ Aside0 (Below w.heap.size w wc))
    case first =>
      have H := HC6.out
      clear HC6
      replace H := Option.bind_eq_some_iff.mp H
      obtain ⟨t125, A90, H⟩ := H
      replace H : (if t124 = t125 then (if t124 < 0 then (siglumlaw01_GlyphWhole.j0 k a0 a1 t124 true) else (siglumlaw01_GlyphWhole.j0 k a0 a1 t124 (decide (t124 > (a0.size : Int))))) else (siglumlaw01_GlyphWhole.j0 k a0 a1 t124 true)) = some r := H
      have A9 := Aside0.mk A90
      clear A90
      by_cases c10 : t124 = t125
      · rw [if_pos c10] at H
        have c10b0 : (t124 == t125) = true := beq_iff_eq.mpr c10
        have c10b1 : (t124 != t125) = false := bne_eq_false_iff_eq.mpr c10
        clear c10
        (first | rw [c10b0] | (simp only [i64_w, i32_w]; rw [c10b0]) | skip)
        by_cases c11 : t124 < 0
        · rw [if_pos c11] at H
          have c11b0 : decide (t124 < 0) = true := decide_eq_true c11
          clear c11
          have H' := Aside0.mk H
          clear H
          go_wp2_with (first | ((with_reducible refine gate_callee (f := 31) rfl ?_); refine goesL_ (some 14) rfl rfl Tryd.func31 (by kernel_rfl) rfl #[.string a0] rfl (by (try simp only [List.map_toArray, List.map_cons, List.map_nil]); first | done | rfl | (simp only [List.length_drop, List.length_take]; rfl)) ?_; (with_reducible refine (siglumref01_Whole.calls k a0 t125 _ A9.out).mono ?_); rintro e w' ⟨rfl, ⟨nd, rfl⟩⟩; refine ⟨_, rfl, ?_⟩))
          go_meet
          case rel => exact ⟨_, (true), (by first | rfl | (simp; done) | (simp [*]; done)), H', ⟨by first | omega | exact Nat.le_refl _⟩, ⟨by repeat (first | (with_reducible first | exact HB.out | apply below_alloc | apply pw_below_drewN | apply below_drew1) | exact HB.out)⟩⟩
        · rw [if_neg c11] at H
          have c11b0 : decide (t124 < 0) = false := decide_eq_false c11
          clear c11
          have H' := Aside0.mk H
          clear H
          go_wp2_with (first | ((with_reducible refine gate_callee (f := 31) rfl ?_); refine goesL_ (some 14) rfl rfl Tryd.func31 (by kernel_rfl) rfl #[.string a0] rfl (by (try simp only [List.map_toArray, List.map_cons, List.map_nil]); first | done | rfl | (simp only [List.length_drop, List.length_take]; rfl)) ?_; (with_reducible refine (siglumref01_Whole.calls k a0 t125 _ A9.out).mono ?_); rintro e w' ⟨rfl, ⟨nd, rfl⟩⟩; refine ⟨_, rfl, ?_⟩))
          go_meet
          case rel => exact ⟨_, (decide (t124 > (a0.size : Int))), (by first | rfl | (simp; done) | (simp [*]; done)), H', ⟨by first | omega | exact Nat.le_refl _⟩, ⟨by repeat (first | (with_reducible first | exact HB.out | apply below_alloc | apply pw_below_drewN | apply below_drew1) | exact HB.out)⟩⟩
      · rw [if_neg c10] at H
        have c10b0 : (t124 == t125) = false := beq_eq_false_iff_ne.mpr c10
        have c10b1 : (t124 != t125) = true := bne_iff_ne.mpr c10
        (first | rw [c10b0] | (simp only [i64_w, i32_w]; rw [c10b0]) | skip)
        have H' := Aside0.mk H
        clear H
        go_wp2_with (first | ((with_reducible refine gate_callee (f := 31) rfl ?_); refine goesL_ (some 14) rfl rfl Tryd.func31 (by kernel_rfl) rfl #[.string a0] rfl (by (try simp only [List.map_toArray, List.map_cons, List.map_nil]); first | done | rfl | (simp only [List.length_drop, List.length_take]; rfl)) ?_; (with_reducible refine (siglumref01_Whole.calls k a0 t125 _ A9.out).mono ?_); rintro e w' ⟨rfl, ⟨nd, rfl⟩⟩; refine ⟨_, rfl, ?_⟩))
        go_meet
        case rel => exact ⟨_, (true), (by first | rfl | (simp; done) | (simp [*]; done)), H', ⟨by first | omega | exact Nat.le_refl _⟩, ⟨by repeat (first | (with_reducible first | exact HB.out | apply below_alloc | apply pw_below_drewN | apply below_drew1) | exact HB.out)⟩⟩
    case rest =>
      clear HC6
      try clear c1
      try clear p2
      try clear c3
      try clear c4
      try clear c10
      try clear c10b0
      try clear c10b1
      try clear c11
      try clear c11b0
      obtain ⟨kq, x25_5, rfl, HA, HJ5, HB⟩ := hcut
      cases kq with
      | zero => exact absurd HA.out (by simp [siglumlaw01_GlyphWhole.j0])
      | succ kj5 =>
        have H := HA.out
        clear HA
        simp only [siglumlaw01_GlyphWhole.j0] at H
        by_cases c12 : x25_5 = true
        · subst c12
          have H1 : (some false) = some r := by rw [if_pos rfl] at H; exact H
          clear H
          have H := H1
          clear H1
          obtain rfl := Option.some.inj H
          go_wp2
          go_ret
          exact ⟨by first | rfl | (simp [errW_none, errW_some] <;> rfl) | (simp [*, errW_none, errW_some] <;> rfl), by repeat (first | (with_reducible first | exact HB.out | apply below_alloc | apply pw_below_drewN | apply below_drew1) | exact HB.out)⟩
        · replace c12 := Bool.eq_false_iff.mpr c12
          subst c12
          have H1 : (if 0 ≤ t124 then (if t124 ≤ (a0.size : Int) then ((glyph_Cells.f (a0.extract 0 (t124 : Int).toNat)).bind fun t126 => (if a0.size + a1.size ≤ 9223372036854775807 then ((glyph_Cells.f (a0 ++ a1)).bind fun t129 => (if (t129.length : Int) ≥ (t126.length : Int) then (if 0 ≤ (t126.length : Int) then (if (t126.length : Int) ≤ (t129.length : Int) then ((siglumlaw01_same.f kj5 (t129.take ((t126.length : Int) : Int).toNat) t126).bind fun t136 => (some t136)) else (none)) else (none)) else (some false))) else (none))) else (none)) else (none)) = some r := by rw [if_neg (show ¬ (false = true) by decide)] at H; exact H
          clear H
          have H := H1
          clear H1
          by_cases c13 : 0 ≤ t124
          · rw [if_pos c13] at H
            have c13b0 := eq_true c13
            have c13b1 : decide (0 ≤ t124) = true := decide_eq_true c13
            clear c13
            by_cases c14 : t124 ≤ (a0.size : Int)
            · rw [if_pos c14] at H
              have c14b0 := eq_true c14
              have c14b1 : decide (t124 ≤ (a0.size : Int)) = true := decide_eq_true c14
              clear c14
              replace H := Option.bind_eq_some_iff.mp H
              obtain ⟨t126, A150, H⟩ := H
              replace H : (if a0.size + a1.size ≤ 9223372036854775807 then ((glyph_Cells.f (a0 ++ a1)).bind fun t129 => (if (t129.length : Int) ≥ (t126.length : Int) then (if 0 ≤ (t126.length : Int) then (if (t126.length : Int) ≤ (t129.length : Int) then ((siglumlaw01_same.f kj5 (t129.take ((t126.length : Int) : Int).toNat) t126).bind fun t136 => (some t136)) else (none)) else (none)) else (some false))) else (none)) = some r := H
              have A15 := Aside0.mk A150
              clear A150
              by_cases c16 : a0.size + a1.size ≤ 9223372036854775807
              · rw [if_pos c16] at H
                have c16b0 := eq_true c16
                have c16b1 : decide (a0.size + a1.size ≤ 9223372036854775807) = true := decide_eq_true c16
                try have c16b2 : (9223372036854775807 < a0.size + a1.size) = False := eq_false (Nat.not_lt.2 c16)
                replace H := Option.bind_eq_some_iff.mp H
                obtain ⟨t129, A170, H⟩ := H
                replace H : (if (t129.length : Int) ≥ (t126.length : Int) then (if 0 ≤ (t126.length : Int) then (if (t126.length : Int) ≤ (t129.length : Int) then ((siglumlaw01_same.f kj5 (t129.take ((t126.length : Int) : Int).toNat) t126).bind fun t136 => (some t136)) else (none)) else (none)) else (some false)) = some r := H
                have A17 := Aside0.mk A170
                clear A170
                by_cases c18 : (t129.length : Int) ≥ (t126.length : Int)
                · rw [if_pos c18] at H
                  have c18b0 : decide ((t126.length : Int) ≤ (t129.length : Int)) = true := decide_eq_true c18
                  have c18b1 : decide (t126.length ≤ t129.length) = true := decide_eq_true (Int.ofNat_le.mp c18)
                  clear c18
                  by_cases c19 : 0 ≤ (t126.length : Int)
                  · rw [if_pos c19] at H
                    have c19b0 := eq_true c19
                    have c19b1 : decide (0 ≤ (t126.length : Int)) = true := decide_eq_true c19
                    clear c19
                    by_cases c20 : (t126.length : Int) ≤ (t129.length : Int)
                    · rw [if_pos c20] at H
                      have c20b0 := eq_true c20
                      have c20b1 : decide ((t126.length : Int) ≤ (t129.length : Int)) = true := decide_eq_true c20
                      clear c20
                      obtain ⟨y132, hy132⟩ : ∃ y_ : List (S30), y_ = (t129.take ((t126.length : Int) : Int).toNat) := ⟨_, rfl⟩
                      replace H : ((siglumlaw01_same.f kj5 y132 t126).bind fun t136 => (some t136)) = some r := by first | (rw [hy132]; with_reducible exact H) | (have H2_ := (Option.bind_some _ _).symm.trans H; rw [hy132]; with_reducible exact H2_) | (have H2_ := (Option.bind_some _ _).symm.trans H; with_reducible exact H2_) | with_reducible exact H | (rw [hy132]; exact H) | exact H
                      have Ny132 := Aside0.mk hy132
                      clear hy132
                      replace H := Option.bind_eq_some_iff.mp H
                      obtain ⟨t136, A210, H⟩ := H
                      replace H : (some t136) = some r := H
                      have A21 := Aside0.mk A210
                      clear A210
                      obtain rfl := Option.some.inj H
                      go_wp2_with (first | ((with_reducible refine gate_callee (f := 21) rfl ?_); refine goesL_ (some 29) rfl rfl Tryd.func21 (by kernel_rfl) rfl #[.string (a0.extract 0 (t124 : Int).toNat)] rfl (by (try simp only [List.map_toArray, List.map_cons, List.map_nil]); first | done | rfl | (simp only [List.length_drop, List.length_take]; rfl)) ?_; (with_reducible refine (glyph_Cells.calls (a0.extract 0 (t124 : Int).toNat) t126 _ ?side1 A15.out).mono ?_); (case side1 => exact Utf.tabs_step HT.out (by repeat (first | (with_reducible first | exact HB.out | apply below_alloc | apply pw_below_drewN | apply below_drew1) | exact HB.out))); rintro e w22 ⟨v127, rfl, ho0, hb⟩; refine ⟨_, rfl, ?_⟩; have n0_ := Aside0.mk (Kd.R_lower ho0 (below_size (by repeat (first | (with_reducible first | exact HB.out | apply below_alloc | apply pw_below_drewN | apply below_drew1) | exact HB.out)))); have n1_ := Aside0.mk (below_step (by repeat (first | (with_reducible first | exact HB.out | apply below_alloc | apply pw_below_drewN | apply below_drew1) | exact HB.out)) hb); clear HB; have HO128 := n0_; have HB := n1_; clear n0_ n1_; (try clear hb); (try clear hb2); (try clear hk); (try clear hi); (try clear ho0)) | ((with_reducible refine gate_callee (f := 21) rfl ?_); refine goesL_ (some 33) rfl rfl Tryd.func21 (by kernel_rfl) rfl #[.string (a0 ++ a1)] rfl (by (try simp only [List.map_toArray, List.map_cons, List.map_nil]); first | done | rfl | (simp only [List.length_drop, List.length_take]; rfl)) ?_; (with_reducible refine (glyph_Cells.calls (a0 ++ a1) t129 _ ?side1 A17.out).mono ?_); (case side1 => exact Utf.tabs_step HT.out (by repeat (first | (with_reducible first | exact HB.out | apply below_alloc | apply pw_below_drewN | apply below_drew1) | exact HB.out))); rintro e w23 ⟨v130, rfl, ho0, hb⟩; refine ⟨_, rfl, ?_⟩; have n0_ := Aside0.mk (Kd.R_elder' (by (with_reducible repeat (first | apply Kd.R_alloc | apply Kd.R_drewN | apply Kd.R_drew)); exact HO128.out) (Kd.R_base ho0) hb); have n1_ := Aside0.mk (Kd.R_lower (Kd.R_new' ho0 (Kd.R_lt (by (with_reducible repeat (first | apply Kd.R_alloc | apply Kd.R_drewN | apply Kd.R_drew)); exact HO128.out))) (below_size (by repeat (first | (with_reducible first | exact HB.out | apply below_alloc | apply pw_below_drewN | apply below_drew1) | exact HB.out)))); have n2_ := Aside0.mk (below_step (by repeat (first | (with_reducible first | exact HB.out | apply below_alloc | apply pw_below_drewN | apply below_drew1) | exact HB.out)) hb); clear HO128; clear HB; have HO128 := n0_; have HO131 := n1_; have HB := n2_; clear n0_ n1_ n2_; (try clear hb); (try clear hb2); (try clear hk); (try clear hi); (try clear ho0); obtain ⟨Ao24, co24, eo24⟩ := Kd.R_slice HO131.out; subst eo24; obtain ⟨Ao25, co25, eo25⟩ := Kd.R_slice HO128.out; subst eo25; have q26 : ((t126.length : Int) : Int) ≤ ((t129.length : Int) : Int) := of_decide_eq_true (by first | (with_reducible assumption) | assumption); obtain ⟨i026, hi026, _, hsz26, _⟩ := info_parts info30; have hroom26 : t129.length ≤ co24 := (Kd.R_reads' HO131.out).2.1; have hC26 : Kd.C k30 _ Ao24 t129.length t129 := (Kd.R_reads' HO131.out).2.2; have hcut26 := cut_to (P := Tryd.prog) 22 30 .i64 Tryd.underlying22 hi026 Ao24 t129.length co24 (t126.length : Int) (of_decide_eq_true (by first | (with_reducible assumption) | assumption)) q26 hroom26; have hr26 := Kd.C_take (m := ((t126.length : Int) : Int).toNat) hC26 (by omega); have hy26 : y132.length = ((t126.length : Int) : Int).toNat := (by rw [Ny132.out, List.length_take]; omega); rw [← Ny132.out] at hr26; rw [← hy26] at hcut26; have HR135 := Aside0.mk hr26; have HC135 := Aside0.mk (show y132.length ≤ co24 from by omega); clear hr26 hC26 hroom26 hi026 hsz26; have KY26 := Aside0.mk hy26; clear hy26; have KL26 := Aside0.mk (show ((t126.length : Int) : Int).toNat ≤ t129.length from by omega); replace q26 := eq_true q26) | (go_at_call 29; (with_reducible refine (siglumlaw01_same.calls kj5 _ _ y132 _ _ t126 t136 _ ?side1 ?side2 ?side3 ?side4 A21.out).mono ?_); (case side1 => repeat (first | exact (by repeat (first | (with_reducible exact HR135.out) | (with_reducible refine Kd.C_alloc ?_ _) | (with_reducible refine Kd.C_drewN ?_ _) | (with_reducible refine Kd.C_drew ?_) | exact HR135.out)) | (with_reducible refine Kd.C_alloc ?_ _) | (with_reducible refine Kd.C_drewN ?_ _) | (with_reducible refine Kd.C_drew ?_))); (case side2 => exact HC135.out); (case side3 => repeat (first | exact (Kd.R_reads' HO128.out).2.2 | (with_reducible refine Kd.C_alloc ?_ _) | (with_reducible refine Kd.C_drewN ?_ _) | (with_reducible refine Kd.C_drew ?_))); (case side4 => exact (Kd.R_reads' HO128.out).2.1); rintro e w' ⟨rfl, ⟨nd, rfl⟩⟩))
                      go_ret
                      exact ⟨by first | rfl | (simp [errW_none, errW_some] <;> rfl) | (simp [*, errW_none, errW_some] <;> rfl), by repeat (first | (with_reducible first | exact HB.out | apply below_alloc | apply pw_below_drewN | apply below_drew1) | exact HB.out)⟩
                    · rw [if_neg c20] at H
                      exact absurd H (by simp)
                  · rw [if_neg c19] at H
                    exact absurd H (by simp)
                · rw [if_neg c18] at H
                  have c18b0 : decide ((t126.length : Int) ≤ (t129.length : Int)) = false := decide_eq_false c18
                  have c18b1 : decide (t126.length ≤ t129.length) = false := decide_eq_false (fun h => c18 (Int.ofNat_le.mpr h))
                  clear c18
                  obtain rfl := Option.some.inj H
                  go_wp2_with (first | ((with_reducible refine gate_callee (f := 21) rfl ?_); refine goesL_ (some 29) rfl rfl Tryd.func21 (by kernel_rfl) rfl #[.string (a0.extract 0 (t124 : Int).toNat)] rfl (by (try simp only [List.map_toArray, List.map_cons, List.map_nil]); first | done | rfl | (simp only [List.length_drop, List.length_take]; rfl)) ?_; (with_reducible refine (glyph_Cells.calls (a0.extract 0 (t124 : Int).toNat) t126 _ ?side1 A15.out).mono ?_); (case side1 => exact Utf.tabs_step HT.out (by repeat (first | (with_reducible first | exact HB.out | apply below_alloc | apply pw_below_drewN | apply below_drew1) | exact HB.out))); rintro e w27 ⟨v127, rfl, ho0, hb⟩; refine ⟨_, rfl, ?_⟩; have n0_ := Aside0.mk (Kd.R_lower ho0 (below_size (by repeat (first | (with_reducible first | exact HB.out | apply below_alloc | apply pw_below_drewN | apply below_drew1) | exact HB.out)))); have n1_ := Aside0.mk (below_step (by repeat (first | (with_reducible first | exact HB.out | apply below_alloc | apply pw_below_drewN | apply below_drew1) | exact HB.out)) hb); clear HB; have HO128 := n0_; have HB := n1_; clear n0_ n1_; (try clear hb); (try clear hb2); (try clear hk); (try clear hi); (try clear ho0)) | ((with_reducible refine gate_callee (f := 21) rfl ?_); refine goesL_ (some 33) rfl rfl Tryd.func21 (by kernel_rfl) rfl #[.string (a0 ++ a1)] rfl (by (try simp only [List.map_toArray, List.map_cons, List.map_nil]); first | done | rfl | (simp only [List.length_drop, List.length_take]; rfl)) ?_; (with_reducible refine (glyph_Cells.calls (a0 ++ a1) t129 _ ?side1 A17.out).mono ?_); (case side1 => exact Utf.tabs_step HT.out (by repeat (first | (with_reducible first | exact HB.out | apply below_alloc | apply pw_below_drewN | apply below_drew1) | exact HB.out))); rintro e w28 ⟨v130, rfl, ho0, hb⟩; refine ⟨_, rfl, ?_⟩; have n0_ := Aside0.mk (Kd.R_elder' (by (with_reducible repeat (first | apply Kd.R_alloc | apply Kd.R_drewN | apply Kd.R_drew)); exact HO128.out) (Kd.R_base ho0) hb); have n1_ := Aside0.mk (Kd.R_lower (Kd.R_new' ho0 (Kd.R_lt (by (with_reducible repeat (first | apply Kd.R_alloc | apply Kd.R_drewN | apply Kd.R_drew)); exact HO128.out))) (below_size (by repeat (first | (with_reducible first | exact HB.out | apply below_alloc | apply pw_below_drewN | apply below_drew1) | exact HB.out)))); have n2_ := Aside0.mk (below_step (by repeat (first | (with_reducible first | exact HB.out | apply below_alloc | apply pw_below_drewN | apply below_drew1) | exact HB.out)) hb); clear HO128; clear HB; have HO128 := n0_; have HO131 := n1_; have HB := n2_; clear n0_ n1_ n2_; (try clear hb); (try clear hb2); (try clear hk); (try clear hi); (try clear ho0); obtain ⟨Ao29, co29, eo29⟩ := Kd.R_slice HO131.out; subst eo29; obtain ⟨Ao30, co30, eo30⟩ := Kd.R_slice HO128.out; subst eo30))
                  go_ret
                  exact ⟨by first | rfl | (simp [errW_none, errW_some] <;> rfl) | (simp [*, errW_none, errW_some] <;> rfl), by repeat (first | (with_reducible first | exact HB.out | apply below_alloc | apply pw_below_drewN | apply below_drew1) | exact HB.out)⟩
              · rw [if_neg c16] at H
                exact absurd H (by simp)
            · rw [if_neg c14] at H
              exact absurd H (by simp)
          · rw [if_neg c13] at H
            exact absurd H (by simp)
  · replace c4 := Bool.eq_false_iff.mpr c4
    subst c4
    have H1 : (some false) = some r := by rw [if_neg (show ¬ (false = true) by decide)] at H; exact H
    clear H
    have H := H1
    clear H1
    obtain rfl := Option.some.inj H
    go_enter Tryd.func10, Tryd.ntmps10
    go_wp2_with (first | ((with_reducible refine gate_callee (f := 13) rfl ?_); refine goesL_ (some 8) rfl rfl Tryd.func13 (by kernel_rfl) rfl #[] rfl (by (try simp only [List.map_toArray, List.map_cons, List.map_nil]); first | done | rfl | (simp only [List.length_drop, List.length_take]; rfl)) ?_; (with_reducible refine (siglumlaw01_awake.calls  false _ ?side1 A3.out).mono ?_); (case side1 => exact Utf.tabs_step HT.out (by repeat (first | (with_reducible first | exact HB.out | apply below_alloc | apply pw_below_drewN | apply below_drew1) | exact HB.out))); rintro e w31 ⟨rfl, hb⟩; refine ⟨_, rfl, ?_⟩; have n0_ := Aside0.mk (below_step (by repeat (first | (with_reducible first | exact HB.out | apply below_alloc | apply pw_below_drewN | apply below_drew1) | exact HB.out)) hb); clear HB; have HB := n0_; clear n0_; (try clear hb); (try clear hb2); (try clear hk); (try clear hi)))
    go_ret
    exact ⟨by first | rfl | (simp [errW_none, errW_some] <;> rfl) | (simp [*, errW_none, errW_some] <;> rfl), by repeat (first | (with_reducible first | exact HB.out | apply below_alloc | apply pw_below_drewN | apply below_drew1) | exact HB.out)⟩

end Go.Proofs.YtfcobfjjcocggaaDoor.V
