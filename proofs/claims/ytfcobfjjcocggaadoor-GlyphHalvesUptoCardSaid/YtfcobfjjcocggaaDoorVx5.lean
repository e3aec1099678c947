-- Printed by hprint.py (this session's program over the kit's print) out of the translation; the parts 'by hand' are the session's own.
import Derived.Test.YtfcobfjjcocggaaDoorVx0
namespace Go.Proofs.YtfcobfjjcocggaaDoor.V
open Go.RowKit Go.Proofs.YtfcobfjjcocggaaDoorW.PrintWords Go.Proofs.YtfcobfjjcocggaaDoorW.PrintLast Go.Proofs.YtfcobfjjcocggaaDoorW.PrintMore
attribute [local go_sem] max2_int min2_int max_two min_two max_three min_three max_four min_four   -- for this text's walks alone
set_option linter.unusedVariables false
set_option linter.unusedSimpArgs false

/-! ### utf8_FullRuneInString: function 48: by hand -/
/-- utf8.FullRuneInString, by the two tables as functions. -/
def fullRune (s : ByteArray) : Bool := decide (s.size ≠ 0 ∧ (Lib.firstT (s.get! 0).toNat % 8 ≤ s.size ∨ (1 < s.size ∧ ((s.get! 1).toNat < Lib.accLo (Lib.firstT (s.get! 0).toNat / 16) ∨ Lib.accHi (Lib.firstT (s.get! 0).toNat / 16) < (s.get! 1).toNat)) ∨ (2 < s.size ∧ ((s.get! 2).toNat < 128 ∨ 191 < (s.get! 2).toNat))))
def utf8_FullRuneInString.f (a0 : ByteArray) : Option Bool := if a0.size ≤ 4294967296 then some (fullRune a0) else none
set_option maxHeartbeats 8000000 in
set_option maxRecDepth 100000 in
theorem utf8_FullRuneInString.calls (a0 : ByteArray) (r : Bool) (w : World) (hT : Lib.Utf8Tabs 0 1 w) (h : utf8_FullRuneInString.f a0 = some r) :
    Calls Tryd.prog 48 #[.string a0] w fun e w' => e = .returned (.bool r) ∧ Below w.heap.size w w' := by
  unfold utf8_FullRuneInString.f at h
  by_cases hs : a0.size ≤ 4294967296
  · rw [if_pos hs] at h
    obtain rfl := Option.some.inj h
    clear h
    by_cases h0 : a0.size = 0
    · have hr : fullRune a0 = false := decide_eq_false (fun e => e.1 h0)
      rw [hr]
      have hz : ((a0.size : Int) == 0) = true := by rw [h0]; rfl
      clear hr h0
      go_enter Tryd.func48, Tryd.ntmps48
      go_wp2
      go_ret
      exact ⟨rfl, Below.refl _ _⟩
    · have hz0 : (0 : Int) < (a0.size : Int) := by omega
      have hze : ((a0.size : Int) == 0) = false := beq_eq_false_iff_ne.2 (by omega)
      obtain ⟨x0, hx0⟩ : ∃ x0, a0.get! 0 = x0 := ⟨_, rfl⟩
      obtain ⟨x1, hx1⟩ : ∃ x1, a0.get! 1 = x1 := ⟨_, rfl⟩
      obtain ⟨x2, hx2⟩ : ∃ x2, a0.get! 2 = x2 := ⟨_, rfl⟩
      have hs0 : a0[0]'(by omega) = x0 := by rw [← hx0]; exact (Utf8W.get!_of_lt a0 0 (by omega)).symm
      have hs1 : ∀ h : 1 < a0.size, a0[1]'h = x1 := fun h => by rw [← hx1]; exact (Utf8W.get!_of_lt a0 1 h).symm
      have hs2 : ∀ h : 2 < a0.size, a0[2]'h = x2 := fun h => by rw [← hx2]; exact (Utf8W.get!_of_lt a0 2 h).symm
      have HS1 := Aside0.mk hs1
      have HS2 := Aside0.mk hs2
      clear hs1 hs2
      have l0 := x0.toNat_lt
      have l1 := x1.toNat_lt
      have l2 := x2.toNat_lt
      have hr : Aside0 (fullRune a0 = decide (a0.size ≠ 0 ∧ (Lib.firstT x0.toNat % 8 ≤ a0.size ∨ (1 < a0.size ∧ (x1.toNat < Lib.accLo (Lib.firstT x0.toNat / 16) ∨ Lib.accHi (Lib.firstT x0.toNat / 16) < x1.toNat)) ∨ (2 < a0.size ∧ (x2.toNat < 128 ∨ 191 < x2.toNat))))) := ⟨by unfold fullRune; rw [hx0, hx1, hx2]⟩
      clear hx0 hx1 hx2
      obtain ⟨F, hF⟩ : ∃ F, fullRune a0 = F := ⟨_, rfl⟩
      rw [hF] at hr ⊢
      clear hF
      have hc0 := hT.1 x0.toNat (by omega)
      rcases Lib.firstT_cases x0.toNat with hX | hX | hX | hX | hX | hX | hX | hX | hX
      · rw [hX] at hc0
        have hr := hr.out
        rw [hX, decide_eq_true (by omega)] at hr
        subst hr
        clear hT hX
        go_enter Tryd.func48, Tryd.ntmps48
        go_wp2
        all_goals (go_ret; exact ⟨rfl, Below.refl _ _⟩)
      · rw [hX] at hc0
        have hr := hr.out
        rw [hX, decide_eq_true (by omega)] at hr
        subst hr
        clear hT hX
        go_enter Tryd.func48, Tryd.ntmps48
        go_wp2
        all_goals (go_ret; exact ⟨rfl, Below.refl _ _⟩)
      · rw [hX] at hc0
        have hr := hr.out
        rw [hX] at hr
        have ha0 := (hT.2 0 (by omega)).1
        have ha1 := (hT.2 0 (by omega)).2
        simp only [Lib.accLo, Lib.accHi, Nat.reduceMul, Nat.reduceAdd, Nat.reduceEqDiff, if_true, if_false, Nat.reduceMod, Nat.reduceDiv] at ha0 ha1 hr
        clear hT hX
        by_cases hge : 2 ≤ a0.size
        · rw [decide_eq_true (by omega)] at hr
          subst hr
          have hgz : (2 : Int) ≤ (a0.size : Int) := by omega
          go_enter Tryd.func48, Tryd.ntmps48
          go_wp2
          all_goals (go_ret; exact ⟨rfl, Below.refl _ _⟩)
        · rw [decide_eq_false (by omega)] at hr
          subst hr
          have hnz : (a0.size : Int) = 1 := by omega
          go_enter Tryd.func48, Tryd.ntmps48
          go_wp2
          go_quiet (fail)
          go_wp2
          (try go_quiet (fail))
          (try go_wp2)
          all_goals (go_ret; exact ⟨rfl, (by repeat (first | exact Below.refl _ _ | apply pw_below_drewN | apply below_drew1 | apply below_alloc))⟩)
      · rw [hX] at hc0
        have hr := hr.out
        rw [hX] at hr
        have ha0 := (hT.2 1 (by omega)).1
        have ha1 := (hT.2 1 (by omega)).2
        simp only [Lib.accLo, Lib.accHi, Nat.reduceMul, Nat.reduceAdd, Nat.reduceEqDiff, if_true, if_false, Nat.reduceMod, Nat.reduceDiv] at ha0 ha1 hr
        clear hT hX
        by_cases hge : 3 ≤ a0.size
        · rw [decide_eq_true (by omega)] at hr
          subst hr
          have hgz : (3 : Int) ≤ (a0.size : Int) := by omega
          go_enter Tryd.func48, Tryd.ntmps48
          go_wp2
          all_goals (go_ret; exact ⟨rfl, Below.refl _ _⟩)
        · by_cases hn1 : a0.size = 1
          · rw [decide_eq_false (by omega)] at hr
            subst hr
            have hnz : (a0.size : Int) = 1 := by omega
            go_enter Tryd.func48, Tryd.ntmps48
            go_wp2
            go_quiet (fail)
            go_wp2
            (try go_quiet (fail))
            (try go_wp2)
            all_goals (go_ret; exact ⟨rfl, (by repeat (first | exact Below.refl _ _ | apply pw_below_drewN | apply below_drew1 | apply below_alloc))⟩)
          · have hs1 := HS1.out (by omega)
            by_cases ht1 : x1.toNat < 160
            · rw [decide_eq_true (by omega)] at hr
              subst hr
              have hb1 : (1 : Int) < (a0.size : Int) := by omega
              have hnz : (a0.size : Int) = 2 := by omega
              have hd1 : decide ((x1.toNat : Int) < 160) = true := decide_eq_true (by omega)
              go_enter Tryd.func48, Tryd.ntmps48
              go_wp2
              go_quiet (fail)
              go_wp2
              (try go_quiet (fail))
              (try go_wp2)
              all_goals (go_ret; exact ⟨rfl, (by repeat (first | exact Below.refl _ _ | apply pw_below_drewN | apply below_drew1 | apply below_alloc))⟩)
            · by_cases ht2 : 191 < x1.toNat
              · rw [decide_eq_true (by omega)] at hr
                subst hr
                have hb1 : (1 : Int) < (a0.size : Int) := by omega
                have hnz : (a0.size : Int) = 2 := by omega
                have hd1 : decide ((x1.toNat : Int) < 160) = false := decide_eq_false (by omega)
                have hd2 : decide ((191 : Int) < (x1.toNat : Int)) = true := decide_eq_true (by omega)
                go_enter Tryd.func48, Tryd.ntmps48
                go_wp2
                go_quiet (fail)
                go_wp2
                (try go_quiet (fail))
                (try go_wp2)
                all_goals (go_ret; exact ⟨rfl, (by repeat (first | exact Below.refl _ _ | apply pw_below_drewN | apply below_drew1 | apply below_alloc))⟩)
              · rw [decide_eq_false (by omega)] at hr
                subst hr
                have hb1 : (1 : Int) < (a0.size : Int) := by omega
                have hnz : (a0.size : Int) = 2 := by omega
                have hd1 : decide ((x1.toNat : Int) < 160) = false := decide_eq_false (by omega)
                have hd2 : decide ((191 : Int) < (x1.toNat : Int)) = false := decide_eq_false (by omega)
                go_enter Tryd.func48, Tryd.ntmps48
                go_wp2
                go_quiet (fail)
                go_wp2
                (try go_quiet (fail))
                (try go_wp2)
                all_goals (go_ret; exact ⟨rfl, (by repeat (first | exact Below.refl _ _ | apply pw_below_drewN | apply below_drew1 | apply below_alloc))⟩)
      · rw [hX] at hc0
        have hr := hr.out
        rw [hX] at hr
        have ha0 := (hT.2 0 (by omega)).1
        have ha1 := (hT.2 0 (by omega)).2
        simp only [Lib.accLo, Lib.accHi, Nat.reduceMul, Nat.reduceAdd, Nat.reduceEqDiff, if_true, if_false, Nat.reduceMod, Nat.reduceDiv] at ha0 ha1 hr
        clear hT hX
        by_cases hge : 3 ≤ a0.size
        · rw [decide_eq_true (by omega)] at hr
          subst hr
          have hgz : (3 : Int) ≤ (a0.size : Int) := by omega
          go_enter Tryd.func48, Tryd.ntmps48
          go_wp2
          all_goals (go_ret; exact ⟨rfl, Below.refl _ _⟩)
        · by_cases hn1 : a0.size = 1
          · rw [decide_eq_false (by omega)] at hr
            subst hr
            have hnz : (a0.size : Int) = 1 := by omega
            go_enter Tryd.func48, Tryd.ntmps48
            go_wp2
            go_quiet (fail)
            go_wp2
            (try go_quiet (fail))
            (try go_wp2)
            all_goals (go_ret; exact ⟨rfl, (by repeat (first | exact Below.refl _ _ | apply pw_below_drewN | apply below_drew1 | apply below_alloc))⟩)
          · have hs1 := HS1.out (by omega)
            by_cases ht1 : x1.toNat < 128
            · rw [decide_eq_true (by omega)] at hr
              subst hr
              have hb1 : (1 : Int) < (a0.size : Int) := by omega
              have hnz : (a0.size : Int) = 2 := by omega
              have hd1 : decide ((x1.toNat : Int) < 128) = true := decide_eq_true (by omega)
              go_enter Tryd.func48, Tryd.ntmps48
              go_wp2
              go_quiet (fail)
              go_wp2
              (try go_quiet (fail))
              (try go_wp2)
              all_goals (go_ret; exact ⟨rfl, (by repeat (first | exact Below.refl _ _ | apply pw_below_drewN | apply below_drew1 | apply below_alloc))⟩)
            · by_cases ht2 : 191 < x1.toNat
              · rw [decide_eq_true (by omega)] at hr
                subst hr
                have hb1 : (1 : Int) < (a0.size : Int) := by omega
                have hnz : (a0.size : Int) = 2 := by omega
                have hd1 : decide ((x1.toNat : Int) < 128) = false := decide_eq_false (by omega)
                have hd2 : decide ((191 : Int) < (x1.toNat : Int)) = true := decide_eq_true (by omega)
                go_enter Tryd.func48, Tryd.ntmps48
                go_wp2
                go_quiet (fail)
                go_wp2
                (try go_quiet (fail))
                (try go_wp2)
                all_goals (go_ret; exact ⟨rfl, (by repeat (first | exact Below.refl _ _ | apply pw_below_drewN | apply below_drew1 | apply below_alloc))⟩)
              · rw [decide_eq_false (by omega)] at hr
                subst hr
                have hb1 : (1 : Int) < (a0.size : Int) := by omega
                have hnz : (a0.size : Int) = 2 := by omega
                have hd1 : decide ((x1.toNat : Int) < 128) = false := decide_eq_false (by omega)
                have hd2 : decide ((191 : Int) < (x1.toNat : Int)) = false := decide_eq_false (by omega)
                go_enter Tryd.func48, Tryd.ntmps48
                go_wp2
                go_quiet (fail)
                go_wp2
                (try go_quiet (fail))
                (try go_wp2)
                all_goals (go_ret; exact ⟨rfl, (by repeat (first | exact Below.refl _ _ | apply pw_below_drewN | apply below_drew1 | apply below_alloc))⟩)
      · rw [hX] at hc0
        have hr := hr.out
        rw [hX] at hr
        have ha0 := (hT.2 2 (by omega)).1
        have ha1 := (hT.2 2 (by omega)).2
        simp only [Lib.accLo, Lib.accHi, Nat.reduceMul, Nat.reduceAdd, Nat.reduceEqDiff, if_true, if_false, Nat.reduceMod, Nat.reduceDiv] at ha0 ha1 hr
        clear hT hX
        by_cases hge : 3 ≤ a0.size
        · rw [decide_eq_true (by omega)] at hr
          subst hr
          have hgz : (3 : Int) ≤ (a0.size : Int) := by omega
          go_enter Tryd.func48, Tryd.ntmps48
          go_wp2
          all_goals (go_ret; exact ⟨rfl, Below.refl _ _⟩)
        · by_cases hn1 : a0.size = 1
          · rw [decide_eq_false (by omega)] at hr
            subst hr
            have hnz : (a0.size : Int) = 1 := by omega
            go_enter Tryd.func48, Tryd.ntmps48
            go_wp2
            go_quiet (fail)
            go_wp2
            (try go_quiet (fail))
            (try go_wp2)
            all_goals (go_ret; exact ⟨rfl, (by repeat (first | exact Below.refl _ _ | apply pw_below_drewN | apply below_drew1 | apply below_alloc))⟩)
          · have hs1 := HS1.out (by omega)
            by_cases ht1 : x1.toNat < 128
            · rw [decide_eq_true (by omega)] at hr
              subst hr
              have hb1 : (1 : Int) < (a0.size : Int) := by omega
              have hnz : (a0.size : Int) = 2 := by omega
              have hd1 : decide ((x1.toNat : Int) < 128) = true := decide_eq_true (by omega)
              go_enter Tryd.func48, Tryd.ntmps48
              go_wp2
              go_quiet (fail)
              go_wp2
              (try go_quiet (fail))
              (try go_wp2)
              all_goals (go_ret; exact ⟨rfl, (by repeat (first | exact Below.refl _ _ | apply pw_below_drewN | apply below_drew1 | apply below_alloc))⟩)
            · by_cases ht2 : 159 < x1.toNat
              · rw [decide_eq_true (by omega)] at hr
                subst hr
                have hb1 : (1 : Int) < (a0.size : Int) := by omega
                have hnz : (a0.size : Int) = 2 := by omega
                have hd1 : decide ((x1.toNat : Int) < 128) = false := decide_eq_false (by omega)
                have hd2 : decide ((159 : Int) < (x1.toNat : Int)) = true := decide_eq_true (by omega)
                go_enter Tryd.func48, Tryd.ntmps48
                go_wp2
                go_quiet (fail)
                go_wp2
                (try go_quiet (fail))
                (try go_wp2)
                all_goals (go_ret; exact ⟨rfl, (by repeat (first | exact Below.refl _ _ | apply pw_below_drewN | apply below_drew1 | apply below_alloc))⟩)
              · rw [decide_eq_false (by omega)] at hr
                subst hr
                have hb1 : (1 : Int) < (a0.size : Int) := by omega
                have hnz : (a0.size : Int) = 2 := by omega
                have hd1 : decide ((x1.toNat : Int) < 128) = false := decide_eq_false (by omega)
                have hd2 : decide ((159 : Int) < (x1.toNat : Int)) = false := decide_eq_false (by omega)
                go_enter Tryd.func48, Tryd.ntmps48
                go_wp2
                go_quiet (fail)
                go_wp2
                (try go_quiet (fail))
                (try go_wp2)
                all_goals (go_ret; exact ⟨rfl, (by repeat (first | exact Below.refl _ _ | apply pw_below_drewN | apply below_drew1 | apply below_alloc))⟩)
      · rw [hX] at hc0
        have hr := hr.out
        rw [hX] at hr
        have ha0 := (hT.2 3 (by omega)).1
        have ha1 := (hT.2 3 (by omega)).2
        simp only [Lib.accLo, Lib.accHi, Nat.reduceMul, Nat.reduceAdd, Nat.reduceEqDiff, if_true, if_false, Nat.reduceMod, Nat.reduceDiv] at ha0 ha1 hr
        clear hT hX
        by_cases hge : 4 ≤ a0.size
        · rw [decide_eq_true (by omega)] at hr
          subst hr
          have hgz : (4 : Int) ≤ (a0.size : Int) := by omega
          go_enter Tryd.func48, Tryd.ntmps48
          go_wp2
          all_goals (go_ret; exact ⟨rfl, Below.refl _ _⟩)
        · by_cases hn1 : a0.size = 1
          · rw [decide_eq_false (by omega)] at hr
            subst hr
            have hnz : (a0.size : Int) = 1 := by omega
            go_enter Tryd.func48, Tryd.ntmps48
            go_wp2
            go_quiet (fail)
            go_wp2
            (try go_quiet (fail))
            (try go_wp2)
            all_goals (go_ret; exact ⟨rfl, (by repeat (first | exact Below.refl _ _ | apply pw_below_drewN | apply below_drew1 | apply below_alloc))⟩)
          · by_cases hn2 : a0.size = 2
            · have hs1 := HS1.out (by omega)
              by_cases ht1 : x1.toNat < 144
              · rw [decide_eq_true (by omega)] at hr
                subst hr
                have hb1 : (1 : Int) < (a0.size : Int) := by omega
                have hnz : (a0.size : Int) = 2 := by omega
                have hd1 : decide ((x1.toNat : Int) < 144) = true := decide_eq_true (by omega)
                go_enter Tryd.func48, Tryd.ntmps48
                go_wp2
                go_quiet (fail)
                go_wp2
                (try go_quiet (fail))
                (try go_wp2)
                all_goals (go_ret; exact ⟨rfl, (by repeat (first | exact Below.refl _ _ | apply pw_below_drewN | apply below_drew1 | apply below_alloc))⟩)
              · by_cases ht2 : 191 < x1.toNat
                · rw [decide_eq_true (by omega)] at hr
                  subst hr
                  have hb1 : (1 : Int) < (a0.size : Int) := by omega
                  have hnz : (a0.size : Int) = 2 := by omega
                  have hd1 : decide ((x1.toNat : Int) < 144) = false := decide_eq_false (by omega)
                  have hd2 : decide ((191 : Int) < (x1.toNat : Int)) = true := decide_eq_true (by omega)
                  go_enter Tryd.func48, Tryd.ntmps48
                  go_wp2
                  go_quiet (fail)
                  go_wp2
                  (try go_quiet (fail))
                  (try go_wp2)
                  all_goals (go_ret; exact ⟨rfl, (by repeat (first | exact Below.refl _ _ | apply pw_below_drewN | apply below_drew1 | apply below_alloc))⟩)
                · rw [decide_eq_false (by omega)] at hr
                  subst hr
                  have hb1 : (1 : Int) < (a0.size : Int) := by omega
                  have hnz : (a0.size : Int) = 2 := by omega
                  have hd1 : decide ((x1.toNat : Int) < 144) = false := decide_eq_false (by omega)
                  have hd2 : decide ((191 : Int) < (x1.toNat : Int)) = false := decide_eq_false (by omega)
                  go_enter Tryd.func48, Tryd.ntmps48
                  go_wp2
                  go_quiet (fail)
                  go_wp2
                  (try go_quiet (fail))
                  (try go_wp2)
                  all_goals (go_ret; exact ⟨rfl, (by repeat (first | exact Below.refl _ _ | apply pw_below_drewN | apply below_drew1 | apply below_alloc))⟩)
            · have hs1 := HS1.out (by omega)
              have hs2 := HS2.out (by omega)
              by_cases ht1 : x1.toNat < 144
              · rw [decide_eq_true (by omega)] at hr
                subst hr
                have hb1 : (1 : Int) < (a0.size : Int) := by omega
                have hb2 : (2 : Int) < (a0.size : Int) := by omega
                have hnz : (a0.size : Int) = 3 := by omega
                have hd1 : decide ((x1.toNat : Int) < 144) = true := decide_eq_true (by omega)
                go_enter Tryd.func48, Tryd.ntmps48
                go_wp2
                go_quiet (fail)
                go_wp2
                (try go_quiet (fail))
                (try go_wp2)
                all_goals (go_ret; exact ⟨rfl, (by repeat (first | exact Below.refl _ _ | apply pw_below_drewN | apply below_drew1 | apply below_alloc))⟩)
              · by_cases ht2 : 191 < x1.toNat
                · rw [decide_eq_true (by omega)] at hr
                  subst hr
                  have hb1 : (1 : Int) < (a0.size : Int) := by omega
                  have hb2 : (2 : Int) < (a0.size : Int) := by omega
                  have hnz : (a0.size : Int) = 3 := by omega
                  have hd1 : decide ((x1.toNat : Int) < 144) = false := decide_eq_false (by omega)
                  have hd2 : decide ((191 : Int) < (x1.toNat : Int)) = true := decide_eq_true (by omega)
                  go_enter Tryd.func48, Tryd.ntmps48
                  go_wp2
                  go_quiet (fail)
                  go_wp2
                  (try go_quiet (fail))
                  (try go_wp2)
                  all_goals (go_ret; exact ⟨rfl, (by repeat (first | exact Below.refl _ _ | apply pw_below_drewN | apply below_drew1 | apply below_alloc))⟩)
                · by_cases ht3 : x2.toNat < 128
                  · rw [decide_eq_true (by omega)] at hr
                    subst hr
                    have hb1 : (1 : Int) < (a0.size : Int) := by omega
                    have hb2 : (2 : Int) < (a0.size : Int) := by omega
                    have hnz : (a0.size : Int) = 3 := by omega
                    have hd1 : decide ((x1.toNat : Int) < 144) = false := decide_eq_false (by omega)
                    have hd2 : decide ((191 : Int) < (x1.toNat : Int)) = false := decide_eq_false (by omega)
                    have hd3 : decide ((x2.toNat : Int) < 128) = true := decide_eq_true (by omega)
                    go_enter Tryd.func48, Tryd.ntmps48
                    go_wp2
                    go_quiet (fail)
                    go_wp2
                    (try go_quiet (fail))
                    (try go_wp2)
                    all_goals (go_ret; exact ⟨rfl, (by repeat (first | exact Below.refl _ _ | apply pw_below_drewN | apply below_drew1 | apply below_alloc))⟩)
                  · by_cases ht4 : 191 < x2.toNat
                    · rw [decide_eq_true (by omega)] at hr
                      subst hr
                      have hb1 : (1 : Int) < (a0.size : Int) := by omega
                      have hb2 : (2 : Int) < (a0.size : Int) := by omega
                      have hnz : (a0.size : Int) = 3 := by omega
                      have hd1 : decide ((x1.toNat : Int) < 144) = false := decide_eq_false (by omega)
                      have hd2 : decide ((191 : Int) < (x1.toNat : Int)) = false := decide_eq_false (by omega)
                      have hd3 : decide ((x2.toNat : Int) < 128) = false := decide_eq_false (by omega)
                      have hd4 : decide ((191 : Int) < (x2.toNat : Int)) = true := decide_eq_true (by omega)
                      go_enter Tryd.func48, Tryd.ntmps48
                      go_wp2
                      go_quiet (fail)
                      go_wp2
                      (try go_quiet (fail))
                      (try go_wp2)
                      all_goals (go_ret; exact ⟨rfl, (by repeat (first | exact Below.refl _ _ | apply pw_below_drewN | apply below_drew1 | apply below_alloc))⟩)
                    · rw [decide_eq_false (by omega)] at hr
                      subst hr
                      have hb1 : (1 : Int) < (a0.size : Int) := by omega
                      have hb2 : (2 : Int) < (a0.size : Int) := by omega
                      have hnz : (a0.size : Int) = 3 := by omega
                      have hd1 : decide ((x1.toNat : Int) < 144) = false := decide_eq_false (by omega)
                      have hd2 : decide ((191 : Int) < (x1.toNat : Int)) = false := decide_eq_false (by omega)
                      have hd3 : decide ((x2.toNat : Int) < 128) = false := decide_eq_false (by omega)
                      have hd4 : decide ((191 : Int) < (x2.toNat : Int)) = false := decide_eq_false (by omega)
                      go_enter Tryd.func48, Tryd.ntmps48
                      go_wp2
                      go_quiet (fail)
                      go_wp2
                      (try go_quiet (fail))
                      (try go_wp2)
                      all_goals (go_ret; exact ⟨rfl, (by repeat (first | exact Below.refl _ _ | apply pw_below_drewN | apply below_drew1 | apply below_alloc))⟩)
      · rw [hX] at hc0
        have hr := hr.out
        rw [hX] at hr
        have ha0 := (hT.2 0 (by omega)).1
        have ha1 := (hT.2 0 (by omega)).2
        simp only [Lib.accLo, Lib.accHi, Nat.reduceMul, Nat.reduceAdd, Nat.reduceEqDiff, if_true, if_false, Nat.reduceMod, Nat.reduceDiv] at ha0 ha1 hr
        clear hT hX
        by_cases hge : 4 ≤ a0.size
        · rw [decide_eq_true (by omega)] at hr
          subst hr
          have hgz : (4 : Int) ≤ (a0.size : Int) := by omega
          go_enter Tryd.func48, Tryd.ntmps48
          go_wp2
          all_goals (go_ret; exact ⟨rfl, Below.refl _ _⟩)
        · by_cases hn1 : a0.size = 1
          · rw [decide_eq_false (by omega)] at hr
            subst hr
            have hnz : (a0.size : Int) = 1 := by omega
            go_enter Tryd.func48, Tryd.ntmps48
            go_wp2
            go_quiet (fail)
            go_wp2
            (try go_quiet (fail))
            (try go_wp2)
            all_goals (go_ret; exact ⟨rfl, (by repeat (first | exact Below.refl _ _ | apply pw_below_drewN | apply below_drew1 | apply below_alloc))⟩)
          · by_cases hn2 : a0.size = 2
            · have hs1 := HS1.out (by omega)
              by_cases ht1 : x1.toNat < 128
              · rw [decide_eq_true (by omega)] at hr
                subst hr
                have hb1 : (1 : Int) < (a0.size : Int) := by omega
                have hnz : (a0.size : Int) = 2 := by omega
                have hd1 : decide ((x1.toNat : Int) < 128) = true := decide_eq_true (by omega)
                go_enter Tryd.func48, Tryd.ntmps48
                go_wp2
                go_quiet (fail)
                go_wp2
                (try go_quiet (fail))
                (try go_wp2)
                all_goals (go_ret; exact ⟨rfl, (by repeat (first | exact Below.refl _ _ | apply pw_below_drewN | apply below_drew1 | apply below_alloc))⟩)
              · by_cases ht2 : 191 < x1.toNat
                · rw [decide_eq_true (by omega)] at hr
                  subst hr
                  have hb1 : (1 : Int) < (a0.size : Int) := by omega
                  have hnz : (a0.size : Int) = 2 := by omega
                  have hd1 : decide ((x1.toNat : Int) < 128) = false := decide_eq_false (by omega)
                  have hd2 : decide ((191 : Int) < (x1.toNat : Int)) = true := decide_eq_true (by omega)
                  go_enter Tryd.func48, Tryd.ntmps48
                  go_wp2
                  go_quiet (fail)
                  go_wp2
                  (try go_quiet (fail))
                  (try go_wp2)
                  all_goals (go_ret; exact ⟨rfl, (by repeat (first | exact Below.refl _ _ | apply pw_below_drewN | apply below_drew1 | apply below_alloc))⟩)
                · rw [decide_eq_false (by omega)] at hr
                  subst hr
                  have hb1 : (1 : Int) < (a0.size : Int) := by omega
                  have hnz : (a0.size : Int) = 2 := by omega
                  have hd1 : decide ((x1.toNat : Int) < 128) = false := decide_eq_false (by omega)
                  have hd2 : decide ((191 : Int) < (x1.toNat : Int)) = false := decide_eq_false (by omega)
                  go_enter Tryd.func48, Tryd.ntmps48
                  go_wp2
                  go_quiet (fail)
                  go_wp2
                  (try go_quiet (fail))
                  (try go_wp2)
                  all_goals (go_ret; exact ⟨rfl, (by repeat (first | exact Below.refl _ _ | apply pw_below_drewN | apply below_drew1 | apply below_alloc))⟩)
            · have hs1 := HS1.out (by omega)
              have hs2 := HS2.out (by omega)
              by_cases ht1 : x1.toNat < 128
              · rw [decide_eq_true (by omega)] at hr
                subst hr
                have hb1 : (1 : Int) < (a0.size : Int) := by omega
                have hb2 : (2 : Int) < (a0.size : Int) := by omega
                have hnz : (a0.size : Int) = 3 := by omega
                have hd1 : decide ((x1.toNat : Int) < 128) = true := decide_eq_true (by omega)
                go_enter Tryd.func48, Tryd.ntmps48
                go_wp2
                go_quiet (fail)
                go_wp2
                (try go_quiet (fail))
                (try go_wp2)
                all_goals (go_ret; exact ⟨rfl, (by repeat (first | exact Below.refl _ _ | apply pw_below_drewN | apply below_drew1 | apply below_alloc))⟩)
              · by_cases ht2 : 191 < x1.toNat
                · rw [decide_eq_true (by omega)] at hr
                  subst hr
                  have hb1 : (1 : Int) < (a0.size : Int) := by omega
                  have hb2 : (2 : Int) < (a0.size : Int) := by omega
                  have hnz : (a0.size : Int) = 3 := by omega
                  have hd1 : decide ((x1.toNat : Int) < 128) = false := decide_eq_false (by omega)
                  have hd2 : decide ((191 : Int) < (x1.toNat : Int)) = true := decide_eq_true (by omega)
                  go_enter Tryd.func48, Tryd.ntmps48
                  go_wp2
                  go_quiet (fail)
                  go_wp2
                  (try go_quiet (fail))
                  (try go_wp2)
                  all_goals (go_ret; exact ⟨rfl, (by repeat (first | exact Below.refl _ _ | apply pw_below_drewN | apply below_drew1 | apply below_alloc))⟩)
                · by_cases ht3 : x2.toNat < 128
                  · rw [decide_eq_true (by omega)] at hr
                    subst hr
                    have hb1 : (1 : Int) < (a0.size : Int) := by omega
                    have hb2 : (2 : Int) < (a0.size : Int) := by omega
                    have hnz : (a0.size : Int) = 3 := by omega
                    have hd1 : decide ((x1.toNat : Int) < 128) = false := decide_eq_false (by omega)
                    have hd2 : decide ((191 : Int) < (x1.toNat : Int)) = false := decide_eq_false (by omega)
                    have hd3 : decide ((x2.toNat : Int) < 128) = true := decide_eq_true (by omega)
                    go_enter Tryd.func48, Tryd.ntmps48
                    go_wp2
                    go_quiet (fail)
                    go_wp2
                    (try go_quiet (fail))
                    (try go_wp2)
                    all_goals (go_ret; exact ⟨rfl, (by repeat (first | exact Below.refl _ _ | apply pw_below_drewN | apply below_drew1 | apply below_alloc))⟩)
                  · by_cases ht4 : 191 < x2.toNat
                    · rw [decide_eq_true (by omega)] at hr
                      subst hr
                      have hb1 : (1 : Int) < (a0.size : Int) := by omega
                      have hb2 : (2 : Int) < (a0.size : Int) := by omega
                      have hnz : (a0.size : Int) = 3 := by omega
                      have hd1 : decide ((x1.toNat : Int) < 128) = false := decide_eq_false (by omega)
                      have hd2 : decide ((191 : Int) < (x1.toNat : Int)) = false := decide_eq_false (by omega)
                      have hd3 : decide ((x2.toNat : Int) < 128) = false := decide_eq_false (by omega)
                      have hd4 : decide ((191 : Int) < (x2.toNat : Int)) = true := decide_eq_true (by omega)
                      go_enter Tryd.func48, Tryd.ntmps48
                      go_wp2
                      go_quiet (fail)
                      go_wp2
                      (try go_quiet (fail))
                      (try go_wp2)
                      all_goals (go_ret; exact ⟨rfl, (by repeat (first | exact Below.refl _ _ | apply pw_below_drewN | apply below_drew1 | apply below_alloc))⟩)
                    · rw [decide_eq_false (by omega)] at hr
                      subst hr
                      have hb1 : (1 : Int) < (a0.size : Int) := by omega
                      have hb2 : (2 : Int) < (a0.size : Int) := by omega
                      have hnz : (a0.size : Int) = 3 := by omega
                      have hd1 : decide ((x1.toNat : Int) < 128) = false := decide_eq_false (by omega)
                      have hd2 : decide ((191 : Int) < (x1.toNat : Int)) = false := decide_eq_false (by omega)
                      have hd3 : decide ((x2.toNat : Int) < 128) = false := decide_eq_false (by omega)
                      have hd4 : decide ((191 : Int) < (x2.toNat : Int)) = false := decide_eq_false (by omega)
                      go_enter Tryd.func48, Tryd.ntmps48
                      go_wp2
                      go_quiet (fail)
                      go_wp2
                      (try go_quiet (fail))
                      (try go_wp2)
                      all_goals (go_ret; exact ⟨rfl, (by repeat (first | exact Below.refl _ _ | apply pw_below_drewN | apply below_drew1 | apply below_alloc))⟩)
      · rw [hX] at hc0
        have hr := hr.out
        rw [hX] at hr
        have ha0 := (hT.2 4 (by omega)).1
        have ha1 := (hT.2 4 (by omega)).2
        simp only [Lib.accLo, Lib.accHi, Nat.reduceMul, Nat.reduceAdd, Nat.reduceEqDiff, if_true, if_false, Nat.reduceMod, Nat.reduceDiv] at ha0 ha1 hr
        clear hT hX
        by_cases hge : 4 ≤ a0.size
        · rw [decide_eq_true (by omega)] at hr
          subst hr
          have hgz : (4 : Int) ≤ (a0.size : Int) := by omega
          go_enter Tryd.func48, Tryd.ntmps48
          go_wp2
          all_goals (go_ret; exact ⟨rfl, Below.refl _ _⟩)
        · by_cases hn1 : a0.size = 1
          · rw [decide_eq_false (by omega)] at hr
            subst hr
            have hnz : (a0.size : Int) = 1 := by omega
            go_enter Tryd.func48, Tryd.ntmps48
            go_wp2
            go_quiet (fail)
            go_wp2
            (try go_quiet (fail))
            (try go_wp2)
            all_goals (go_ret; exact ⟨rfl, (by repeat (first | exact Below.refl _ _ | apply pw_below_drewN | apply below_drew1 | apply below_alloc))⟩)
          · by_cases hn2 : a0.size = 2
            · have hs1 := HS1.out (by omega)
              by_cases ht1 : x1.toNat < 128
              · rw [decide_eq_true (by omega)] at hr
                subst hr
                have hb1 : (1 : Int) < (a0.size : Int) := by omega
                have hnz : (a0.size : Int) = 2 := by omega
                have hd1 : decide ((x1.toNat : Int) < 128) = true := decide_eq_true (by omega)
                go_enter Tryd.func48, Tryd.ntmps48
                go_wp2
                go_quiet (fail)
                go_wp2
                (try go_quiet (fail))
                (try go_wp2)
                all_goals (go_ret; exact ⟨rfl, (by repeat (first | exact Below.refl _ _ | apply pw_below_drewN | apply below_drew1 | apply below_alloc))⟩)
              · by_cases ht2 : 143 < x1.toNat
                · rw [decide_eq_true (by omega)] at hr
                  subst hr
                  have hb1 : (1 : Int) < (a0.size : Int) := by omega
                  have hnz : (a0.size : Int) = 2 := by omega
                  have hd1 : decide ((x1.toNat : Int) < 128) = false := decide_eq_false (by omega)
                  have hd2 : decide ((143 : Int) < (x1.toNat : Int)) = true := decide_eq_true (by omega)
                  go_enter Tryd.func48, Tryd.ntmps48
                  go_wp2
                  go_quiet (fail)
                  go_wp2
                  (try go_quiet (fail))
                  (try go_wp2)
                  all_goals (go_ret; exact ⟨rfl, (by repeat (first | exact Below.refl _ _ | apply pw_below_drewN | apply below_drew1 | apply below_alloc))⟩)
                · rw [decide_eq_false (by omega)] at hr
                  subst hr
                  have hb1 : (1 : Int) < (a0.size : Int) := by omega
                  have hnz : (a0.size : Int) = 2 := by omega
                  have hd1 : decide ((x1.toNat : Int) < 128) = false := decide_eq_false (by omega)
                  have hd2 : decide ((143 : Int) < (x1.toNat : Int)) = false := decide_eq_false (by omega)
                  go_enter Tryd.func48, Tryd.ntmps48
                  go_wp2
                  go_quiet (fail)
                  go_wp2
                  (try go_quiet (fail))
                  (try go_wp2)
                  all_goals (go_ret; exact ⟨rfl, (by repeat (first | exact Below.refl _ _ | apply pw_below_drewN | apply below_drew1 | apply below_alloc))⟩)
            · have hs1 := HS1.out (by omega)
              have hs2 := HS2.out (by omega)
              by_cases ht1 : x1.toNat < 128
              · rw [decide_eq_true (by omega)] at hr
                subst hr
                have hb1 : (1 : Int) < (a0.size : Int) := by omega
                have hb2 : (2 : Int) < (a0.size : Int) := by omega
                have hnz : (a0.size : Int) = 3 := by omega
                have hd1 : decide ((x1.toNat : Int) < 128) = true := decide_eq_true (by omega)
                go_enter Tryd.func48, Tryd.ntmps48
                go_wp2
                go_quiet (fail)
                go_wp2
                (try go_quiet (fail))
                (try go_wp2)
                all_goals (go_ret; exact ⟨rfl, (by repeat (first | exact Below.refl _ _ | apply pw_below_drewN | apply below_drew1 | apply below_alloc))⟩)
              · by_cases ht2 : 143 < x1.toNat
                · rw [decide_eq_true (by omega)] at hr
                  subst hr
                  have hb1 : (1 : Int) < (a0.size : Int) := by omega
                  have hb2 : (2 : Int) < (a0.size : Int) := by omega
                  have hnz : (a0.size : Int) = 3 := by omega
                  have hd1 : decide ((x1.toNat : Int) < 128) = false := decide_eq_false (by omega)
                  have hd2 : decide ((143 : Int) < (x1.toNat : Int)) = true := decide_eq_true (by omega)
                  go_enter Tryd.func48, Tryd.ntmps48
                  go_wp2
                  go_quiet (fail)
                  go_wp2
                  (try go_quiet (fail))
                  (try go_wp2)
                  all_goals (go_ret; exact ⟨rfl, (by repeat (first | exact Below.refl _ _ | apply pw_below_drewN | apply below_drew1 | apply below_alloc))⟩)
                · by_cases ht3 : x2.toNat < 128
                  · rw [decide_eq_true (by omega)] at hr
                    subst hr
                    have hb1 : (1 : Int) < (a0.size : Int) := by omega
                    have hb2 : (2 : Int) < (a0.size : Int) := by omega
                    have hnz : (a0.size : Int) = 3 := by omega
                    have hd1 : decide ((x1.toNat : Int) < 128) = false := decide_eq_false (by omega)
                    have hd2 : decide ((143 : Int) < (x1.toNat : Int)) = false := decide_eq_false (by omega)
                    have hd3 : decide ((x2.toNat : Int) < 128) = true := decide_eq_true (by omega)
                    go_enter Tryd.func48, Tryd.ntmps48
                    go_wp2
                    go_quiet (fail)
                    go_wp2
                    (try go_quiet (fail))
                    (try go_wp2)
                    all_goals (go_ret; exact ⟨rfl, (by repeat (first | exact Below.refl _ _ | apply pw_below_drewN | apply below_drew1 | apply below_alloc))⟩)
                  · by_cases ht4 : 191 < x2.toNat
                    · rw [decide_eq_true (by omega)] at hr
                      subst hr
                      have hb1 : (1 : Int) < (a0.size : Int) := by omega
                      have hb2 : (2 : Int) < (a0.size : Int) := by omega
                      have hnz : (a0.size : Int) = 3 := by omega
                      have hd1 : decide ((x1.toNat : Int) < 128) = false := decide_eq_false (by omega)
                      have hd2 : decide ((143 : Int) < (x1.toNat : Int)) = false := decide_eq_false (by omega)
                      have hd3 : decide ((x2.toNat : Int) < 128) = false := decide_eq_false (by omega)
                      have hd4 : decide ((191 : Int) < (x2.toNat : Int)) = true := decide_eq_true (by omega)
                      go_enter Tryd.func48, Tryd.ntmps48
                      go_wp2
                      go_quiet (fail)
                      go_wp2
                      (try go_quiet (fail))
                      (try go_wp2)
                      all_goals (go_ret; exact ⟨rfl, (by repeat (first | exact Below.refl _ _ | apply pw_below_drewN | apply below_drew1 | apply below_alloc))⟩)
                    · rw [decide_eq_false (by omega)] at hr
                      subst hr
                      have hb1 : (1 : Int) < (a0.size : Int) := by omega
                      have hb2 : (2 : Int) < (a0.size : Int) := by omega
                      have hnz : (a0.size : Int) = 3 := by omega
                      have hd1 : decide ((x1.toNat : Int) < 128) = false := decide_eq_false (by omega)
                      have hd2 : decide ((143 : Int) < (x1.toNat : Int)) = false := decide_eq_false (by omega)
                      have hd3 : decide ((x2.toNat : Int) < 128) = false := decide_eq_false (by omega)
                      have hd4 : decide ((191 : Int) < (x2.toNat : Int)) = false := decide_eq_false (by omega)
                      go_enter Tryd.func48, Tryd.ntmps48
                      go_wp2
                      go_quiet (fail)
                      go_wp2
                      (try go_quiet (fail))
                      (try go_wp2)
                      all_goals (go_ret; exact ⟨rfl, (by repeat (first | exact Below.refl _ _ | apply pw_below_drewN | apply below_drew1 | apply below_alloc))⟩)
  · rw [if_neg hs] at h
    cases h

end Go.Proofs.YtfcobfjjcocggaaDoor.V
