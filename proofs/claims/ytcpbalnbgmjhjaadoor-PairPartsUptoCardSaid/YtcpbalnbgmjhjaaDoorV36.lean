import Derived.Test.YtcpbalnbgmjhjaaDoorV33
import Derived.Test.YtcpbalnbgmjhjaaDoorV35
namespace Go.Proofs.YtcpbalnbgmjhjaaDoor.G
open Go.RowKit Go.Proofs.YtcpbalnbgmjhjaaDoor.Mi Go.Proofs.YtcpbalnbgmjhjaaDoorW.PrintWords Go.Proofs.YtcpbalnbgmjhjaaDoorW.PrintLast Go.Proofs.YtcpbalnbgmjhjaaDoorW.PrintMore
attribute [local go_sem] min2_int min_two min_three   -- for this text's walks alone
set_option linter.unusedVariables false
set_option linter.unusedSimpArgs false
/-! ### kind_Of: function 64 -/
mutual
def kind_Of.j0 : Nat → Int → Int → Bool → Option (Int)
 | 0, _, _, _ => none
 | k + 1, x0, x3, x4 => if x4 = true then (some 4) else (if x3 = 10 then (kind_Of.j1 k x0 x3 (x3 == 10)) else (if x3 = 13 then (kind_Of.j1 k x0 x3 (x3 == 13)) else (if x3 = 133 then (kind_Of.j1 k x0 x3 (x3 == 133)) else (if x3 = 8232 then (kind_Of.j1 k x0 x3 (x3 == 8232)) else (kind_Of.j1 k x0 x3 (x3 == 8233))))))
def kind_Of.j1 : Nat → Int → Int → Bool → Option (Int)
 | 0, _, _, _ => none
 | k + 1, x0, x3, x11 => if x11 = true then (some 6) else (if x3 = 9 then (kind_Of.j2 k x0 x3 (x3 == 9)) else (if x3 = 11 then (kind_Of.j2 k x0 x3 (x3 == 11)) else (if x3 = 12 then (kind_Of.j2 k x0 x3 (x3 == 12)) else (if x3 = 32 then (kind_Of.j2 k x0 x3 (x3 == 32)) else (if x3 = 160 then (kind_Of.j2 k x0 x3 (x3 == 160)) else (if x3 = 8239 then (kind_Of.j2 k x0 x3 (x3 == 8239)) else (kind_Of.j2 k x0 x3 (x3 == 12288))))))))
def kind_Of.j2 : Nat → Int → Int → Bool → Option (Int)
 | 0, _, _, _ => none
 | k + 1, x0, x3, x17 => if x17 = true then (some 5) else (if x3 = 170 then (kind_Of.j3 k x0 x3 (x3 == 170)) else (if x3 = 181 then (kind_Of.j3 k x0 x3 (x3 == 181)) else (if x3 = 186 then (kind_Of.j3 k x0 x3 (x3 == 186)) else (kind_Of.j3 k x0 x3 (x3 == 9676)))))
def kind_Of.j3 : Nat → Int → Int → Bool → Option (Int)
 | 0, _, _, _ => none
 | k + 1, x0, x3, x25 => if x25 = true then (some 1) else (if x3 = 215 then (kind_Of.j4 k x0 x3 (x3 == 215)) else (kind_Of.j4 k x0 x3 (x3 == 247)))
def kind_Of.j4 : Nat → Int → Int → Bool → Option (Int)
 | 0, _, _, _ => none
 | k + 1, x0, x3, x30 => if x30 = true then (some 0) else (if x3 = 894 then (some 0) else (if x3 = 903 then (some 7) else ((kind_in.f x0 48 57).bind fun t64101 => (if t64101 = true then (kind_Of.j5 k x0 t64101) else ((kind_in.f x0 1632 1641).bind fun t64102 => (kind_Of.j5 k x0 t64102))))))
def kind_Of.j5 : Nat → Int → Bool → Option (Int)
 | 0, _, _ => none
 | k + 1, x0, x37 => if x37 = true then (some 3) else ((kind_in.f x0 65 90).bind fun t64103 => (if t64103 = true then (kind_Of.j6 k x0 t64103) else ((kind_in.f x0 97 122).bind fun t64104 => (if t64104 = true then (kind_Of.j6 k x0 t64104) else ((kind_in.f x0 192 687).bind fun t64105 => (if t64105 = true then (kind_Of.j6 k x0 t64105) else ((kind_in.f x0 880 1153).bind fun t64106 => (if t64106 = true then (kind_Of.j6 k x0 t64106) else ((kind_in.f x0 1162 1327).bind fun t64107 => (if t64107 = true then (kind_Of.j6 k x0 t64107) else ((kind_in.f x0 7680 8191).bind fun t64108 => (if t64108 = true then (kind_Of.j6 k x0 t64108) else ((kind_in.f x0 64256 64262).bind fun t64109 => (kind_Of.j6 k x0 t64109))))))))))))))
def kind_Of.j6 : Nat → Int → Bool → Option (Int)
 | 0, _, _ => none
 | k + 1, x0, x42 => if x42 = true then (some 1) else ((kind_in.f x0 768 879).bind fun t64110 => (if t64110 = true then (kind_Of.j7 k x0 t64110) else ((kind_in.f x0 1155 1161).bind fun t64111 => (if t64111 = true then (kind_Of.j7 k x0 t64111) else ((kind_in.f x0 7616 7679).bind fun t64112 => (if t64112 = true then (kind_Of.j7 k x0 t64112) else ((kind_in.f x0 8400 8447).bind fun t64113 => (kind_Of.j7 k x0 t64113))))))))
def kind_Of.j7 : Nat → Int → Bool → Option (Int)
 | 0, _, _ => none
 | k + 1, x0, x57 => if x57 = true then (some 2) else ((kind_in.f x0 8194 8202).bind fun t64114 => (if t64114 = true then (some 5) else ((kind_in.f x0 33 126).bind fun t64115 => (if t64115 = true then (some 7) else ((kind_in.f x0 161 191).bind fun t64116 => (if t64116 = true then (some 7) else ((kind_in.f x0 8208 8231).bind fun t64117 => (if t64117 = true then (some 7) else ((kind_in.f x0 8240 8286).bind fun t64118 => (if t64118 = true then (some 7) else (some 0)))))))))))
end
def kind_Of.f (k : Nat) (a0 : Int) : Option (Int) := if a0 = 39 then (kind_Of.j0 k a0 a0 (a0 == 39)) else (if a0 = 45 then (kind_Of.j0 k a0 a0 (a0 == 45)) else (if a0 = 173 then (kind_Of.j0 k a0 a0 (a0 == 173)) else (if a0 = 8204 then (kind_Of.j0 k a0 a0 (a0 == 8204)) else (if a0 = 8205 then (kind_Of.j0 k a0 a0 (a0 == 8205)) else (kind_Of.j0 k a0 a0 (a0 == 8217))))))
set_option maxHeartbeats 8000000 in
set_option maxRecDepth 100000 in
theorem kind_Of.calls (k : Nat) (a0 : Int) (r : Int) (w : World) (h : kind_Of.f k a0 = some r) :
 Calls Tryd.prog 64 #[.int .i32 a0] w fun e w' => e = .returned (.int .i64 r) ∧ Drawn0 w w' := by
 have H : (if a0 = 39 then (kind_Of.j0 k a0 a0 (a0 == 39)) else (if a0 = 45 then (kind_Of.j0 k a0 a0 (a0 == 45)) else (if a0 = 173 then (kind_Of.j0 k a0 a0 (a0 == 173)) else (if a0 = 8204 then (kind_Of.j0 k a0 a0 (a0 == 8204)) else (if a0 = 8205 then (kind_Of.j0 k a0 a0 (a0 == 8205)) else (kind_Of.j0 k a0 a0 (a0 == 8217))))))) = some r := h; clear h; have HC2 := Aside0.mk H; clear H
 go_enter Tryd.func64, Tryd.ntmps64
 go_upto_if 4 with (fail)
 go_cut [4] (fun v4 wc => ∃ (kq : Nat) (x4_1 : Bool), v4 = .bool x4_1 ∧ Aside0 (kind_Of.j0 kq a0 a0 x4_1 = some r) ∧ Aside0 (kq ≤ k) ∧ Drawn0 w wc)
 case first =>
  have H := HC2.out; clear HC2
  by_cases c3 : a0 = 39
  ·
   rw [if_pos c3] at H; have c3b0 : (a0 == 39) = true := beq_iff_eq.mpr c3; have c3b1 : (a0 != 39) = false := bne_eq_false_iff_eq.mpr c3; clear c3; (first | rw [c3b0] | (simp only [i64_w, i32_w]; rw [c3b0]) | (have ce_ := c3b0; rw [List.beq_nil_eq] at ce_; rw [ce_]) | skip); have H' := Aside0.mk H; clear H; go_wp2
   go_meet
   case rel => exact ⟨_, ((a0 == 39)), (by first | rfl | (simp; done) | (simp [*]; done)), H', ⟨by first | omega | exact Nat.le_refl _⟩, by repeat (first | exact Drawn0.refl _ | apply Drawn0.step)⟩
  ·
   rw [if_neg c3] at H; have c3b0 : (a0 == 39) = false := beq_eq_false_iff_ne.mpr c3; have c3b1 : (a0 != 39) = true := bne_iff_ne.mpr c3; (first | rw [c3b0] | (simp only [i64_w, i32_w]; rw [c3b0]) | (have ce_ := c3b0; rw [List.beq_nil_eq] at ce_; rw [ce_]) | skip)
   by_cases c4 : a0 = 45
   ·
    rw [if_pos c4] at H; have c4b0 : (a0 == 45) = true := beq_iff_eq.mpr c4; have c4b1 : (a0 != 45) = false := bne_eq_false_iff_eq.mpr c4; clear c4; have H' := Aside0.mk H; clear H; go_wp2
    go_meet
    case rel => exact ⟨_, ((a0 == 45)), (by first | rfl | (simp; done) | (simp [*]; done)), H', ⟨by first | omega | exact Nat.le_refl _⟩, by repeat (first | exact Drawn0.refl _ | apply Drawn0.step)⟩
   ·
    rw [if_neg c4] at H; have c4b0 : (a0 == 45) = false := beq_eq_false_iff_ne.mpr c4; have c4b1 : (a0 != 45) = true := bne_iff_ne.mpr c4
    by_cases c5 : a0 = 173
    ·
     rw [if_pos c5] at H; have c5b0 : (a0 == 173) = true := beq_iff_eq.mpr c5; have c5b1 : (a0 != 173) = false := bne_eq_false_iff_eq.mpr c5; clear c5; have H' := Aside0.mk H; clear H; go_wp2
     go_meet
     case rel => exact ⟨_, ((a0 == 173)), (by first | rfl | (simp; done) | (simp [*]; done)), H', ⟨by first | omega | exact Nat.le_refl _⟩, by repeat (first | exact Drawn0.refl _ | apply Drawn0.step)⟩
    ·
     rw [if_neg c5] at H; have c5b0 : (a0 == 173) = false := beq_eq_false_iff_ne.mpr c5; have c5b1 : (a0 != 173) = true := bne_iff_ne.mpr c5
     by_cases c6 : a0 = 8204
     ·
      rw [if_pos c6] at H; have c6b0 : (a0 == 8204) = true := beq_iff_eq.mpr c6; have c6b1 : (a0 != 8204) = false := bne_eq_false_iff_eq.mpr c6; clear c6; have H' := Aside0.mk H; clear H; go_wp2
      go_meet
      case rel => exact ⟨_, ((a0 == 8204)), (by first | rfl | (simp; done) | (simp [*]; done)), H', ⟨by first | omega | exact Nat.le_refl _⟩, by repeat (first | exact Drawn0.refl _ | apply Drawn0.step)⟩
     ·
      rw [if_neg c6] at H; have c6b0 : (a0 == 8204) = false := beq_eq_false_iff_ne.mpr c6; have c6b1 : (a0 != 8204) = true := bne_iff_ne.mpr c6
      by_cases c7 : a0 = 8205
      ·
       rw [if_pos c7] at H; have c7b0 : (a0 == 8205) = true := beq_iff_eq.mpr c7; have c7b1 : (a0 != 8205) = false := bne_eq_false_iff_eq.mpr c7; clear c7; have H' := Aside0.mk H; clear H; go_wp2
       go_meet
       case rel => exact ⟨_, ((a0 == 8205)), (by first | rfl | (simp; done) | (simp [*]; done)), H', ⟨by first | omega | exact Nat.le_refl _⟩, by repeat (first | exact Drawn0.refl _ | apply Drawn0.step)⟩
      ·
       rw [if_neg c7] at H; have c7b0 : (a0 == 8205) = false := beq_eq_false_iff_ne.mpr c7; have c7b1 : (a0 != 8205) = true := bne_iff_ne.mpr c7; have H' := Aside0.mk H; clear H; go_wp2
       go_meet
       case rel => exact ⟨_, ((a0 == 8217)), (by first | rfl | (simp; done) | (simp [*]; done)), H', ⟨by first | omega | exact Nat.le_refl _⟩, by repeat (first | exact Drawn0.refl _ | apply Drawn0.step)⟩
 case rest =>
  clear HC2; (try clear p2); (try clear c3); (try clear c3b0); (try clear c3b1); (try clear c4); (try clear c4b0); (try clear c4b1); (try clear c5); (try clear c5b0); (try clear c5b1); (try clear c6); (try clear c6b0); (try clear c6b1); (try clear c7); (try clear c7b0); (try clear c7b1); obtain ⟨kq, x4_1, rfl, HA, HJ1, ⟨mc1, rfl⟩⟩ := hcut
  cases kq with
  | zero => exact absurd HA.out (by simp [kind_Of.j0])
  | succ kj1 =>
   have H := HA.out; clear HA; simp only [kind_Of.j0] at H
   by_cases c8 : x4_1 = true
   ·
    subst c8; have H1 := H; rw [if_pos rfl] at H1; clear H; have H := H1; clear H1; obtain rfl := Option.some.inj H; go_wp2; go_ret; exact ⟨by first | rfl | (simp; done) | (simp [*]; done), by repeat (first | exact Drawn0.refl _ | apply Drawn0.step)⟩
   ·
    replace c8 := Bool.eq_false_iff.mpr c8; subst c8; have H1 := H; rw [if_neg (show ¬ (false = true) by decide)] at H1; clear H; have H := H1; clear H1; have HC9 := Aside0.mk H; clear H
    go_upto_if 11 with (fail)
    go_cut [11] (fun v11 wc => ∃ (kq : Nat) (x11_8 : Bool), v11 = .bool x11_8 ∧ Aside0 (kind_Of.j1 kq a0 a0 x11_8 = some r) ∧ Aside0 (kq ≤ kj1) ∧ Drawn0 w wc)
    case first =>
     have H := HC9.out; clear HC9
     by_cases c10 : a0 = 10
     ·
      rw [if_pos c10] at H; have c10b0 : (a0 == 10) = true := beq_iff_eq.mpr c10; have c10b1 : (a0 != 10) = false := bne_eq_false_iff_eq.mpr c10; clear c10; (first | rw [c10b0] | (simp only [i64_w, i32_w]; rw [c10b0]) | (have ce_ := c10b0; rw [List.beq_nil_eq] at ce_; rw [ce_]) | skip); have H' := Aside0.mk H; clear H; go_wp2
      go_meet
      case rel => exact ⟨_, ((a0 == 10)), (by first | rfl | (simp; done) | (simp [*]; done)), H', ⟨by have := HJ1.out; first | omega | exact Nat.le_refl _⟩, by repeat (first | exact Drawn0.refl _ | apply Drawn0.step)⟩
     ·
      rw [if_neg c10] at H; have c10b0 : (a0 == 10) = false := beq_eq_false_iff_ne.mpr c10; have c10b1 : (a0 != 10) = true := bne_iff_ne.mpr c10; (first | rw [c10b0] | (simp only [i64_w, i32_w]; rw [c10b0]) | (have ce_ := c10b0; rw [List.beq_nil_eq] at ce_; rw [ce_]) | skip)
      by_cases c11 : a0 = 13
      ·
       rw [if_pos c11] at H; have c11b0 : (a0 == 13) = true := beq_iff_eq.mpr c11; have c11b1 : (a0 != 13) = false := bne_eq_false_iff_eq.mpr c11; clear c11; have H' := Aside0.mk H; clear H; go_wp2
       go_meet
       case rel => exact ⟨_, ((a0 == 13)), (by first | rfl | (simp; done) | (simp [*]; done)), H', ⟨by have := HJ1.out; first | omega | exact Nat.le_refl _⟩, by repeat (first | exact Drawn0.refl _ | apply Drawn0.step)⟩
      ·
       rw [if_neg c11] at H; have c11b0 : (a0 == 13) = false := beq_eq_false_iff_ne.mpr c11; have c11b1 : (a0 != 13) = true := bne_iff_ne.mpr c11
       by_cases c12 : a0 = 133
       ·
        rw [if_pos c12] at H; have c12b0 : (a0 == 133) = true := beq_iff_eq.mpr c12; have c12b1 : (a0 != 133) = false := bne_eq_false_iff_eq.mpr c12; clear c12; have H' := Aside0.mk H; clear H; go_wp2
        go_meet
        case rel => exact ⟨_, ((a0 == 133)), (by first | rfl | (simp; done) | (simp [*]; done)), H', ⟨by have := HJ1.out; first | omega | exact Nat.le_refl _⟩, by repeat (first | exact Drawn0.refl _ | apply Drawn0.step)⟩
       ·
        rw [if_neg c12] at H; have c12b0 : (a0 == 133) = false := beq_eq_false_iff_ne.mpr c12; have c12b1 : (a0 != 133) = true := bne_iff_ne.mpr c12
        by_cases c13 : a0 = 8232
        ·
         rw [if_pos c13] at H; have c13b0 : (a0 == 8232) = true := beq_iff_eq.mpr c13; have c13b1 : (a0 != 8232) = false := bne_eq_false_iff_eq.mpr c13; clear c13; have H' := Aside0.mk H; clear H; go_wp2
         go_meet
         case rel => exact ⟨_, ((a0 == 8232)), (by first | rfl | (simp; done) | (simp [*]; done)), H', ⟨by have := HJ1.out; first | omega | exact Nat.le_refl _⟩, by repeat (first | exact Drawn0.refl _ | apply Drawn0.step)⟩
        ·
         rw [if_neg c13] at H; have c13b0 : (a0 == 8232) = false := beq_eq_false_iff_ne.mpr c13; have c13b1 : (a0 != 8232) = true := bne_iff_ne.mpr c13; have H' := Aside0.mk H; clear H; go_wp2
         go_meet
         case rel => exact ⟨_, ((a0 == 8233)), (by first | rfl | (simp; done) | (simp [*]; done)), H', ⟨by have := HJ1.out; first | omega | exact Nat.le_refl _⟩, by repeat (first | exact Drawn0.refl _ | apply Drawn0.step)⟩
    case rest =>
     clear HC9; (try clear c1); (try clear p2); (try clear c3); (try clear c3b0); (try clear c3b1); (try clear c4); (try clear c4b0); (try clear c4b1); (try clear c5); (try clear c5b0); (try clear c5b1); (try clear c6); (try clear c6b0); (try clear c6b1); (try clear c7); (try clear c7b0); (try clear c7b1); (try clear c8); (try clear c10); (try clear c10b0); (try clear c10b1); (try clear c11); (try clear c11b0); (try clear c11b1); (try clear c12); (try clear c12b0); (try clear c12b1); (try clear c13); (try clear c13b0); (try clear c13b1); obtain ⟨kq, x11_8, rfl, HA, HJ8, ⟨mc8, rfl⟩⟩ := hcut
     cases kq with
     | zero => exact absurd HA.out (by simp [kind_Of.j1])
     | succ kj8 =>
      have H := HA.out; clear HA; simp only [kind_Of.j1] at H
      by_cases c14 : x11_8 = true
      ·
       subst c14; have H1 := H; rw [if_pos rfl] at H1; clear H; have H := H1; clear H1; obtain rfl := Option.some.inj H; go_wp2; go_ret; exact ⟨by first | rfl | (simp; done) | (simp [*]; done), by repeat (first | exact Drawn0.refl _ | apply Drawn0.step)⟩
      ·
       replace c14 := Bool.eq_false_iff.mpr c14; subst c14; have H1 := H; rw [if_neg (show ¬ (false = true) by decide)] at H1; clear H; have H := H1; clear H1; have HC15 := Aside0.mk H; clear H
       go_upto_if 17 with (fail)
       go_cut [17] (fun v17 wc => ∃ (kq : Nat) (x17_14 : Bool), v17 = .bool x17_14 ∧ Aside0 (kind_Of.j2 kq a0 a0 x17_14 = some r) ∧ Aside0 (kq ≤ kj8) ∧ Drawn0 w wc)
       case first =>
        have H := HC15.out; clear HC15
        by_cases c16 : a0 = 9
        ·
         rw [if_pos c16] at H; have c16b0 : (a0 == 9) = true := beq_iff_eq.mpr c16; have c16b1 : (a0 != 9) = false := bne_eq_false_iff_eq.mpr c16; clear c16; (first | rw [c16b0] | (simp only [i64_w, i32_w]; rw [c16b0]) | (have ce_ := c16b0; rw [List.beq_nil_eq] at ce_; rw [ce_]) | skip); have H' := Aside0.mk H; clear H; go_wp2
         go_meet
         case rel => exact ⟨_, ((a0 == 9)), (by first | rfl | (simp; done) | (simp [*]; done)), H', ⟨by have := HJ1.out; have := HJ8.out; first | omega | exact Nat.le_refl _⟩, by repeat (first | exact Drawn0.refl _ | apply Drawn0.step)⟩
        ·
         rw [if_neg c16] at H; have c16b0 : (a0 == 9) = false := beq_eq_false_iff_ne.mpr c16; have c16b1 : (a0 != 9) = true := bne_iff_ne.mpr c16; (first | rw [c16b0] | (simp only [i64_w, i32_w]; rw [c16b0]) | (have ce_ := c16b0; rw [List.beq_nil_eq] at ce_; rw [ce_]) | skip)
         by_cases c17 : a0 = 11
         ·
          rw [if_pos c17] at H; have c17b0 : (a0 == 11) = true := beq_iff_eq.mpr c17; have c17b1 : (a0 != 11) = false := bne_eq_false_iff_eq.mpr c17; clear c17; have H' := Aside0.mk H; clear H; go_wp2
          go_meet
          case rel => exact ⟨_, ((a0 == 11)), (by first | rfl | (simp; done) | (simp [*]; done)), H', ⟨by have := HJ1.out; have := HJ8.out; first | omega | exact Nat.le_refl _⟩, by repeat (first | exact Drawn0.refl _ | apply Drawn0.step)⟩
         ·
          rw [if_neg c17] at H; have c17b0 : (a0 == 11) = false := beq_eq_false_iff_ne.mpr c17; have c17b1 : (a0 != 11) = true := bne_iff_ne.mpr c17
          by_cases c18 : a0 = 12
          ·
           rw [if_pos c18] at H; have c18b0 : (a0 == 12) = true := beq_iff_eq.mpr c18; have c18b1 : (a0 != 12) = false := bne_eq_false_iff_eq.mpr c18; clear c18; have H' := Aside0.mk H; clear H; go_wp2
           go_meet
           case rel => exact ⟨_, ((a0 == 12)), (by first | rfl | (simp; done) | (simp [*]; done)), H', ⟨by have := HJ1.out; have := HJ8.out; first | omega | exact Nat.le_refl _⟩, by repeat (first | exact Drawn0.refl _ | apply Drawn0.step)⟩
          ·
           rw [if_neg c18] at H; have c18b0 : (a0 == 12) = false := beq_eq_false_iff_ne.mpr c18; have c18b1 : (a0 != 12) = true := bne_iff_ne.mpr c18
           by_cases c19 : a0 = 32
           ·
            rw [if_pos c19] at H; have c19b0 : (a0 == 32) = true := beq_iff_eq.mpr c19; have c19b1 : (a0 != 32) = false := bne_eq_false_iff_eq.mpr c19; clear c19; have H' := Aside0.mk H; clear H; go_wp2
            go_meet
            case rel => exact ⟨_, ((a0 == 32)), (by first | rfl | (simp; done) | (simp [*]; done)), H', ⟨by have := HJ1.out; have := HJ8.out; first | omega | exact Nat.le_refl _⟩, by repeat (first | exact Drawn0.refl _ | apply Drawn0.step)⟩
           ·
            rw [if_neg c19] at H; have c19b0 : (a0 == 32) = false := beq_eq_false_iff_ne.mpr c19; have c19b1 : (a0 != 32) = true := bne_iff_ne.mpr c19
            by_cases c20 : a0 = 160
            ·
             rw [if_pos c20] at H; have c20b0 : (a0 == 160) = true := beq_iff_eq.mpr c20; have c20b1 : (a0 != 160) = false := bne_eq_false_iff_eq.mpr c20; clear c20; have H' := Aside0.mk H; clear H; go_wp2
             go_meet
             case rel => exact ⟨_, ((a0 == 160)), (by first | rfl | (simp; done) | (simp [*]; done)), H', ⟨by have := HJ1.out; have := HJ8.out; first | omega | exact Nat.le_refl _⟩, by repeat (first | exact Drawn0.refl _ | apply Drawn0.step)⟩
            ·
             rw [if_neg c20] at H; have c20b0 : (a0 == 160) = false := beq_eq_false_iff_ne.mpr c20; have c20b1 : (a0 != 160) = true := bne_iff_ne.mpr c20
             by_cases c21 : a0 = 8239
             ·
              rw [if_pos c21] at H; have c21b0 : (a0 == 8239) = true := beq_iff_eq.mpr c21; have c21b1 : (a0 != 8239) = false := bne_eq_false_iff_eq.mpr c21; clear c21; have H' := Aside0.mk H; clear H; go_wp2
              go_meet
              case rel => exact ⟨_, ((a0 == 8239)), (by first | rfl | (simp; done) | (simp [*]; done)), H', ⟨by have := HJ1.out; have := HJ8.out; first | omega | exact Nat.le_refl _⟩, by repeat (first | exact Drawn0.refl _ | apply Drawn0.step)⟩
             ·
              rw [if_neg c21] at H; have c21b0 : (a0 == 8239) = false := beq_eq_false_iff_ne.mpr c21; have c21b1 : (a0 != 8239) = true := bne_iff_ne.mpr c21; have H' := Aside0.mk H; clear H; go_wp2
              go_meet
              case rel => exact ⟨_, ((a0 == 12288)), (by first | rfl | (simp; done) | (simp [*]; done)), H', ⟨by have := HJ1.out; have := HJ8.out; first | omega | exact Nat.le_refl _⟩, by repeat (first | exact Drawn0.refl _ | apply Drawn0.step)⟩
       case rest =>
        clear HC15; (try clear c1); (try clear c2); (try clear p2); (try clear c3); (try clear c3b0); (try clear c3b1); (try clear c4); (try clear c4b0); (try clear c4b1); (try clear c5); (try clear c5b0); (try clear c5b1); (try clear c6); (try clear c6b0); (try clear c6b1); (try clear c7); (try clear c7b0); (try clear c7b1); (try clear c8); (try clear c10); (try clear c10b0); (try clear c10b1); (try clear c11); (try clear c11b0); (try clear c11b1); (try clear c12); (try clear c12b0); (try clear c12b1); (try clear c13); (try clear c13b0); (try clear c13b1); (try clear c14); (try clear c16); (try clear c16b0); (try clear c16b1); (try clear c17); (try clear c17b0); (try clear c17b1); (try clear c18); (try clear c18b0); (try clear c18b1); (try clear c19); (try clear c19b0); (try clear c19b1); (try clear c20); (try clear c20b0); (try clear c20b1); (try clear c21); (try clear c21b0); (try clear c21b1); obtain ⟨kq, x17_14, rfl, HA, HJ14, ⟨mc14, rfl⟩⟩ := hcut
        cases kq with
        | zero => exact absurd HA.out (by simp [kind_Of.j2])
        | succ kj14 =>
         have H := HA.out; clear HA; simp only [kind_Of.j2] at H
         by_cases c22 : x17_14 = true
         ·
          subst c22; have H1 := H; rw [if_pos rfl] at H1; clear H; have H := H1; clear H1; obtain rfl := Option.some.inj H; go_wp2; go_ret; exact ⟨by first | rfl | (simp; done) | (simp [*]; done), by repeat (first | exact Drawn0.refl _ | apply Drawn0.step)⟩
         ·
          replace c22 := Bool.eq_false_iff.mpr c22; subst c22; have H1 := H; rw [if_neg (show ¬ (false = true) by decide)] at H1; clear H; have H := H1; clear H1; have HC23 := Aside0.mk H; clear H
          go_upto_if 25 with (fail)
          go_cut [25] (fun v25 wc => ∃ (kq : Nat) (x25_22 : Bool), v25 = .bool x25_22 ∧ Aside0 (kind_Of.j3 kq a0 a0 x25_22 = some r) ∧ Aside0 (kq ≤ kj14) ∧ Drawn0 w wc)
          case first =>
           have H := HC23.out; clear HC23
           by_cases c24 : a0 = 170
           ·
            rw [if_pos c24] at H; have c24b0 : (a0 == 170) = true := beq_iff_eq.mpr c24; have c24b1 : (a0 != 170) = false := bne_eq_false_iff_eq.mpr c24; clear c24; (first | rw [c24b0] | (simp only [i64_w, i32_w]; rw [c24b0]) | (have ce_ := c24b0; rw [List.beq_nil_eq] at ce_; rw [ce_]) | skip); have H' := Aside0.mk H; clear H; go_wp2
            go_meet
            case rel => exact ⟨_, ((a0 == 170)), (by first | rfl | (simp; done) | (simp [*]; done)), H', ⟨by have := HJ1.out; have := HJ8.out; have := HJ14.out; first | omega | exact Nat.le_refl _⟩, by repeat (first | exact Drawn0.refl _ | apply Drawn0.step)⟩
           ·
            rw [if_neg c24] at H; have c24b0 : (a0 == 170) = false := beq_eq_false_iff_ne.mpr c24; have c24b1 : (a0 != 170) = true := bne_iff_ne.mpr c24; (first | rw [c24b0] | (simp only [i64_w, i32_w]; rw [c24b0]) | (have ce_ := c24b0; rw [List.beq_nil_eq] at ce_; rw [ce_]) | skip)
            by_cases c25 : a0 = 181
            ·
             rw [if_pos c25] at H; have c25b0 : (a0 == 181) = true := beq_iff_eq.mpr c25; have c25b1 : (a0 != 181) = false := bne_eq_false_iff_eq.mpr c25; clear c25; have H' := Aside0.mk H; clear H; go_wp2
             go_meet
             case rel => exact ⟨_, ((a0 == 181)), (by first | rfl | (simp; done) | (simp [*]; done)), H', ⟨by have := HJ1.out; have := HJ8.out; have := HJ14.out; first | omega | exact Nat.le_refl _⟩, by repeat (first | exact Drawn0.refl _ | apply Drawn0.step)⟩
            ·
             rw [if_neg c25] at H; have c25b0 : (a0 == 181) = false := beq_eq_false_iff_ne.mpr c25; have c25b1 : (a0 != 181) = true := bne_iff_ne.mpr c25
             by_cases c26 : a0 = 186
             ·
              rw [if_pos c26] at H; have c26b0 : (a0 == 186) = true := beq_iff_eq.mpr c26; have c26b1 : (a0 != 186) = false := bne_eq_false_iff_eq.mpr c26; clear c26; have H' := Aside0.mk H; clear H; go_wp2
              go_meet
              case rel => exact ⟨_, ((a0 == 186)), (by first | rfl | (simp; done) | (simp [*]; done)), H', ⟨by have := HJ1.out; have := HJ8.out; have := HJ14.out; first | omega | exact Nat.le_refl _⟩, by repeat (first | exact Drawn0.refl _ | apply Drawn0.step)⟩
             ·
              rw [if_neg c26] at H; have c26b0 : (a0 == 186) = false := beq_eq_false_iff_ne.mpr c26; have c26b1 : (a0 != 186) = true := bne_iff_ne.mpr c26; have H' := Aside0.mk H; clear H; go_wp2
              go_meet
              case rel => exact ⟨_, ((a0 == 9676)), (by first | rfl | (simp; done) | (simp [*]; done)), H', ⟨by have := HJ1.out; have := HJ8.out; have := HJ14.out; first | omega | exact Nat.le_refl _⟩, by repeat (first | exact Drawn0.refl _ | apply Drawn0.step)⟩
          case rest =>
           clear HC23; (try clear c1); (try clear c2); (try clear p2); (try clear c3); (try clear c3b0); (try clear c3b1); (try clear c4); (try clear c4b0); (try clear c4b1); (try clear c5); (try clear c5b0); (try clear c5b1); (try clear c6); (try clear c6b0); (try clear c6b1); (try clear c7); (try clear c7b0); (try clear c7b1); (try clear c8); (try clear c10); (try clear c10b0); (try clear c10b1); (try clear c11); (try clear c11b0); (try clear c11b1); (try clear c12); (try clear c12b0); (try clear c12b1); (try clear c13); (try clear c13b0); (try clear c13b1); (try clear c14); (try clear c16); (try clear c16b0); (try clear c16b1); (try clear c17); (try clear c17b0); (try clear c17b1); (try clear c18); (try clear c18b0); (try clear c18b1); (try clear c19); (try clear c19b0); (try clear c19b1); (try clear c20); (try clear c20b0); (try clear c20b1); (try clear c21); (try clear c21b0); (try clear c21b1); (try clear c22); (try clear c24); (try clear c24b0); (try clear c24b1); (try clear c25); (try clear c25b0); (try clear c25b1); (try clear c26); (try clear c26b0); (try clear c26b1); obtain ⟨kq, x25_22, rfl, HA, HJ22, ⟨mc22, rfl⟩⟩ := hcut
           cases kq with
           | zero => exact absurd HA.out (by simp [kind_Of.j3])
           | succ kj22 =>
            have H := HA.out; clear HA; simp only [kind_Of.j3] at H
            by_cases c27 : x25_22 = true
            ·
             subst c27; have H1 := H; rw [if_pos rfl] at H1; clear H; have H := H1; clear H1; obtain rfl := Option.some.inj H; go_wp2; go_ret; exact ⟨by first | rfl | (simp; done) | (simp [*]; done), by repeat (first | exact Drawn0.refl _ | apply Drawn0.step)⟩
            ·
             replace c27 := Bool.eq_false_iff.mpr c27; subst c27; have H1 := H; rw [if_neg (show ¬ (false = true) by decide)] at H1; clear H; have H := H1; clear H1; have HC28 := Aside0.mk H; clear H
             go_upto_if 30 with (fail)
             go_cut [30] (fun v30 wc => ∃ (kq : Nat) (x30_27 : Bool), v30 = .bool x30_27 ∧ Aside0 (kind_Of.j4 kq a0 a0 x30_27 = some r) ∧ Aside0 (kq ≤ kj22) ∧ Drawn0 w wc)
             case first =>
              have H := HC28.out; clear HC28
              by_cases c29 : a0 = 215
              ·
               rw [if_pos c29] at H; have c29b0 : (a0 == 215) = true := beq_iff_eq.mpr c29; have c29b1 : (a0 != 215) = false := bne_eq_false_iff_eq.mpr c29; clear c29; (first | rw [c29b0] | (simp only [i64_w, i32_w]; rw [c29b0]) | (have ce_ := c29b0; rw [List.beq_nil_eq] at ce_; rw [ce_]) | skip); have H' := Aside0.mk H; clear H; go_wp2
               go_meet
               case rel => exact ⟨_, ((a0 == 215)), (by first | rfl | (simp; done) | (simp [*]; done)), H', ⟨by have := HJ1.out; have := HJ8.out; have := HJ14.out; have := HJ22.out; first | omega | exact Nat.le_refl _⟩, by repeat (first | exact Drawn0.refl _ | apply Drawn0.step)⟩
              ·
               rw [if_neg c29] at H; have c29b0 : (a0 == 215) = false := beq_eq_false_iff_ne.mpr c29; have c29b1 : (a0 != 215) = true := bne_iff_ne.mpr c29; (first | rw [c29b0] | (simp only [i64_w, i32_w]; rw [c29b0]) | (have ce_ := c29b0; rw [List.beq_nil_eq] at ce_; rw [ce_]) | skip); have H' := Aside0.mk H; clear H; go_wp2
               go_meet
               case rel => exact ⟨_, ((a0 == 247)), (by first | rfl | (simp; done) | (simp [*]; done)), H', ⟨by have := HJ1.out; have := HJ8.out; have := HJ14.out; have := HJ22.out; first | omega | exact Nat.le_refl _⟩, by repeat (first | exact Drawn0.refl _ | apply Drawn0.step)⟩
             case rest =>
              clear HC28; (try clear c1); (try clear c2); (try clear p2); (try clear c3); (try clear c3b0); (try clear c3b1); (try clear c4); (try clear c4b0); (try clear c4b1); (try clear c5); (try clear c5b0); (try clear c5b1); (try clear c6); (try clear c6b0); (try clear c6b1); (try clear c7); (try clear c7b0); (try clear c7b1); (try clear c8); (try clear c10); (try clear c10b0); (try clear c10b1); (try clear c11); (try clear c11b0); (try clear c11b1); (try clear c12); (try clear c12b0); (try clear c12b1); (try clear c13); (try clear c13b0); (try clear c13b1); (try clear c14); (try clear c16); (try clear c16b0); (try clear c16b1); (try clear c17); (try clear c17b0); (try clear c17b1); (try clear c18); (try clear c18b0); (try clear c18b1); (try clear c19); (try clear c19b0); (try clear c19b1); (try clear c20); (try clear c20b0); (try clear c20b1); (try clear c21); (try clear c21b0); (try clear c21b1); (try clear c22); (try clear c24); (try clear c24b0); (try clear c24b1); (try clear c25); (try clear c25b0); (try clear c25b1); (try clear c26); (try clear c26b0); (try clear c26b1); (try clear c27); (try clear c29); (try clear c29b0); (try clear c29b1); obtain ⟨kq, x30_27, rfl, HA, HJ27, ⟨mc27, rfl⟩⟩ := hcut
              cases kq with
              | zero => exact absurd HA.out (by simp [kind_Of.j4])
              | succ kj27 =>
               have H := HA.out; clear HA; simp only [kind_Of.j4] at H
               by_cases c30 : x30_27 = true
               ·
                subst c30; have H1 := H; rw [if_pos rfl] at H1; clear H; have H := H1; clear H1; obtain rfl := Option.some.inj H; go_wp2; go_ret; exact ⟨by first | rfl | (simp; done) | (simp [*]; done), by repeat (first | exact Drawn0.refl _ | apply Drawn0.step)⟩
               ·
                replace c30 := Bool.eq_false_iff.mpr c30; subst c30; have H1 := H; rw [if_neg (show ¬ (false = true) by decide)] at H1; clear H; have H := H1; clear H1
                by_cases c31 : a0 = 894
                ·
                 rw [if_pos c31] at H; have c31b0 : (a0 == 894) = true := beq_iff_eq.mpr c31; have c31b1 : (a0 != 894) = false := bne_eq_false_iff_eq.mpr c31; clear c31; obtain rfl := Option.some.inj H; go_wp2; go_ret; exact ⟨by first | rfl | (simp; done) | (simp [*]; done), by repeat (first | exact Drawn0.refl _ | apply Drawn0.step)⟩
                ·
                 rw [if_neg c31] at H; have c31b0 : (a0 == 894) = false := beq_eq_false_iff_ne.mpr c31; have c31b1 : (a0 != 894) = true := bne_iff_ne.mpr c31
                 by_cases c32 : a0 = 903
                 ·
                  rw [if_pos c32] at H; have c32b0 : (a0 == 903) = true := beq_iff_eq.mpr c32; have c32b1 : (a0 != 903) = false := bne_eq_false_iff_eq.mpr c32; clear c32; obtain rfl := Option.some.inj H; go_wp2; go_ret; exact ⟨by first | rfl | (simp; done) | (simp [*]; done), by repeat (first | exact Drawn0.refl _ | apply Drawn0.step)⟩
                 ·
                  rw [if_neg c32] at H; have c32b0 : (a0 == 903) = false := beq_eq_false_iff_ne.mpr c32; have c32b1 : (a0 != 903) = true := bne_iff_ne.mpr c32; replace H := Option.bind_eq_some_iff.mp H; obtain ⟨t64101, A330, H⟩ := H; (try dsimp only at H); have A33 := Aside0.mk A330; clear A330; have HC34 := Aside0.mk H; clear H
                  go_upto_if 37 with (first | ((with_reducible refine gate_callee (f := 81) rfl ?_); refine goesL_ (some 39) rfl rfl Tryd.func81 (by kernel_rfl) rfl #[.int .i32 a0, .int .i32 48, .int .i32 57] rfl (by (try simp only [List.map_toArray, List.map_cons, List.map_nil]); first | done | rfl | (simp only [List.length_drop, List.length_take]; rfl)) ?_; (with_reducible refine (kind_in.calls a0 48 57 t64101 _ A33.out).mono ?_); rintro e w' ⟨rfl, ⟨nd, rfl⟩⟩; refine ⟨_, rfl, ?_⟩))
                  (try simp only [Act.put,za,zb,zc])
                  go_cut [37] (fun v37 wc => ∃ (kq : Nat) (x37_33 : Bool), v37 = .bool x37_33 ∧ Aside0 (kind_Of.j5 kq a0 x37_33 = some r) ∧ Aside0 (kq ≤ kj27) ∧ Drawn0 w wc)
                  case first =>
                   have H := HC34.out; clear HC34
                   by_cases c35 : t64101 = true
                   ·
                    subst c35; have H1 := H; rw [if_pos rfl] at H1; clear H; have H := H1; clear H1; have H' := Aside0.mk H; clear H; go_wp2
                    go_meet
                    case rel => exact ⟨_, (true), (by first | rfl | (simp; done) | (simp [*]; done)), H', ⟨by have := HJ1.out; have := HJ8.out; have := HJ14.out; have := HJ22.out; have := HJ27.out; first | omega | exact Nat.le_refl _⟩, by repeat (first | exact Drawn0.refl _ | apply Drawn0.step)⟩
                   ·
                    replace c35 := Bool.eq_false_iff.mpr c35; subst c35; have H1 := H; rw [if_neg (show ¬ (false = true) by decide)] at H1; clear H; have H := H1; clear H1; replace H := Option.bind_eq_some_iff.mp H; obtain ⟨t64102, A360, H⟩ := H; (try dsimp only at H); have A36 := Aside0.mk A360; clear A360; have H' := Aside0.mk H; clear H
                    go_wp2_with (first | ((with_reducible refine gate_callee (f := 81) rfl ?_); refine goesL_ (some 41) rfl rfl Tryd.func81 (by kernel_rfl) rfl #[.int .i32 a0, .int .i32 1632, .int .i32 1641] rfl (by (try simp only [List.map_toArray, List.map_cons, List.map_nil]); first | done | rfl | (simp only [List.length_drop, List.length_take]; rfl)) ?_; (with_reducible refine (kind_in.calls a0 1632 1641 t64102 _ A36.out).mono ?_); rintro e w' ⟨rfl, ⟨nd, rfl⟩⟩; refine ⟨_, rfl, ?_⟩))
                    go_meet
                    case rel => exact ⟨_, (t64102), (by first | rfl | (simp; done) | (simp [*]; done)), H', ⟨by have := HJ1.out; have := HJ8.out; have := HJ14.out; have := HJ22.out; have := HJ27.out; first | omega | exact Nat.le_refl _⟩, by repeat (first | exact Drawn0.refl _ | apply Drawn0.step)⟩
                  case rest =>
                   clear HC34; (try clear c1); (try clear c2); (try clear p2); (try clear c3); (try clear c3b0); (try clear c3b1); (try clear c4); (try clear c4b0); (try clear c4b1); (try clear c5); (try clear c5b0); (try clear c5b1); (try clear c6); (try clear c6b0); (try clear c6b1); (try clear c7); (try clear c7b0); (try clear c7b1); (try clear c8); (try clear c10); (try clear c10b0); (try clear c10b1); (try clear c11); (try clear c11b0); (try clear c11b1); (try clear c12); (try clear c12b0); (try clear c12b1); (try clear c13); (try clear c13b0); (try clear c13b1); (try clear c14); (try clear c16); (try clear c16b0); (try clear c16b1); (try clear c17); (try clear c17b0); (try clear c17b1); (try clear c18); (try clear c18b0); (try clear c18b1); (try clear c19); (try clear c19b0); (try clear c19b1); (try clear c20); (try clear c20b0); (try clear c20b1); (try clear c21); (try clear c21b0); (try clear c21b1); (try clear c22); (try clear c24); (try clear c24b0); (try clear c24b1); (try clear c25); (try clear c25b0); (try clear c25b1); (try clear c26); (try clear c26b0); (try clear c26b1); (try clear c27); (try clear c29); (try clear c29b0); (try clear c29b1); (try clear c30); (try clear c31); (try clear c31b0); (try clear c31b1); (try clear c32); (try clear c32b0); (try clear c32b1); (try clear c35); obtain ⟨kq, x37_33, rfl, HA, HJ33, ⟨mc33, rfl⟩⟩ := hcut
                   cases kq with
                   | zero => exact absurd HA.out (by simp [kind_Of.j5])
                   | succ kj33 =>
                    have H := HA.out; clear HA; simp only [kind_Of.j5] at H
                    by_cases c37 : x37_33 = true
                    ·
                     subst c37; have H1 := H; rw [if_pos rfl] at H1; clear H; have H := H1; clear H1; obtain rfl := Option.some.inj H; go_wp2; go_ret; exact ⟨by first | rfl | (simp; done) | (simp [*]; done), by repeat (first | exact Drawn0.refl _ | apply Drawn0.step)⟩
                    ·
                     replace c37 := Bool.eq_false_iff.mpr c37; subst c37; have H1 := H; rw [if_neg (show ¬ (false = true) by decide)] at H1; clear H; have H := H1; clear H1; replace H := Option.bind_eq_some_iff.mp H; obtain ⟨t64103, A380, H⟩ := H; (try dsimp only at H); have A38 := Aside0.mk A380; clear A380; have HC39 := Aside0.mk H; clear H
                     go_upto_if 42 with (first | ((with_reducible refine gate_callee (f := 81) rfl ?_); refine goesL_ (some 44) rfl rfl Tryd.func81 (by kernel_rfl) rfl #[.int .i32 a0, .int .i32 65, .int .i32 90] rfl (by (try simp only [List.map_toArray, List.map_cons, List.map_nil]); first | done | rfl | (simp only [List.length_drop, List.length_take]; rfl)) ?_; (with_reducible refine (kind_in.calls a0 65 90 t64103 _ A38.out).mono ?_); rintro e w' ⟨rfl, ⟨nd, rfl⟩⟩; refine ⟨_, rfl, ?_⟩))
                     (try simp only [Act.put,za,zb,zc])
                     go_cut [42] (fun v42 wc => ∃ (kq : Nat) (x42_38 : Bool), v42 = .bool x42_38 ∧ Aside0 (kind_Of.j6 kq a0 x42_38 = some r) ∧ Aside0 (kq ≤ kj33) ∧ Drawn0 w wc)
                     case first =>
                      have H := HC39.out; clear HC39
                      by_cases c40 : t64103 = true
                      ·
                       subst c40; have H1 := H; rw [if_pos rfl] at H1; clear H; have H := H1; clear H1; have H' := Aside0.mk H; clear H; go_wp2
                       go_meet
                       case rel => exact ⟨_, (true), (by first | rfl | (simp; done) | (simp [*]; done)), H', ⟨by have := HJ1.out; have := HJ8.out; have := HJ14.out; have := HJ22.out; have := HJ27.out; have := HJ33.out; first | omega | exact Nat.le_refl _⟩, by repeat (first | exact Drawn0.refl _ | apply Drawn0.step)⟩
                      ·
                       replace c40 := Bool.eq_false_iff.mpr c40; subst c40; have H1 := H; rw [if_neg (show ¬ (false = true) by decide)] at H1; clear H; have H := H1; clear H1; replace H := Option.bind_eq_some_iff.mp H; obtain ⟨t64104, A410, H⟩ := H; (try dsimp only at H); have A41 := Aside0.mk A410; clear A410
                       by_cases c42 : t64104 = true
                       ·
                        subst c42; have H1 := H; rw [if_pos rfl] at H1; clear H; have H := H1; clear H1; have H' := Aside0.mk H; clear H
                        go_wp2_with (first | ((with_reducible refine gate_callee (f := 81) rfl ?_); refine goesL_ (some 46) rfl rfl Tryd.func81 (by kernel_rfl) rfl #[.int .i32 a0, .int .i32 97, .int .i32 122] rfl (by (try simp only [List.map_toArray, List.map_cons, List.map_nil]); first | done | rfl | (simp only [List.length_drop, List.length_take]; rfl)) ?_; (with_reducible refine (kind_in.calls a0 97 122 true _ A41.out).mono ?_); rintro e w' ⟨rfl, ⟨nd, rfl⟩⟩; refine ⟨_, rfl, ?_⟩))
                        go_meet
                        case rel => exact ⟨_, (true), (by first | rfl | (simp; done) | (simp [*]; done)), H', ⟨by have := HJ1.out; have := HJ8.out; have := HJ14.out; have := HJ22.out; have := HJ27.out; have := HJ33.out; first | omega | exact Nat.le_refl _⟩, by repeat (first | exact Drawn0.refl _ | apply Drawn0.step)⟩
                       ·
                        replace c42 := Bool.eq_false_iff.mpr c42; subst c42; have H1 := H; rw [if_neg (show ¬ (false = true) by decide)] at H1; clear H; have H := H1; clear H1; replace H := Option.bind_eq_some_iff.mp H; obtain ⟨t64105, A430, H⟩ := H; (try dsimp only at H); have A43 := Aside0.mk A430; clear A430
                        by_cases c44 : t64105 = true
                        ·
                         subst c44; have H1 := H; rw [if_pos rfl] at H1; clear H; have H := H1; clear H1; have H' := Aside0.mk H; clear H
                         go_wp2_with (first | ((with_reducible refine gate_callee (f := 81) rfl ?_); refine goesL_ (some 46) rfl rfl Tryd.func81 (by kernel_rfl) rfl #[.int .i32 a0, .int .i32 97, .int .i32 122] rfl (by (try simp only [List.map_toArray, List.map_cons, List.map_nil]); first | done | rfl | (simp only [List.length_drop, List.length_take]; rfl)) ?_; (with_reducible refine (kind_in.calls a0 97 122 false _ A41.out).mono ?_); rintro e w' ⟨rfl, ⟨nd, rfl⟩⟩; refine ⟨_, rfl, ?_⟩) | ((with_reducible refine gate_callee (f := 81) rfl ?_); refine goesL_ (some 48) rfl rfl Tryd.func81 (by kernel_rfl) rfl #[.int .i32 a0, .int .i32 192, .int .i32 687] rfl (by (try simp only [List.map_toArray, List.map_cons, List.map_nil]); first | done | rfl | (simp only [List.length_drop, List.length_take]; rfl)) ?_; (with_reducible refine (kind_in.calls a0 192 687 true _ A43.out).mono ?_); rintro e w' ⟨rfl, ⟨nd, rfl⟩⟩; refine ⟨_, rfl, ?_⟩))
                         go_meet
                         case rel => exact ⟨_, (true), (by first | rfl | (simp; done) | (simp [*]; done)), H', ⟨by have := HJ1.out; have := HJ8.out; have := HJ14.out; have := HJ22.out; have := HJ27.out; have := HJ33.out; first | omega | exact Nat.le_refl _⟩, by repeat (first | exact Drawn0.refl _ | apply Drawn0.step)⟩
                        ·
                         replace c44 := Bool.eq_false_iff.mpr c44; subst c44; have H1 := H; rw [if_neg (show ¬ (false = true) by decide)] at H1; clear H; have H := H1; clear H1; replace H := Option.bind_eq_some_iff.mp H; obtain ⟨t64106, A450, H⟩ := H; (try dsimp only at H); have A45 := Aside0.mk A450; clear A450
                         by_cases c46 : t64106 = true
                         ·
                          subst c46; have H1 := H; rw [if_pos rfl] at H1; clear H; have H := H1; clear H1; have H' := Aside0.mk H; clear H
                          go_wp2_with (first | ((with_reducible refine gate_callee (f := 81) rfl ?_); refine goesL_ (some 46) rfl rfl Tryd.func81 (by kernel_rfl) rfl #[.int .i32 a0, .int .i32 97, .int .i32 122] rfl (by (try simp only [List.map_toArray, List.map_cons, List.map_nil]); first | done | rfl | (simp only [List.length_drop, List.length_take]; rfl)) ?_; (with_reducible refine (kind_in.calls a0 97 122 false _ A41.out).mono ?_); rintro e w' ⟨rfl, ⟨nd, rfl⟩⟩; refine ⟨_, rfl, ?_⟩) | ((with_reducible refine gate_callee (f := 81) rfl ?_); refine goesL_ (some 48) rfl rfl Tryd.func81 (by kernel_rfl) rfl #[.int .i32 a0, .int .i32 192, .int .i32 687] rfl (by (try simp only [List.map_toArray, List.map_cons, List.map_nil]); first | done | rfl | (simp only [List.length_drop, List.length_take]; rfl)) ?_; (with_reducible refine (kind_in.calls a0 192 687 false _ A43.out).mono ?_); rintro e w' ⟨rfl, ⟨nd, rfl⟩⟩; refine ⟨_, rfl, ?_⟩) | ((with_reducible refine gate_callee (f := 81) rfl ?_); refine goesL_ (some 50) rfl rfl Tryd.func81 (by kernel_rfl) rfl #[.int .i32 a0, .int .i32 880, .int .i32 1153] rfl (by (try simp only [List.map_toArray, List.map_cons, List.map_nil]); first | done | rfl | (simp only [List.length_drop, List.length_take]; rfl)) ?_; (with_reducible refine (kind_in.calls a0 880 1153 true _ A45.out).mono ?_); rintro e w' ⟨rfl, ⟨nd, rfl⟩⟩; refine ⟨_, rfl, ?_⟩))
                          go_meet
                          case rel => exact ⟨_, (true), (by first | rfl | (simp; done) | (simp [*]; done)), H', ⟨by have := HJ1.out; have := HJ8.out; have := HJ14.out; have := HJ22.out; have := HJ27.out; have := HJ33.out; first | omega | exact Nat.le_refl _⟩, by repeat (first | exact Drawn0.refl _ | apply Drawn0.step)⟩
                         ·
                          replace c46 := Bool.eq_false_iff.mpr c46; subst c46; have H1 := H; rw [if_neg (show ¬ (false = true) by decide)] at H1; clear H; have H := H1; clear H1; replace H := Option.bind_eq_some_iff.mp H; obtain ⟨t64107, A470, H⟩ := H; (try dsimp only at H); have A47 := Aside0.mk A470; clear A470
                          by_cases c48 : t64107 = true
                          ·
                           subst c48; have H1 := H; rw [if_pos rfl] at H1; clear H; have H := H1; clear H1; have H' := Aside0.mk H; clear H
                           go_wp2_with (first | ((with_reducible refine gate_callee (f := 81) rfl ?_); refine goesL_ (some 46) rfl rfl Tryd.func81 (by kernel_rfl) rfl #[.int .i32 a0, .int .i32 97, .int .i32 122] rfl (by (try simp only [List.map_toArray, List.map_cons, List.map_nil]); first | done | rfl | (simp only [List.length_drop, List.length_take]; rfl)) ?_; (with_reducible refine (kind_in.calls a0 97 122 false _ A41.out).mono ?_); rintro e w' ⟨rfl, ⟨nd, rfl⟩⟩; refine ⟨_, rfl, ?_⟩) | ((with_reducible refine gate_callee (f := 81) rfl ?_); refine goesL_ (some 48) rfl rfl Tryd.func81 (by kernel_rfl) rfl #[.int .i32 a0, .int .i32 192, .int .i32 687] rfl (by (try simp only [List.map_toArray, List.map_cons, List.map_nil]); first | done | rfl | (simp only [List.length_drop, List.length_take]; rfl)) ?_; (with_reducible refine (kind_in.calls a0 192 687 false _ A43.out).mono ?_); rintro e w' ⟨rfl, ⟨nd, rfl⟩⟩; refine ⟨_, rfl, ?_⟩) | ((with_reducible refine gate_callee (f := 81) rfl ?_); refine goesL_ (some 50) rfl rfl Tryd.func81 (by kernel_rfl) rfl #[.int .i32 a0, .int .i32 880, .int .i32 1153] rfl (by (try simp only [List.map_toArray, List.map_cons, List.map_nil]); first | done | rfl | (simp only [List.length_drop, List.length_take]; rfl)) ?_; (with_reducible refine (kind_in.calls a0 880 1153 false _ A45.out).mono ?_); rintro e w' ⟨rfl, ⟨nd, rfl⟩⟩; refine ⟨_, rfl, ?_⟩) | ((with_reducible refine gate_callee (f := 81) rfl ?_); refine goesL_ (some 52) rfl rfl Tryd.func81 (by kernel_rfl) rfl #[.int .i32 a0, .int .i32 1162, .int .i32 1327] rfl (by (try simp only [List.map_toArray, List.map_cons, List.map_nil]); first | done | rfl | (simp only [List.length_drop, List.length_take]; rfl)) ?_; (with_reducible refine (kind_in.calls a0 1162 1327 true _ A47.out).mono ?_); rintro e w' ⟨rfl, ⟨nd, rfl⟩⟩; refine ⟨_, rfl, ?_⟩))
                           go_meet
                           case rel => exact ⟨_, (true), (by first | rfl | (simp; done) | (simp [*]; done)), H', ⟨by have := HJ1.out; have := HJ8.out; have := HJ14.out; have := HJ22.out; have := HJ27.out; have := HJ33.out; first | omega | exact Nat.le_refl _⟩, by repeat (first | exact Drawn0.refl _ | apply Drawn0.step)⟩
                          ·
                           replace c48 := Bool.eq_false_iff.mpr c48; subst c48; have H1 := H; rw [if_neg (show ¬ (false = true) by decide)] at H1; clear H; have H := H1; clear H1; replace H := Option.bind_eq_some_iff.mp H; obtain ⟨t64108, A490, H⟩ := H; (try dsimp only at H); have A49 := Aside0.mk A490; clear A490
                           by_cases c50 : t64108 = true
                           ·
                            subst c50; have H1 := H; rw [if_pos rfl] at H1; clear H; have H := H1; clear H1; have H' := Aside0.mk H; clear H
                            go_wp2_with (first | ((with_reducible refine gate_callee (f := 81) rfl ?_); refine goesL_ (some 46) rfl rfl Tryd.func81 (by kernel_rfl) rfl #[.int .i32 a0, .int .i32 97, .int .i32 122] rfl (by (try simp only [List.map_toArray, List.map_cons, List.map_nil]); first | done | rfl | (simp only [List.length_drop, List.length_take]; rfl)) ?_; (with_reducible refine (kind_in.calls a0 97 122 false _ A41.out).mono ?_); rintro e w' ⟨rfl, ⟨nd, rfl⟩⟩; refine ⟨_, rfl, ?_⟩) | ((with_reducible refine gate_callee (f := 81) rfl ?_); refine goesL_ (some 48) rfl rfl Tryd.func81 (by kernel_rfl) rfl #[.int .i32 a0, .int .i32 192, .int .i32 687] rfl (by (try simp only [List.map_toArray, List.map_cons, List.map_nil]); first | done | rfl | (simp only [List.length_drop, List.length_take]; rfl)) ?_; (with_reducible refine (kind_in.calls a0 192 687 false _ A43.out).mono ?_); rintro e w' ⟨rfl, ⟨nd, rfl⟩⟩; refine ⟨_, rfl, ?_⟩) | ((with_reducible refine gate_callee (f := 81) rfl ?_); refine goesL_ (some 50) rfl rfl Tryd.func81 (by kernel_rfl) rfl #[.int .i32 a0, .int .i32 880, .int .i32 1153] rfl (by (try simp only [List.map_toArray, List.map_cons, List.map_nil]); first | done | rfl | (simp only [List.length_drop, List.length_take]; rfl)) ?_; (with_reducible refine (kind_in.calls a0 880 1153 false _ A45.out).mono ?_); rintro e w' ⟨rfl, ⟨nd, rfl⟩⟩; refine ⟨_, rfl, ?_⟩) | ((with_reducible refine gate_callee (f := 81) rfl ?_); refine goesL_ (some 52) rfl rfl Tryd.func81 (by kernel_rfl) rfl #[.int .i32 a0, .int .i32 1162, .int .i32 1327] rfl (by (try simp only [List.map_toArray, List.map_cons, List.map_nil]); first | done | rfl | (simp only [List.length_drop, List.length_take]; rfl)) ?_; (with_reducible refine (kind_in.calls a0 1162 1327 false _ A47.out).mono ?_); rintro e w' ⟨rfl, ⟨nd, rfl⟩⟩; refine ⟨_, rfl, ?_⟩) | ((with_reducible refine gate_callee (f := 81) rfl ?_); refine goesL_ (some 54) rfl rfl Tryd.func81 (by kernel_rfl) rfl #[.int .i32 a0, .int .i32 7680, .int .i32 8191] rfl (by (try simp only [List.map_toArray, List.map_cons, List.map_nil]); first | done | rfl | (simp only [List.length_drop, List.length_take]; rfl)) ?_; (with_reducible refine (kind_in.calls a0 7680 8191 true _ A49.out).mono ?_); rintro e w' ⟨rfl, ⟨nd, rfl⟩⟩; refine ⟨_, rfl, ?_⟩))
                            go_meet
                            case rel => exact ⟨_, (true), (by first | rfl | (simp; done) | (simp [*]; done)), H', ⟨by have := HJ1.out; have := HJ8.out; have := HJ14.out; have := HJ22.out; have := HJ27.out; have := HJ33.out; first | omega | exact Nat.le_refl _⟩, by repeat (first | exact Drawn0.refl _ | apply Drawn0.step)⟩
                           ·
                            replace c50 := Bool.eq_false_iff.mpr c50; subst c50; have H1 := H; rw [if_neg (show ¬ (false = true) by decide)] at H1; clear H; have H := H1; clear H1; replace H := Option.bind_eq_some_iff.mp H; obtain ⟨t64109, A510, H⟩ := H; (try dsimp only at H); have A51 := Aside0.mk A510; clear A510; have H' := Aside0.mk H; clear H
                            go_wp2_with (first | ((with_reducible refine gate_callee (f := 81) rfl ?_); refine goesL_ (some 46) rfl rfl Tryd.func81 (by kernel_rfl) rfl #[.int .i32 a0, .int .i32 97, .int .i32 122] rfl (by (try simp only [List.map_toArray, List.map_cons, List.map_nil]); first | done | rfl | (simp only [List.length_drop, List.length_take]; rfl)) ?_; (with_reducible refine (kind_in.calls a0 97 122 false _ A41.out).mono ?_); rintro e w' ⟨rfl, ⟨nd, rfl⟩⟩; refine ⟨_, rfl, ?_⟩) | ((with_reducible refine gate_callee (f := 81) rfl ?_); refine goesL_ (some 48) rfl rfl Tryd.func81 (by kernel_rfl) rfl #[.int .i32 a0, .int .i32 192, .int .i32 687] rfl (by (try simp only [List.map_toArray, List.map_cons, List.map_nil]); first | done | rfl | (simp only [List.length_drop, List.length_take]; rfl)) ?_; (with_reducible refine (kind_in.calls a0 192 687 false _ A43.out).mono ?_); rintro e w' ⟨rfl, ⟨nd, rfl⟩⟩; refine ⟨_, rfl, ?_⟩) | ((with_reducible refine gate_callee (f := 81) rfl ?_); refine goesL_ (some 50) rfl rfl Tryd.func81 (by kernel_rfl) rfl #[.int .i32 a0, .int .i32 880, .int .i32 1153] rfl (by (try simp only [List.map_toArray, List.map_cons, List.map_nil]); first | done | rfl | (simp only [List.length_drop, List.length_take]; rfl)) ?_; (with_reducible refine (kind_in.calls a0 880 1153 false _ A45.out).mono ?_); rintro e w' ⟨rfl, ⟨nd, rfl⟩⟩; refine ⟨_, rfl, ?_⟩) | ((with_reducible refine gate_callee (f := 81) rfl ?_); refine goesL_ (some 52) rfl rfl Tryd.func81 (by kernel_rfl) rfl #[.int .i32 a0, .int .i32 1162, .int .i32 1327] rfl (by (try simp only [List.map_toArray, List.map_cons, List.map_nil]); first | done | rfl | (simp only [List.length_drop, List.length_take]; rfl)) ?_; (with_reducible refine (kind_in.calls a0 1162 1327 false _ A47.out).mono ?_); rintro e w' ⟨rfl, ⟨nd, rfl⟩⟩; refine ⟨_, rfl, ?_⟩) | ((with_reducible refine gate_callee (f := 81) rfl ?_); refine goesL_ (some 54) rfl rfl Tryd.func81 (by kernel_rfl) rfl #[.int .i32 a0, .int .i32 7680, .int .i32 8191] rfl (by (try simp only [List.map_toArray, List.map_cons, List.map_nil]); first | done | rfl | (simp only [List.length_drop, List.length_take]; rfl)) ?_; (with_reducible refine (kind_in.calls a0 7680 8191 false _ A49.out).mono ?_); rintro e w' ⟨rfl, ⟨nd, rfl⟩⟩; refine ⟨_, rfl, ?_⟩) | ((with_reducible refine gate_callee (f := 81) rfl ?_); refine goesL_ (some 56) rfl rfl Tryd.func81 (by kernel_rfl) rfl #[.int .i32 a0, .int .i32 64256, .int .i32 64262] rfl (by (try simp only [List.map_toArray, List.map_cons, List.map_nil]); first | done | rfl | (simp only [List.length_drop, List.length_take]; rfl)) ?_; (with_reducible refine (kind_in.calls a0 64256 64262 t64109 _ A51.out).mono ?_); rintro e w' ⟨rfl, ⟨nd, rfl⟩⟩; refine ⟨_, rfl, ?_⟩))
                            go_meet
                            case rel => exact ⟨_, (t64109), (by first | rfl | (simp; done) | (simp [*]; done)), H', ⟨by have := HJ1.out; have := HJ8.out; have := HJ14.out; have := HJ22.out; have := HJ27.out; have := HJ33.out; first | omega | exact Nat.le_refl _⟩, by repeat (first | exact Drawn0.refl _ | apply Drawn0.step)⟩
                     case rest =>
                      clear HC39; (try clear c1); (try clear c2); (try clear p2); (try clear c3); (try clear c3b0); (try clear c3b1); (try clear c4); (try clear c4b0); (try clear c4b1); (try clear c5); (try clear c5b0); (try clear c5b1); (try clear c6); (try clear c6b0); (try clear c6b1); (try clear c7); (try clear c7b0); (try clear c7b1); (try clear c8); (try clear c10); (try clear c10b0); (try clear c10b1); (try clear c11); (try clear c11b0); (try clear c11b1); (try clear c12); (try clear c12b0); (try clear c12b1); (try clear c13); (try clear c13b0); (try clear c13b1); (try clear c14); (try clear c16); (try clear c16b0); (try clear c16b1); (try clear c17); (try clear c17b0); (try clear c17b1); (try clear c18); (try clear c18b0); (try clear c18b1); (try clear c19); (try clear c19b0); (try clear c19b1); (try clear c20); (try clear c20b0); (try clear c20b1); (try clear c21); (try clear c21b0); (try clear c21b1); (try clear c22); (try clear c24); (try clear c24b0); (try clear c24b1); (try clear c25); (try clear c25b0); (try clear c25b1); (try clear c26); (try clear c26b0); (try clear c26b1); (try clear c27); (try clear c29); (try clear c29b0); (try clear c29b1); (try clear c30); (try clear c31); (try clear c31b0); (try clear c31b1); (try clear c32); (try clear c32b0); (try clear c32b1); (try clear c33); (try clear c35); (try clear c37); (try clear c40); (try clear c42); (try clear c44); (try clear c46); (try clear c48); (try clear c50); obtain ⟨kq, x42_38, rfl, HA, HJ38, ⟨mc38, rfl⟩⟩ := hcut
                      cases kq with
                      | zero => exact absurd HA.out (by simp [kind_Of.j6])
                      | succ kj38 =>
                       have H := HA.out; clear HA; simp only [kind_Of.j6] at H
                       by_cases c52 : x42_38 = true
                       ·
                        subst c52; have H1 := H; rw [if_pos rfl] at H1; clear H; have H := H1; clear H1; obtain rfl := Option.some.inj H; go_wp2; go_ret; exact ⟨by first | rfl | (simp; done) | (simp [*]; done), by repeat (first | exact Drawn0.refl _ | apply Drawn0.step)⟩
                       ·
                        replace c52 := Bool.eq_false_iff.mpr c52; subst c52; have H1 := H; rw [if_neg (show ¬ (false = true) by decide)] at H1; clear H; have H := H1; clear H1; replace H := Option.bind_eq_some_iff.mp H; obtain ⟨t64110, A530, H⟩ := H; (try dsimp only at H); have A53 := Aside0.mk A530; clear A530; have HC54 := Aside0.mk H; clear H
                        go_upto_if 57 with (first | ((with_reducible refine gate_callee (f := 81) rfl ?_); refine goesL_ (some 59) rfl rfl Tryd.func81 (by kernel_rfl) rfl #[.int .i32 a0, .int .i32 768, .int .i32 879] rfl (by (try simp only [List.map_toArray, List.map_cons, List.map_nil]); first | done | rfl | (simp only [List.length_drop, List.length_take]; rfl)) ?_; (with_reducible refine (kind_in.calls a0 768 879 t64110 _ A53.out).mono ?_); rintro e w' ⟨rfl, ⟨nd, rfl⟩⟩; refine ⟨_, rfl, ?_⟩))
                        (try simp only [Act.put,za,zb,zc])
                        go_cut [57] (fun v57 wc => ∃ (kq : Nat) (x57_53 : Bool), v57 = .bool x57_53 ∧ Aside0 (kind_Of.j7 kq a0 x57_53 = some r) ∧ Aside0 (kq ≤ kj38) ∧ Drawn0 w wc)
                        case first =>
                         have H := HC54.out; clear HC54
                         by_cases c55 : t64110 = true
                         ·
                          subst c55; have H1 := H; rw [if_pos rfl] at H1; clear H; have H := H1; clear H1; have H' := Aside0.mk H; clear H; go_wp2
                          go_meet
                          case rel => exact ⟨_, (true), (by first | rfl | (simp; done) | (simp [*]; done)), H', ⟨by have := HJ1.out; have := HJ8.out; have := HJ14.out; have := HJ22.out; have := HJ27.out; have := HJ33.out; have := HJ38.out; first | omega | exact Nat.le_refl _⟩, by repeat (first | exact Drawn0.refl _ | apply Drawn0.step)⟩
                         ·
                          replace c55 := Bool.eq_false_iff.mpr c55; subst c55; have H1 := H; rw [if_neg (show ¬ (false = true) by decide)] at H1; clear H; have H := H1; clear H1; replace H := Option.bind_eq_some_iff.mp H; obtain ⟨t64111, A560, H⟩ := H; (try dsimp only at H); have A56 := Aside0.mk A560; clear A560
                          by_cases c57 : t64111 = true
                          ·
                           subst c57; have H1 := H; rw [if_pos rfl] at H1; clear H; have H := H1; clear H1; have H' := Aside0.mk H; clear H
                           go_wp2_with (first | ((with_reducible refine gate_callee (f := 81) rfl ?_); refine goesL_ (some 61) rfl rfl Tryd.func81 (by kernel_rfl) rfl #[.int .i32 a0, .int .i32 1155, .int .i32 1161] rfl (by (try simp only [List.map_toArray, List.map_cons, List.map_nil]); first | done | rfl | (simp only [List.length_drop, List.length_take]; rfl)) ?_; (with_reducible refine (kind_in.calls a0 1155 1161 true _ A56.out).mono ?_); rintro e w' ⟨rfl, ⟨nd, rfl⟩⟩; refine ⟨_, rfl, ?_⟩))
                           go_meet
                           case rel => exact ⟨_, (true), (by first | rfl | (simp; done) | (simp [*]; done)), H', ⟨by have := HJ1.out; have := HJ8.out; have := HJ14.out; have := HJ22.out; have := HJ27.out; have := HJ33.out; have := HJ38.out; first | omega | exact Nat.le_refl _⟩, by repeat (first | exact Drawn0.refl _ | apply Drawn0.step)⟩
                          ·
                           replace c57 := Bool.eq_false_iff.mpr c57; subst c57; have H1 := H; rw [if_neg (show ¬ (false = true) by decide)] at H1; clear H; have H := H1; clear H1; replace H := Option.bind_eq_some_iff.mp H; obtain ⟨t64112, A580, H⟩ := H; (try dsimp only at H); have A58 := Aside0.mk A580; clear A580
                           by_cases c59 : t64112 = true
                           ·
                            subst c59; have H1 := H; rw [if_pos rfl] at H1; clear H; have H := H1; clear H1; have H' := Aside0.mk H; clear H
                            go_wp2_with (first | ((with_reducible refine gate_callee (f := 81) rfl ?_); refine goesL_ (some 61) rfl rfl Tryd.func81 (by kernel_rfl) rfl #[.int .i32 a0, .int .i32 1155, .int .i32 1161] rfl (by (try simp only [List.map_toArray, List.map_cons, List.map_nil]); first | done | rfl | (simp only [List.length_drop, List.length_take]; rfl)) ?_; (with_reducible refine (kind_in.calls a0 1155 1161 false _ A56.out).mono ?_); rintro e w' ⟨rfl, ⟨nd, rfl⟩⟩; refine ⟨_, rfl, ?_⟩) | ((with_reducible refine gate_callee (f := 81) rfl ?_); refine goesL_ (some 63) rfl rfl Tryd.func81 (by kernel_rfl) rfl #[.int .i32 a0, .int .i32 7616, .int .i32 7679] rfl (by (try simp only [List.map_toArray, List.map_cons, List.map_nil]); first | done | rfl | (simp only [List.length_drop, List.length_take]; rfl)) ?_; (with_reducible refine (kind_in.calls a0 7616 7679 true _ A58.out).mono ?_); rintro e w' ⟨rfl, ⟨nd, rfl⟩⟩; refine ⟨_, rfl, ?_⟩))
                            go_meet
                            case rel => exact ⟨_, (true), (by first | rfl | (simp; done) | (simp [*]; done)), H', ⟨by have := HJ1.out; have := HJ8.out; have := HJ14.out; have := HJ22.out; have := HJ27.out; have := HJ33.out; have := HJ38.out; first | omega | exact Nat.le_refl _⟩, by repeat (first | exact Drawn0.refl _ | apply Drawn0.step)⟩
                           ·
                            replace c59 := Bool.eq_false_iff.mpr c59; subst c59; have H1 := H; rw [if_neg (show ¬ (false = true) by decide)] at H1; clear H; have H := H1; clear H1; replace H := Option.bind_eq_some_iff.mp H; obtain ⟨t64113, A600, H⟩ := H; (try dsimp only at H); have A60 := Aside0.mk A600; clear A600; have H' := Aside0.mk H; clear H
                            go_wp2_with (first | ((with_reducible refine gate_callee (f := 81) rfl ?_); refine goesL_ (some 61) rfl rfl Tryd.func81 (by kernel_rfl) rfl #[.int .i32 a0, .int .i32 1155, .int .i32 1161] rfl (by (try simp only [List.map_toArray, List.map_cons, List.map_nil]); first | done | rfl | (simp only [List.length_drop, List.length_take]; rfl)) ?_; (with_reducible refine (kind_in.calls a0 1155 1161 false _ A56.out).mono ?_); rintro e w' ⟨rfl, ⟨nd, rfl⟩⟩; refine ⟨_, rfl, ?_⟩) | ((with_reducible refine gate_callee (f := 81) rfl ?_); refine goesL_ (some 63) rfl rfl Tryd.func81 (by kernel_rfl) rfl #[.int .i32 a0, .int .i32 7616, .int .i32 7679] rfl (by (try simp only [List.map_toArray, List.map_cons, List.map_nil]); first | done | rfl | (simp only [List.length_drop, List.length_take]; rfl)) ?_; (with_reducible refine (kind_in.calls a0 7616 7679 false _ A58.out).mono ?_); rintro e w' ⟨rfl, ⟨nd, rfl⟩⟩; refine ⟨_, rfl, ?_⟩) | ((with_reducible refine gate_callee (f := 81) rfl ?_); refine goesL_ (some 65) rfl rfl Tryd.func81 (by kernel_rfl) rfl #[.int .i32 a0, .int .i32 8400, .int .i32 8447] rfl (by (try simp only [List.map_toArray, List.map_cons, List.map_nil]); first | done | rfl | (simp only [List.length_drop, List.length_take]; rfl)) ?_; (with_reducible refine (kind_in.calls a0 8400 8447 t64113 _ A60.out).mono ?_); rintro e w' ⟨rfl, ⟨nd, rfl⟩⟩; refine ⟨_, rfl, ?_⟩))
                            go_meet
                            case rel => exact ⟨_, (t64113), (by first | rfl | (simp; done) | (simp [*]; done)), H', ⟨by have := HJ1.out; have := HJ8.out; have := HJ14.out; have := HJ22.out; have := HJ27.out; have := HJ33.out; have := HJ38.out; first | omega | exact Nat.le_refl _⟩, by repeat (first | exact Drawn0.refl _ | apply Drawn0.step)⟩
                        case rest =>
                         clear HC54; (try clear c1); (try clear c2); (try clear p2); (try clear c3); (try clear c3b0); (try clear c3b1); (try clear c4); (try clear c4b0); (try clear c4b1); (try clear c5); (try clear c5b0); (try clear c5b1); (try clear c6); (try clear c6b0); (try clear c6b1); (try clear c7); (try clear c7b0); (try clear c7b1); (try clear c8); (try clear c10); (try clear c10b0); (try clear c10b1); (try clear c11); (try clear c11b0); (try clear c11b1); (try clear c12); (try clear c12b0); (try clear c12b1); (try clear c13); (try clear c13b0); (try clear c13b1); (try clear c14); (try clear c16); (try clear c16b0); (try clear c16b1); (try clear c17); (try clear c17b0); (try clear c17b1); (try clear c18); (try clear c18b0); (try clear c18b1); (try clear c19); (try clear c19b0); (try clear c19b1); (try clear c20); (try clear c20b0); (try clear c20b1); (try clear c21); (try clear c21b0); (try clear c21b1); (try clear c22); (try clear c24); (try clear c24b0); (try clear c24b1); (try clear c25); (try clear c25b0); (try clear c25b1); (try clear c26); (try clear c26b0); (try clear c26b1); (try clear c27); (try clear c29); (try clear c29b0); (try clear c29b1); (try clear c30); (try clear c31); (try clear c31b0); (try clear c31b1); (try clear c32); (try clear c32b0); (try clear c32b1); (try clear c33); (try clear c35); (try clear c37); (try clear c38); (try clear c40); (try clear c42); (try clear c44); (try clear c46); (try clear c48); (try clear c50); (try clear c52); (try clear c55); (try clear c57); (try clear c59)
                         obtain ⟨kq, x57_53, rfl, HA, HJ53, ⟨mc53, rfl⟩⟩ := hcut
                         cases kq with
                         | zero => exact absurd HA.out (by simp [kind_Of.j7])
                         | succ kj53 =>
                          have H := HA.out; clear HA; simp only [kind_Of.j7] at H
                          by_cases c61 : x57_53 = true
                          ·
                           subst c61; have H1 := H; rw [if_pos rfl] at H1; clear H; have H := H1; clear H1; obtain rfl := Option.some.inj H; go_wp2; go_ret; exact ⟨by first | rfl | (simp; done) | (simp [*]; done), by repeat (first | exact Drawn0.refl _ | apply Drawn0.step)⟩
                          ·
                           replace c61 := Bool.eq_false_iff.mpr c61; subst c61; have H1 := H; rw [if_neg (show ¬ (false = true) by decide)] at H1; clear H; have H := H1; clear H1; replace H := Option.bind_eq_some_iff.mp H; obtain ⟨t64114, A620, H⟩ := H; (try dsimp only at H); have A62 := Aside0.mk A620; clear A620
                           by_cases c63 : t64114 = true
                           ·
                            subst c63; have H1 := H; rw [if_pos rfl] at H1; clear H; have H := H1; clear H1; obtain rfl := Option.some.inj H
                            go_wp2_with (first | ((with_reducible refine gate_callee (f := 81) rfl ?_); refine goesL_ (some 68) rfl rfl Tryd.func81 (by kernel_rfl) rfl #[.int .i32 a0, .int .i32 8194, .int .i32 8202] rfl (by (try simp only [List.map_toArray, List.map_cons, List.map_nil]); first | done | rfl | (simp only [List.length_drop, List.length_take]; rfl)) ?_; (with_reducible refine (kind_in.calls a0 8194 8202 true _ A62.out).mono ?_); rintro e w' ⟨rfl, ⟨nd, rfl⟩⟩; refine ⟨_, rfl, ?_⟩))
                            go_ret; exact ⟨by first | rfl | (simp; done) | (simp [*]; done), by repeat (first | exact Drawn0.refl _ | apply Drawn0.step)⟩
                           ·
                            replace c63 := Bool.eq_false_iff.mpr c63; subst c63; have H1 := H; rw [if_neg (show ¬ (false = true) by decide)] at H1; clear H; have H := H1; clear H1; replace H := Option.bind_eq_some_iff.mp H; obtain ⟨t64115, A640, H⟩ := H; (try dsimp only at H); have A64 := Aside0.mk A640; clear A640
                            by_cases c65 : t64115 = true
                            ·
                             subst c65; have H1 := H; rw [if_pos rfl] at H1; clear H; have H := H1; clear H1; obtain rfl := Option.some.inj H
                             go_wp2_with (first | ((with_reducible refine gate_callee (f := 81) rfl ?_); refine goesL_ (some 68) rfl rfl Tryd.func81 (by kernel_rfl) rfl #[.int .i32 a0, .int .i32 8194, .int .i32 8202] rfl (by (try simp only [List.map_toArray, List.map_cons, List.map_nil]); first | done | rfl | (simp only [List.length_drop, List.length_take]; rfl)) ?_; (with_reducible refine (kind_in.calls a0 8194 8202 false _ A62.out).mono ?_); rintro e w' ⟨rfl, ⟨nd, rfl⟩⟩; refine ⟨_, rfl, ?_⟩) | ((with_reducible refine gate_callee (f := 81) rfl ?_); refine goesL_ (some 71) rfl rfl Tryd.func81 (by kernel_rfl) rfl #[.int .i32 a0, .int .i32 33, .int .i32 126] rfl (by (try simp only [List.map_toArray, List.map_cons, List.map_nil]); first | done | rfl | (simp only [List.length_drop, List.length_take]; rfl)) ?_; (with_reducible refine (kind_in.calls a0 33 126 true _ A64.out).mono ?_); rintro e w' ⟨rfl, ⟨nd, rfl⟩⟩; refine ⟨_, rfl, ?_⟩))
                             go_ret; exact ⟨by first | rfl | (simp; done) | (simp [*]; done), by repeat (first | exact Drawn0.refl _ | apply Drawn0.step)⟩
                            ·
                             replace c65 := Bool.eq_false_iff.mpr c65; subst c65; have H1 := H; rw [if_neg (show ¬ (false = true) by decide)] at H1; clear H; have H := H1; clear H1; replace H := Option.bind_eq_some_iff.mp H; obtain ⟨t64116, A660, H⟩ := H; (try dsimp only at H); have A66 := Aside0.mk A660; clear A660
                             by_cases c67 : t64116 = true
                             ·
                              subst c67; have H1 := H; rw [if_pos rfl] at H1; clear H; have H := H1; clear H1; obtain rfl := Option.some.inj H
                              go_wp2_with (first | ((with_reducible refine gate_callee (f := 81) rfl ?_); refine goesL_ (some 68) rfl rfl Tryd.func81 (by kernel_rfl) rfl #[.int .i32 a0, .int .i32 8194, .int .i32 8202] rfl (by (try simp only [List.map_toArray, List.map_cons, List.map_nil]); first | done | rfl | (simp only [List.length_drop, List.length_take]; rfl)) ?_; (with_reducible refine (kind_in.calls a0 8194 8202 false _ A62.out).mono ?_); rintro e w' ⟨rfl, ⟨nd, rfl⟩⟩; refine ⟨_, rfl, ?_⟩) | ((with_reducible refine gate_callee (f := 81) rfl ?_); refine goesL_ (some 71) rfl rfl Tryd.func81 (by kernel_rfl) rfl #[.int .i32 a0, .int .i32 33, .int .i32 126] rfl (by (try simp only [List.map_toArray, List.map_cons, List.map_nil]); first | done | rfl | (simp only [List.length_drop, List.length_take]; rfl)) ?_; (with_reducible refine (kind_in.calls a0 33 126 false _ A64.out).mono ?_); rintro e w' ⟨rfl, ⟨nd, rfl⟩⟩; refine ⟨_, rfl, ?_⟩) | ((with_reducible refine gate_callee (f := 81) rfl ?_); refine goesL_ (some 73) rfl rfl Tryd.func81 (by kernel_rfl) rfl #[.int .i32 a0, .int .i32 161, .int .i32 191] rfl (by (try simp only [List.map_toArray, List.map_cons, List.map_nil]); first | done | rfl | (simp only [List.length_drop, List.length_take]; rfl)) ?_; (with_reducible refine (kind_in.calls a0 161 191 true _ A66.out).mono ?_); rintro e w' ⟨rfl, ⟨nd, rfl⟩⟩; refine ⟨_, rfl, ?_⟩))
                              go_ret; exact ⟨by first | rfl | (simp; done) | (simp [*]; done), by repeat (first | exact Drawn0.refl _ | apply Drawn0.step)⟩
                             ·
                              replace c67 := Bool.eq_false_iff.mpr c67; subst c67; have H1 := H; rw [if_neg (show ¬ (false = true) by decide)] at H1; clear H; have H := H1; clear H1; replace H := Option.bind_eq_some_iff.mp H; obtain ⟨t64117, A680, H⟩ := H; (try dsimp only at H); have A68 := Aside0.mk A680; clear A680
                              by_cases c69 : t64117 = true
                              ·
                               subst c69; have H1 := H; rw [if_pos rfl] at H1; clear H; have H := H1; clear H1; obtain rfl := Option.some.inj H
                               go_wp2_with (first | ((with_reducible refine gate_callee (f := 81) rfl ?_); refine goesL_ (some 68) rfl rfl Tryd.func81 (by kernel_rfl) rfl #[.int .i32 a0, .int .i32 8194, .int .i32 8202] rfl (by (try simp only [List.map_toArray, List.map_cons, List.map_nil]); first | done | rfl | (simp only [List.length_drop, List.length_take]; rfl)) ?_; (with_reducible refine (kind_in.calls a0 8194 8202 false _ A62.out).mono ?_); rintro e w' ⟨rfl, ⟨nd, rfl⟩⟩; refine ⟨_, rfl, ?_⟩) | ((with_reducible refine gate_callee (f := 81) rfl ?_); refine goesL_ (some 71) rfl rfl Tryd.func81 (by kernel_rfl) rfl #[.int .i32 a0, .int .i32 33, .int .i32 126] rfl (by (try simp only [List.map_toArray, List.map_cons, List.map_nil]); first | done | rfl | (simp only [List.length_drop, List.length_take]; rfl)) ?_; (with_reducible refine (kind_in.calls a0 33 126 false _ A64.out).mono ?_); rintro e w' ⟨rfl, ⟨nd, rfl⟩⟩; refine ⟨_, rfl, ?_⟩) | ((with_reducible refine gate_callee (f := 81) rfl ?_); refine goesL_ (some 73) rfl rfl Tryd.func81 (by kernel_rfl) rfl #[.int .i32 a0, .int .i32 161, .int .i32 191] rfl (by (try simp only [List.map_toArray, List.map_cons, List.map_nil]); first | done | rfl | (simp only [List.length_drop, List.length_take]; rfl)) ?_; (with_reducible refine (kind_in.calls a0 161 191 false _ A66.out).mono ?_); rintro e w' ⟨rfl, ⟨nd, rfl⟩⟩; refine ⟨_, rfl, ?_⟩) | ((with_reducible refine gate_callee (f := 81) rfl ?_); refine goesL_ (some 75) rfl rfl Tryd.func81 (by kernel_rfl) rfl #[.int .i32 a0, .int .i32 8208, .int .i32 8231] rfl (by (try simp only [List.map_toArray, List.map_cons, List.map_nil]); first | done | rfl | (simp only [List.length_drop, List.length_take]; rfl)) ?_; (with_reducible refine (kind_in.calls a0 8208 8231 true _ A68.out).mono ?_); rintro e w' ⟨rfl, ⟨nd, rfl⟩⟩; refine ⟨_, rfl, ?_⟩))
                               go_ret; exact ⟨by first | rfl | (simp; done) | (simp [*]; done), by repeat (first | exact Drawn0.refl _ | apply Drawn0.step)⟩
                              ·
                               replace c69 := Bool.eq_false_iff.mpr c69; subst c69; have H1 := H; rw [if_neg (show ¬ (false = true) by decide)] at H1; clear H; have H := H1; clear H1; replace H := Option.bind_eq_some_iff.mp H; obtain ⟨t64118, A700, H⟩ := H; (try dsimp only at H); have A70 := Aside0.mk A700; clear A700
                               by_cases c71 : t64118 = true
                               ·
                                subst c71; have H1 := H; rw [if_pos rfl] at H1; clear H; have H := H1; clear H1; obtain rfl := Option.some.inj H
                                go_wp2_with (first | ((with_reducible refine gate_callee (f := 81) rfl ?_); refine goesL_ (some 68) rfl rfl Tryd.func81 (by kernel_rfl) rfl #[.int .i32 a0, .int .i32 8194, .int .i32 8202] rfl (by (try simp only [List.map_toArray, List.map_cons, List.map_nil]); first | done | rfl | (simp only [List.length_drop, List.length_take]; rfl)) ?_; (with_reducible refine (kind_in.calls a0 8194 8202 false _ A62.out).mono ?_); rintro e w' ⟨rfl, ⟨nd, rfl⟩⟩; refine ⟨_, rfl, ?_⟩) | ((with_reducible refine gate_callee (f := 81) rfl ?_); refine goesL_ (some 71) rfl rfl Tryd.func81 (by kernel_rfl) rfl #[.int .i32 a0, .int .i32 33, .int .i32 126] rfl (by (try simp only [List.map_toArray, List.map_cons, List.map_nil]); first | done | rfl | (simp only [List.length_drop, List.length_take]; rfl)) ?_; (with_reducible refine (kind_in.calls a0 33 126 false _ A64.out).mono ?_); rintro e w' ⟨rfl, ⟨nd, rfl⟩⟩; refine ⟨_, rfl, ?_⟩) | ((with_reducible refine gate_callee (f := 81) rfl ?_); refine goesL_ (some 73) rfl rfl Tryd.func81 (by kernel_rfl) rfl #[.int .i32 a0, .int .i32 161, .int .i32 191] rfl (by (try simp only [List.map_toArray, List.map_cons, List.map_nil]); first | done | rfl | (simp only [List.length_drop, List.length_take]; rfl)) ?_; (with_reducible refine (kind_in.calls a0 161 191 false _ A66.out).mono ?_); rintro e w' ⟨rfl, ⟨nd, rfl⟩⟩; refine ⟨_, rfl, ?_⟩) | ((with_reducible refine gate_callee (f := 81) rfl ?_); refine goesL_ (some 75) rfl rfl Tryd.func81 (by kernel_rfl) rfl #[.int .i32 a0, .int .i32 8208, .int .i32 8231] rfl (by (try simp only [List.map_toArray, List.map_cons, List.map_nil]); first | done | rfl | (simp only [List.length_drop, List.length_take]; rfl)) ?_; (with_reducible refine (kind_in.calls a0 8208 8231 false _ A68.out).mono ?_); rintro e w' ⟨rfl, ⟨nd, rfl⟩⟩; refine ⟨_, rfl, ?_⟩) | ((with_reducible refine gate_callee (f := 81) rfl ?_); refine goesL_ (some 77) rfl rfl Tryd.func81 (by kernel_rfl) rfl #[.int .i32 a0, .int .i32 8240, .int .i32 8286] rfl (by (try simp only [List.map_toArray, List.map_cons, List.map_nil]); first | done | rfl | (simp only [List.length_drop, List.length_take]; rfl)) ?_; (with_reducible refine (kind_in.calls a0 8240 8286 true _ A70.out).mono ?_); rintro e w' ⟨rfl, ⟨nd, rfl⟩⟩; refine ⟨_, rfl, ?_⟩))
                                go_ret; exact ⟨by first | rfl | (simp; done) | (simp [*]; done), by repeat (first | exact Drawn0.refl _ | apply Drawn0.step)⟩
                               ·
                                replace c71 := Bool.eq_false_iff.mpr c71; subst c71; have H1 := H; rw [if_neg (show ¬ (false = true) by decide)] at H1; clear H; have H := H1; clear H1; obtain rfl := Option.some.inj H
                                go_wp2_with (first | ((with_reducible refine gate_callee (f := 81) rfl ?_); refine goesL_ (some 68) rfl rfl Tryd.func81 (by kernel_rfl) rfl #[.int .i32 a0, .int .i32 8194, .int .i32 8202] rfl (by (try simp only [List.map_toArray, List.map_cons, List.map_nil]); first | done | rfl | (simp only [List.length_drop, List.length_take]; rfl)) ?_; (with_reducible refine (kind_in.calls a0 8194 8202 false _ A62.out).mono ?_); rintro e w' ⟨rfl, ⟨nd, rfl⟩⟩; refine ⟨_, rfl, ?_⟩) | ((with_reducible refine gate_callee (f := 81) rfl ?_); refine goesL_ (some 71) rfl rfl Tryd.func81 (by kernel_rfl) rfl #[.int .i32 a0, .int .i32 33, .int .i32 126] rfl (by (try simp only [List.map_toArray, List.map_cons, List.map_nil]); first | done | rfl | (simp only [List.length_drop, List.length_take]; rfl)) ?_; (with_reducible refine (kind_in.calls a0 33 126 false _ A64.out).mono ?_); rintro e w' ⟨rfl, ⟨nd, rfl⟩⟩; refine ⟨_, rfl, ?_⟩) | ((with_reducible refine gate_callee (f := 81) rfl ?_); refine goesL_ (some 73) rfl rfl Tryd.func81 (by kernel_rfl) rfl #[.int .i32 a0, .int .i32 161, .int .i32 191] rfl (by (try simp only [List.map_toArray, List.map_cons, List.map_nil]); first | done | rfl | (simp only [List.length_drop, List.length_take]; rfl)) ?_; (with_reducible refine (kind_in.calls a0 161 191 false _ A66.out).mono ?_); rintro e w' ⟨rfl, ⟨nd, rfl⟩⟩; refine ⟨_, rfl, ?_⟩) | ((with_reducible refine gate_callee (f := 81) rfl ?_); refine goesL_ (some 75) rfl rfl Tryd.func81 (by kernel_rfl) rfl #[.int .i32 a0, .int .i32 8208, .int .i32 8231] rfl (by (try simp only [List.map_toArray, List.map_cons, List.map_nil]); first | done | rfl | (simp only [List.length_drop, List.length_take]; rfl)) ?_; (with_reducible refine (kind_in.calls a0 8208 8231 false _ A68.out).mono ?_); rintro e w' ⟨rfl, ⟨nd, rfl⟩⟩; refine ⟨_, rfl, ?_⟩) | ((with_reducible refine gate_callee (f := 81) rfl ?_); refine goesL_ (some 77) rfl rfl Tryd.func81 (by kernel_rfl) rfl #[.int .i32 a0, .int .i32 8240, .int .i32 8286] rfl (by (try simp only [List.map_toArray, List.map_cons, List.map_nil]); first | done | rfl | (simp only [List.length_drop, List.length_take]; rfl)) ?_; (with_reducible refine (kind_in.calls a0 8240 8286 false _ A70.out).mono ?_); rintro e w' ⟨rfl, ⟨nd, rfl⟩⟩; refine ⟨_, rfl, ?_⟩))
                                go_ret; exact ⟨by first | rfl | (simp; done) | (simp [*]; done), by repeat (first | exact Drawn0.refl _ | apply Drawn0.step)⟩
end Go.Proofs.YtcpbalnbgmjhjaaDoor.G
