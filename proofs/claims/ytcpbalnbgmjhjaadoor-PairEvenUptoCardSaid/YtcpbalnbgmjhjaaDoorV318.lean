import Derived.Test.YtcpbalnbgmjhjaaDoorV33
import Derived.Test.YtcpbalnbgmjhjaaDoorV35
import Derived.Test.YtcpbalnbgmjhjaaDoorV312
import Derived.Test.YtcpbalnbgmjhjaaDoorV313
import Derived.Test.YtcpbalnbgmjhjaaDoorV315
import Derived.Test.YtcpbalnbgmjhjaaDoorV317
namespace Go.Proofs.YtcpbalnbgmjhjaaDoor.G
open Go.RowKit Go.Proofs.YtcpbalnbgmjhjaaDoor.Mi Go.Proofs.YtcpbalnbgmjhjaaDoorW.PrintWords Go.Proofs.YtcpbalnbgmjhjaaDoorW.PrintLast Go.Proofs.YtcpbalnbgmjhjaaDoorW.PrintMore
attribute [local go_sem] min2_int min_two min_three   -- for this text's walks alone
set_option linter.unusedVariables false
set_option linter.unusedSimpArgs false
/-! ### siglumref09_Little: function 40 -/
def siglumref09_Little.l0 : Nat → List Int → Int → Int → Int → Option (Bool)
 | 0, _, _, _, _ => none
 | k + 1, x0, x3, x4, x5 => if x5 < (x0.length : Int) then (if x3 > 0 then (if 0 ≤ x5 then (if x3 = 0 then (none) else (if (rd x0 x5) > (wrap64 (Int.tdiv x4 x3)) then (some false) else (siglumref09_Little.l0 k x0 (wrap64 (x3 + (rd x0 x5))) (wrap64 (x4 - (wrap64 (x3 * (rd x0 x5))))) (wrap64 (x5 + 1))))) else (none)) else (if 0 ≤ x5 then (siglumref09_Little.l0 k x0 (wrap64 (x3 + (rd x0 x5))) (wrap64 (x4 - (wrap64 (x3 * (rd x0 x5))))) (wrap64 (x5 + 1))) else (none))) else (some true)
def siglumref09_Little.f (k : Nat) (l0 : List Int) : Option (Bool) := siglumref09_Little.l0 k l0 0 4000000 0
set_option maxHeartbeats 8000000 in
set_option maxRecDepth 100000 in
theorem siglumref09_Little.calls (k : Nat) (A0 : Option Addr) (c0 : Nat) (l0 : List Int) (r : Bool) (w : World) (hr0 : Kd.C (Kd.int .i64) w A0 l0.length l0) (hc0 : l0.length ≤ c0) (h : siglumref09_Little.f k l0 = some r) :
 Calls Tryd.prog 40 #[.slice A0 l0.length c0] w fun e w' => e = .returned (.bool r) ∧ Drawn0 w w' := by
 have HR0 := Aside0.mk hr0; have HC0 := Aside0.mk hc0; clear hr0 hc0; have H : (siglumref09_Little.l0 k l0 0 4000000 0) = some r := h; clear h; have H' := Aside0.mk H; clear H
 go_enter Tryd.func40, Tryd.ntmps40
 go_wp2
 repeat (go_quiet (fail); try go_wp2)
 go_loopg [3, 4, 5] k (fun kq v3 v4 v5 w' => ∃ (x3_1 : Int) (x4_1 : Int) (x5_1 : Int), v3 = .int .i64 x3_1 ∧ v4 = .int .i64 x4_1 ∧ v5 = .int .i64 x5_1 ∧ Aside0 (siglumref09_Little.l0 kq l0 x3_1 x4_1 x5_1 = some r) ∧ Aside0 (kq ≤ k) ∧ Drawn0 w w')
 case atStart => exact ⟨(0), (4000000), (0), (by first | rfl | (simp; done) | (simp [*]; done)), (by first | rfl | (simp; done) | (simp [*]; done)), (by first | rfl | (simp; done) | (simp [*]; done)), H', ⟨Nat.le_refl _⟩, by repeat (first | exact Drawn0.refl _ | apply Drawn0.step)⟩
 case round =>
  clear H'; obtain ⟨x3_1, x4_1, x5_1, rfl, rfl, rfl, HA, HK1, ⟨m1, rfl⟩⟩ := hrel
  cases gk with
  | zero => exact absurd HA.out (by simp [siglumref09_Little.l0])
  | succ k1 =>
   have H := HA.out; clear HA; simp only [siglumref09_Little.l0] at H
   by_cases c2 : x5_1 < (l0.length : Int)
   ·
    rw [if_pos c2] at H; have c2b0 : decide (x5_1 < (l0.length : Int)) = true := decide_eq_true c2; clear c2
    by_cases c3 : x3_1 > 0
    ·
     rw [if_pos c3] at H; have c3b0 : decide (0 < x3_1) = true := decide_eq_true c3; clear c3
     by_cases c4 : 0 ≤ x5_1
     rotate_left
     · rw [if_neg c4] at H; exact absurd H (by simp)
     rw [if_pos c4] at H; have c4b0 : decide (0 ≤ x5_1) = true := decide_eq_true c4; clear c4
     by_cases c5 : x3_1 = 0
     ·
      rw [if_pos c5] at H; exact absurd H (by simp)
     ·
      rw [if_neg c5] at H; have c5b0 : (x3_1 == 0) = false := beq_eq_false_iff_ne.mpr c5; have c5b1 : (x3_1 != 0) = true := bne_iff_ne.mpr c5
      by_cases c6 : (rd l0 x5_1) > (wrap64 (Int.tdiv x4_1 x3_1))
      ·
       rw [if_pos c6] at H; have c6b0 : decide ((wrap64 (Int.tdiv x4_1 x3_1)) < (rd l0 x5_1)) = true := decide_eq_true c6; clear c6; obtain rfl := Option.some.inj H; have p40101 : 0 ≤ (x5_1 : Int) := oda; have q40101 : x5_1 < (l0.length : Int) := oda; obtain ⟨ad40101, e40101, hx40101_0⟩ := Kd.at_int HR0.out x5_1 p40101 q40101; cases e40101; replace p40101 := eq_true p40101; replace q40101 := eq_true q40101; go_wp2
       repeat (go_quiet (fail); try go_wp2)
       go_ret; exact ⟨by first | rfl | (simp; done) | (simp [*]; done), by repeat (first | exact Drawn0.refl _ | apply Drawn0.step)⟩
      ·
       rw [if_neg c6] at H; have c6b0 : decide ((wrap64 (Int.tdiv x4_1 x3_1)) < (rd l0 x5_1)) = false := decide_eq_false c6; clear c6; have H' := Aside0.mk H; clear H; have p40101 : 0 ≤ (x5_1 : Int) := oda; have q40101 : x5_1 < (l0.length : Int) := oda; obtain ⟨ad40101, e40101, hx40101_0⟩ := Kd.at_int HR0.out x5_1 p40101 q40101; cases e40101; replace p40101 := eq_true p40101; replace q40101 := eq_true q40101; have p40102 : 0 ≤ (x5_1 : Int) := oda; have q40102 : x5_1 < (l0.length : Int) := oda; obtain ⟨ad40102, e40102, hx40102_0⟩ := Kd.at_int HR0.out x5_1 p40102 q40102; obtain rfl : ad40101 = ad40102 := (by injection e40102); replace p40102 := eq_true p40102; replace q40102 := eq_true q40102; have p40103 : 0 ≤ (x5_1 : Int) := oda; have q40103 : x5_1 < (l0.length : Int) := oda; obtain ⟨ad40103, e40103, hx40103_0⟩ := Kd.at_int HR0.out x5_1 p40103 q40103; obtain rfl : ad40101 = ad40103 := (by injection e40103); replace p40103 := eq_true p40103; replace q40103 := eq_true q40103; go_wp2
       repeat (go_quiet (fail); try go_wp2)
       go_roundg k1
       case measure => have := HK1.out; omega
       case rel => exact ⟨(wrap64 (x3_1 + (rd l0 x5_1))), (wrap64 (x4_1 - (wrap64 (x3_1 * (rd l0 x5_1))))), (wrap64 (x5_1 + 1)), (by first | rfl | (simp; done) | (simp [*]; done)), (by first | rfl | (simp; done) | (simp [*]; done)), (by first | rfl | (simp; done) | (simp [*]; done)), H', ⟨by have := HK1.out; omega⟩, by repeat (first | exact Drawn0.refl _ | apply Drawn0.step)⟩
    ·
     rw [if_neg c3] at H; have c3b0 : decide (0 < x3_1) = false := decide_eq_false c3; clear c3
     by_cases c7 : 0 ≤ x5_1
     rotate_left
     · rw [if_neg c7] at H; exact absurd H (by simp)
     rw [if_pos c7] at H; have c7b0 : decide (0 ≤ x5_1) = true := decide_eq_true c7; clear c7; have H' := Aside0.mk H; clear H; have p40104 : 0 ≤ (x5_1 : Int) := oda; have q40104 : x5_1 < (l0.length : Int) := oda; obtain ⟨ad40104, e40104, hx40104_0⟩ := Kd.at_int HR0.out x5_1 p40104 q40104; cases e40104; replace p40104 := eq_true p40104; replace q40104 := eq_true q40104; have p40105 : 0 ≤ (x5_1 : Int) := oda; have q40105 : x5_1 < (l0.length : Int) := oda; obtain ⟨ad40105, e40105, hx40105_0⟩ := Kd.at_int HR0.out x5_1 p40105 q40105; obtain rfl : ad40104 = ad40105 := (by injection e40105); replace p40105 := eq_true p40105; replace q40105 := eq_true q40105; go_wp2
     repeat (go_quiet (fail); try go_wp2)
     go_roundg k1
     case measure => have := HK1.out; omega
     case rel => exact ⟨(wrap64 (x3_1 + (rd l0 x5_1))), (wrap64 (x4_1 - (wrap64 (x3_1 * (rd l0 x5_1))))), (wrap64 (x5_1 + 1)), (by first | rfl | (simp; done) | (simp [*]; done)), (by first | rfl | (simp; done) | (simp [*]; done)), (by first | rfl | (simp; done) | (simp [*]; done)), H', ⟨by have := HK1.out; omega⟩, by repeat (first | exact Drawn0.refl _ | apply Drawn0.step)⟩
   ·
    rw [if_neg c2] at H; have c2b0 : decide (x5_1 < (l0.length : Int)) = false := decide_eq_false c2; clear c2; obtain rfl := Option.some.inj H; go_wp2
    repeat (go_quiet (fail); try go_wp2)
    go_ret; exact ⟨by first | rfl | (simp; done) | (simp [*]; done), by repeat (first | exact Drawn0.refl _ | apply Drawn0.step)⟩
end Go.Proofs.YtcpbalnbgmjhjaaDoor.G
namespace Go.Proofs.YtcpbalnbgmjhjaaDoor.G
open Go.RowKit Go.Proofs.YtcpbalnbgmjhjaaDoor.Mi Go.Proofs.YtcpbalnbgmjhjaaDoorW.PrintWords Go.Proofs.YtcpbalnbgmjhjaaDoorW.PrintLast Go.Proofs.YtcpbalnbgmjhjaaDoorW.PrintMore
attribute [local go_sem] min2_int min_two min_three   -- for this text's walks alone
set_option linter.unusedVariables false
set_option linter.unusedSimpArgs false
/-! ### siglumref09_Weight: function 41 -/
def siglumref09_Weight.l0 : Nat → List ByteArray → Int → Int → Option (Int)
 | 0, _, _, _ => none
 | k + 1, x0, x3, x4 => if x4 < (x0.length : Int) then (if 0 ≤ x4 then (siglumref09_Weight.l0 k x0 (wrap64 (x3 + ((rdOf ByteArray.empty x0 x4).size : Int))) (wrap64 (x4 + 1))) else (none)) else (some x3)
def siglumref09_Weight.f (k : Nat) (l0 : List ByteArray) : Option (Int) := siglumref09_Weight.l0 k l0 (l0.length : Int) 0
set_option maxHeartbeats 8000000 in
set_option maxRecDepth 100000 in
theorem siglumref09_Weight.calls (k : Nat) (A0 : Option Addr) (c0 : Nat) (l0 : List ByteArray) (r : Int) (w : World) (hr0 : Kd.C Kd.string w A0 l0.length l0) (hc0 : l0.length ≤ c0) (h : siglumref09_Weight.f k l0 = some r) :
 Calls Tryd.prog 41 #[.slice A0 l0.length c0] w fun e w' => e = .returned (.int .i64 r) ∧ Drawn0 w w' := by
 have HR0 := Aside0.mk hr0; have HC0 := Aside0.mk hc0; clear hr0 hc0; have H : (siglumref09_Weight.l0 k l0 (l0.length : Int) 0) = some r := h; clear h; have H' := Aside0.mk H; clear H
 go_enter Tryd.func41, Tryd.ntmps41
 go_wp2
 go_loopg [3, 4] k (fun kq v3 v4 w' => ∃ (x3_1 : Int) (x4_1 : Int), v3 = .int .i64 x3_1 ∧ v4 = .int .i64 x4_1 ∧ Aside0 (siglumref09_Weight.l0 kq l0 x3_1 x4_1 = some r) ∧ Aside0 (kq ≤ k) ∧ Drawn0 w w')
 case atStart => exact ⟨((l0.length : Int)), (0), (by first | rfl | (simp; done) | (simp [*]; done)), (by first | rfl | (simp; done) | (simp [*]; done)), H', ⟨Nat.le_refl _⟩, by repeat (first | exact Drawn0.refl _ | apply Drawn0.step)⟩
 case round =>
  clear H'; obtain ⟨x3_1, x4_1, rfl, rfl, HA, HK1, ⟨m1, rfl⟩⟩ := hrel
  cases gk with
  | zero => exact absurd HA.out (by simp [siglumref09_Weight.l0])
  | succ k1 =>
   have H := HA.out; clear HA; simp only [siglumref09_Weight.l0] at H
   by_cases c2 : x4_1 < (l0.length : Int)
   ·
    rw [if_pos c2] at H; have c2b0 : decide (x4_1 < (l0.length : Int)) = true := decide_eq_true c2; clear c2
    by_cases c3 : 0 ≤ x4_1
    rotate_left
    · rw [if_neg c3] at H; exact absurd H (by simp)
    rw [if_pos c3] at H; have c3b0 : decide (0 ≤ x4_1) = true := decide_eq_true c3; clear c3; have H' := Aside0.mk H; clear H; have p41101 : 0 ≤ (x4_1 : Int) := oda; have q41101 : x4_1 < (l0.length : Int) := oda; obtain ⟨ad41101, e41101, hx41101_0⟩ := Kd.at_string HR0.out x4_1 p41101 q41101; cases e41101; replace p41101 := eq_true p41101; replace q41101 := eq_true q41101; go_wp2
    go_roundg k1
    case measure => have := HK1.out; omega
    case rel => exact ⟨(wrap64 (x3_1 + ((rdOf ByteArray.empty l0 x4_1).size : Int))), (wrap64 (x4_1 + 1)), (by first | rfl | (simp; done) | (simp [*]; done)), (by first | rfl | (simp; done) | (simp [*]; done)), H', ⟨by have := HK1.out; omega⟩, by repeat (first | exact Drawn0.refl _ | apply Drawn0.step)⟩
   ·
    rw [if_neg c2] at H; have c2b0 : decide (x4_1 < (l0.length : Int)) = false := decide_eq_false c2; clear c2; obtain rfl := Option.some.inj H; go_wp2; go_ret; exact ⟨by first | rfl | (simp; done) | (simp [*]; done), by repeat (first | exact Drawn0.refl _ | apply Drawn0.step)⟩
end Go.Proofs.YtcpbalnbgmjhjaaDoor.G
namespace Go.Proofs.YtcpbalnbgmjhjaaDoor.G
open Go.RowKit Go.Proofs.YtcpbalnbgmjhjaaDoor.Mi Go.Proofs.YtcpbalnbgmjhjaaDoorW.PrintWords Go.Proofs.YtcpbalnbgmjhjaaDoorW.PrintLast Go.Proofs.YtcpbalnbgmjhjaaDoorW.PrintMore
attribute [local go_sem] min2_int min_two min_three   -- for this text's walks alone
set_option linter.unusedVariables false
set_option linter.unusedSimpArgs false
/-! ### siglumref09_Light: function 21 -/
def siglumref09_Light.f (k : Nat) (l0 : List ByteArray) (l1 : List ByteArray) : Option (Bool) := if (l0.length : Int) > 1024 then (some true) else (if (l1.length : Int) > 1024 then (some true) else ((siglumref09_Weight.f k l0).bind fun t21101 => ((siglumref09_Weight.f k l1).bind fun t21102 => ((siglumref09_Little.f k (([t21101, t21102] : List Int))).bind fun t21106 => (some t21106)))))
set_option maxHeartbeats 8000000 in
set_option maxRecDepth 100000 in
theorem siglumref09_Light.calls (k : Nat) (A0 : Option Addr) (c0 : Nat) (l0 : List ByteArray) (A1 : Option Addr) (c1 : Nat) (l1 : List ByteArray) (r : Bool) (w : World) (hr0 : Kd.C Kd.string w A0 l0.length l0) (hc0 : l0.length ≤ c0) (hr1 : Kd.C Kd.string w A1 l1.length l1) (hc1 : l1.length ≤ c1) (h : siglumref09_Light.f k l0 l1 = some r) :
 Calls Tryd.prog 21 #[.slice A0 l0.length c0, .slice A1 l1.length c1] w fun e w' => e = .returned (.bool r) ∧ Below w.heap.size w w' := by
 have HR0 := Aside0.mk hr0; have HC0 := Aside0.mk hc0; clear hr0 hc0; have HR1 := Aside0.mk hr1; have HC1 := Aside0.mk hc1; clear hr1 hc1; have HB := Aside0.mk (Below.refl w.heap.size w); have H : (if (l0.length : Int) > 1024 then (some true) else (if (l1.length : Int) > 1024 then (some true) else ((siglumref09_Weight.f k l0).bind fun t21101 => ((siglumref09_Weight.f k l1).bind fun t21102 => ((siglumref09_Little.f k (([t21101, t21102] : List Int))).bind fun t21106 => (some t21106)))))) = some r := h; clear h
 by_cases c3 : (l0.length : Int) > 1024
 ·
  rw [if_pos c3] at H; have c3b0 : decide (1024 < (l0.length : Int)) = true := decide_eq_true c3; have c3b1 : decide (1024 < l0.length) = true := decide_eq_true (by omega); clear c3; obtain rfl := Option.some.inj H
  go_enter Tryd.func21, Tryd.ntmps21
  go_wp2; go_ret; exact ⟨by first | rfl | (simp [errW_none, errW_some] <;> rfl) | (simp [*, errW_none, errW_some] <;> rfl), by exact bel⟩
 ·
  rw [if_neg c3] at H; have c3b0 : decide (1024 < (l0.length : Int)) = false := decide_eq_false c3; have c3b1 : decide (1024 < l0.length) = false := decide_eq_false (by omega); clear c3
  by_cases c4 : (l1.length : Int) > 1024
  ·
   rw [if_pos c4] at H; have c4b0 : decide (1024 < (l1.length : Int)) = true := decide_eq_true c4; have c4b1 : decide (1024 < l1.length) = true := decide_eq_true (by omega); clear c4; obtain rfl := Option.some.inj H
   go_enter Tryd.func21, Tryd.ntmps21
   go_wp2; go_ret; exact ⟨by first | rfl | (simp [errW_none, errW_some] <;> rfl) | (simp [*, errW_none, errW_some] <;> rfl), by exact bel⟩
  ·
   rw [if_neg c4] at H; have c4b0 : decide (1024 < (l1.length : Int)) = false := decide_eq_false c4; have c4b1 : decide (1024 < l1.length) = false := decide_eq_false (by omega); clear c4; replace H := Option.bind_eq_some_iff.mp H; obtain ⟨t21101, A50, H⟩ := H; (try dsimp only at H); have A5 := Aside0.mk A50; clear A50; replace H := Option.bind_eq_some_iff.mp H; obtain ⟨t21102, A60, H⟩ := H; (try dsimp only at H); have A6 := Aside0.mk A60; clear A60
   obtain ⟨y21103, hy21103⟩ : ∃ y_ : List Int, y_ = (([t21101, t21102] : List Int)) := ⟨_, rfl⟩
   (try rw [← hy21103] at H); (try rw [Option.bind_some] at H); (try dsimp only at H); have Ny21103 := Aside0.mk hy21103; clear hy21103; replace H := Option.bind_eq_some_iff.mp H; obtain ⟨t21106, A70, H⟩ := H; (try dsimp only at H); have A7 := Aside0.mk A70; clear A70; obtain rfl := Option.some.inj H
   go_enter Tryd.func21, Tryd.ntmps21
   go_wp2_with (first | (go_at_call 41; (with_reducible refine (siglumref09_Weight.calls k _ _ l0 t21101 _ ?side1 ?side2 A5.out).mono ?_); (case side1 => repeat (first | exact HR0.out | (with_reducible refine Kd.C_alloc ?_ _) | (with_reducible refine Kd.C_drewN ?_ _) | (with_reducible refine Kd.C_drew ?_))); (case side2 => exact HC0.out); rintro e w' ⟨rfl, ⟨nd, rfl⟩⟩) | (go_at_call 41; (with_reducible refine (siglumref09_Weight.calls k _ _ l1 t21102 _ ?side1 ?side2 A6.out).mono ?_); (case side1 => repeat (first | exact HR1.out | (with_reducible refine Kd.C_alloc ?_ _) | (with_reducible refine Kd.C_drewN ?_ _) | (with_reducible refine Kd.C_drew ?_))); (case side2 => exact HC1.out); rintro e w' ⟨rfl, ⟨nd, rfl⟩⟩) | ((with_reducible refine gate_dst (N := 18) rfl ?_); (try (refine gate_guard (by rfl) ?_; dsimp only)); refine Kd.R_lit (Kd.int .i64) _ 3 ?hg (N := 18) ?hd (xs := ([t21101, t21102] : List Int)) (inner := [.int .i64 t21101, .int .i64 t21102]) (ok := fun _ => True) (okp := fun _ => True) ?hr ?hp (fun _ hk => hk) trivial (Below.refl _ _) (Nat.le_refl _) (by simp) ?_; (case hd => rfl); (case hg => rfl); (case hr => first | (go_simp; done) | (go_simp; rfl)); (case hp => exact (Reps.one (show Kd.M (Kd.int .i64) _ _ _ t21101 [.int .i64 t21101] from rfl) (Reps.one (show Kd.M (Kd.int .i64) _ _ _ t21102 [.int .i64 t21102] from rfl) (Reps.none _ _)))); intro v21104 w8 ho9 hb hg_ hnew_; clear hg_ hnew_; (first | rw [← Ny21103.out] at ho9 | (simp only [Int.reduceToNat] at ho9; rw [← Ny21103.out] at ho9)); have HO21105 := Aside0.mk (Kd.R_lower ho9 (below_size bel)); replace HB := Aside0.mk (below_step bel hb); clear hb ho9; obtain ⟨Ao10, co10, eo10⟩ := Kd.R_slice HO21105.out; subst eo10) | (go_at_call 40; (with_reducible refine (siglumref09_Little.calls k _ _ y21103 t21106 _ ?side1 ?side2 A7.out).mono ?_); (case side1 => repeat (first | exact (Kd.R_reads' HO21105.out).2.2 | (with_reducible refine Kd.C_alloc ?_ _) | (with_reducible refine Kd.C_drewN ?_ _) | (with_reducible refine Kd.C_drew ?_))); (case side2 => exact (Kd.R_reads' HO21105.out).2.1); rintro e w' ⟨rfl, ⟨nd, rfl⟩⟩))
   go_ret; exact ⟨by first | rfl | (simp [errW_none, errW_some] <;> rfl) | (simp [*, errW_none, errW_some] <;> rfl), by exact bel⟩
end Go.Proofs.YtcpbalnbgmjhjaaDoor.G
namespace Go.Proofs.YtcpbalnbgmjhjaaDoor.G
open Go.RowKit Go.Proofs.YtcpbalnbgmjhjaaDoor.Mi Go.Proofs.YtcpbalnbgmjhjaaDoorW.PrintWords Go.Proofs.YtcpbalnbgmjhjaaDoorW.PrintLast Go.Proofs.YtcpbalnbgmjhjaaDoorW.PrintMore
attribute [local go_sem] min2_int min_two min_three   -- for this text's walks alone
set_option linter.unusedVariables false
set_option linter.unusedSimpArgs false
attribute [local go_sem high] eqA61
/-! ### siglumlaw10_PairEven: function 12 -/
mutual
def siglumlaw10_PairEven.j0 : Nat → List ByteArray → List ByteArray → Bool → Int → Int → Int → Int → Option (Bool)
 | 0, _, _, _, _, _, _, _ => none
 | k + 1, x0, x1, x28, x12102000, x12102001, x12102002, x12102003 => if x28 = true then (some true) else ((pair_Align.f k x0 x1 x12102000 x12102001 x12102002 x12102003).bind fun bt12105 => ((pair_Align.f k x1 x0 x12102000 x12102001 x12102002 x12102003).bind fun bt12110 => (if bt12105.2.2 = 0 then ((pair_Align.f k x0 x0 x12102000 x12102001 x12102002 x12102003).bind fun bt12115 => (if bt12115.2.2 = 0 then (if bt12115.2.1 = 0 then (siglumlaw10_PairEven.j1 k x0 x1 bt12105.1 bt12105.2.1 bt12110.1 bt12110.2.1 bt12110.2.2 bt12115.1 ((bt12115.1.length : Int) != (x0.length : Int))) else (siglumlaw10_PairEven.j1 k x0 x1 bt12105.1 bt12105.2.1 bt12110.1 bt12110.2.1 bt12110.2.2 bt12115.1 true)) else (siglumlaw10_PairEven.j1 k x0 x1 bt12105.1 bt12105.2.1 bt12110.1 bt12110.2.1 bt12110.2.2 bt12115.1 true))) else (some (bt12110.2.2 == bt12105.2.2)))))
def siglumlaw10_PairEven.j1 : Nat → List ByteArray → List ByteArray → List (S61) → Int → List (S61) → Int → Int → List (S61) → Bool → Option (Bool)
 | 0, _, _, _, _, _, _, _, _, _ => none
 | k + 1, x0, x1, x7, x8, x10, x11, x12, x13, x70 => if x70 = true then (some false) else (siglumlaw10_PairEven.l0 k x0 x1 x7 x8 x10 x11 x12 x13 (x13.length : Int) 0)
def siglumlaw10_PairEven.l0 : Nat → List ByteArray → List ByteArray → List (S61) → Int → List (S61) → Int → Int → List (S61) → Int → Int → Option (Bool)
 | 0, _, _, _, _, _, _, _, _, _, _ => none
 | k + 1, x0, x1, x7, x8, x10, x11, x12, x13, x72, x73 => if x73 < x72 then (if 0 ≤ x73 then (if x73 < (x13.length : Int) then (if (!(((rd_T61 x13 x73).f0) == x73) || (!(((rd_T61 x13 x73).f1) == x73))) = true then (some false) else (siglumlaw10_PairEven.l0 k x0 x1 x7 x8 x10 x11 x12 x13 x72 (wrap64 (x73 + 1)))) else (none)) else (none)) else (if x12 = 0 then (if x8 = x11 then ((pair_Right.f k (x0.length : Int) (x1.length : Int) x7).bind fun t12121 => (if t12121 = true then ((pair_Right.f k (x1.length : Int) (x0.length : Int) x10).bind fun t12122 => (some t12122)) else (some false))) else (some false)) else (some false))
end
def siglumlaw10_PairEven.f (k : Nat) (l0 : List ByteArray) (l1 : List ByteArray) (a2_0 : Int) (a2_1 : Int) (a2_2 : Int) (a2_3 : Int) : Option (Bool) := (siglumlaw10_awake.f k).bind fun t12102 => (if t12102 = true then ((siglumref09_Light.f k l0 l1).bind fun t12103 => (if t12103 = true then ((siglumref09_Light.f k l0 l0).bind fun t12104 => (siglumlaw10_PairEven.j0 k l0 l1 (!t12104) a2_0 a2_1 a2_2 a2_3)) else (siglumlaw10_PairEven.j0 k l0 l1 true a2_0 a2_1 a2_2 a2_3))) else (some false))
set_option maxHeartbeats 8000000 in
set_option maxRecDepth 100000 in
theorem siglumlaw10_PairEven.calls (k : Nat) (A0 : Option Addr) (c0 : Nat) (l0 : List ByteArray) (A1 : Option Addr) (c1 : Nat) (l1 : List ByteArray) (a2_0 : Int) (a2_1 : Int) (a2_2 : Int) (a2_3 : Int) (r : Bool) (w : World) (hr0 : Kd.C Kd.string w A0 l0.length l0) (hc0 : l0.length ≤ c0) (hr1 : Kd.C Kd.string w A1 l1.length l1) (hc1 : l1.length ≤ c1) (hT : Utf.Tabs2 w) (h : siglumlaw10_PairEven.f k l0 l1 a2_0 a2_1 a2_2 a2_3 = some r) :
 Calls Tryd.prog 12 #[.slice A0 l0.length c0, .slice A1 l1.length c1, .agg #[.int .i64 a2_0, .int .i64 a2_1, .int .i64 a2_2, .int .i64 a2_3]] w fun e w' => e = .returned (.bool r) ∧ Below w.heap.size w w' := by
 have hu23 := Tryd.underlying23; have hu61 := Tryd.underlying61; have HR0 := Aside0.mk hr0; have HC0 := Aside0.mk hc0; clear hr0 hc0; have HR1 := Aside0.mk hr1; have HC1 := Aside0.mk hc1; clear hr1 hc1; have HT := Aside0.mk hT; clear hT; have HB := Aside0.mk (Below.refl w.heap.size w); have H : ((siglumlaw10_awake.f k).bind fun t12102 => (if t12102 = true then ((siglumref09_Light.f k l0 l1).bind fun t12103 => (if t12103 = true then ((siglumref09_Light.f k l0 l0).bind fun t12104 => (siglumlaw10_PairEven.j0 k l0 l1 (!t12104) a2_0 a2_1 a2_2 a2_3)) else (siglumlaw10_PairEven.j0 k l0 l1 true a2_0 a2_1 a2_2 a2_3))) else (some false))) = some r := h; clear h; replace H := Option.bind_eq_some_iff.mp H; obtain ⟨t12102, A40, H⟩ := H; (try dsimp only at H); have A4 := Aside0.mk A40; clear A40
 by_cases c5 : t12102 = true
 ·
  subst c5; have H1 := H; rw [if_pos rfl] at H1; clear H; have H := H1; clear H1; have HC6 := Aside0.mk H; clear H
  go_enter Tryd.func12, Tryd.ntmps12
  go_upto_region 3 with (first | ((with_reducible refine gate_dst (N := 5) rfl ?_); (try (refine gate_guard (by rfl) ?_; dsimp only)); refine box_event ?hg (N := 5) ?hd (cs := #[.int .i64 a2_0, .int .i64 a2_1, .int .i64 a2_2, .int .i64 a2_3]) (t := 23) ?hr ?_; (case hd => rfl); (case hg => rfl); (case hr => first | (go_simp; done) | (go_simp; rfl)); intro gb12101 hg w7 hbox hb; have n0_ := Aside0.mk (below_step bel hb); have n1_ := Aside0.mk (hbox); have n2_ := Aside0.mk ((by rw [hg]; exact (below_size bel) : w.heap.size ≤ gb12101)); have n3_ := Aside0.mk ((by rw [hg]; exact (below_size bel) : w.heap.size ≤ gb12101)); clear HB; have HB := n0_; have BK12101 := n1_; have GW12101 := n2_; have GE12101 := n3_; clear n0_ n1_ n2_ n3_; clear hb hbox hg) | ((with_reducible refine gate_callee (f := 26) rfl ?_); refine goesL_ (some 17) rfl rfl Tryd.func26 (by kernel_rfl) rfl #[] rfl (by (try simp only [List.map_toArray, List.map_cons, List.map_nil]); first | done | rfl | (simp only [List.length_drop, List.length_take]; rfl)) ?_; (with_reducible refine (siglumlaw10_awake.calls k  true _ ?side1 A4.out).mono ?_); (case side1 => exact Utf.tabs_step2 HT.out bel); rintro e w8 ⟨rfl, hb⟩; refine ⟨_, rfl, ?_⟩; replace BK12101 := Aside0.mk (blk_below (g := gb12101) (o := .cells #[.int .i64 a2_0, .int .i64 a2_1, .int .i64 a2_2, .int .i64 a2_3] 23 (0, 0)) (bl BK12101) hb); replace HB := Aside0.mk (below_step bel hb); (try clear hb); (try clear hb2); (try clear hk); (try clear hi)))
  (try simp only [Act.put,za,zb,zc])
  go_cut [28] (fun v28 wc => ∃ (kq : Nat) (x28_5 : Bool), v28 = .bool x28_5 ∧ Aside0 (siglumlaw10_PairEven.j0 kq l0 l1 x28_5 a2_0 a2_1 a2_2 a2_3 = some r) ∧ Aside0 (kq ≤ k) ∧ Aside0 (wc.heap[gb12101]? = some (.cells #[.int .i64 a2_0, .int .i64 a2_1, .int .i64 a2_2, .int .i64 a2_3] 23 (0, 0))) ∧ Aside0 (Below w.heap.size w wc))
  case first =>
   have H := HC6.out; clear HC6; replace H := Option.bind_eq_some_iff.mp H; obtain ⟨t12103, A90, H⟩ := H; (try dsimp only at H); have A9 := Aside0.mk A90; clear A90
   by_cases c10 : t12103 = true
   ·
    subst c10; have H1 := H; rw [if_pos rfl] at H1; clear H; have H := H1; clear H1; replace H := Option.bind_eq_some_iff.mp H; obtain ⟨t12104, A110, H⟩ := H; (try dsimp only at H); have A11 := Aside0.mk A110; clear A110; have H' := Aside0.mk H; clear H
    go_wp2_with (first | ((with_reducible refine gate_callee (f := 21) rfl ?_); refine goesL_ (some 21) rfl rfl Tryd.func21 (by kernel_rfl) rfl #[.slice A0 l0.length c0, .slice A1 l1.length c1] rfl (by (try simp only [List.map_toArray, List.map_cons, List.map_nil]); first | done | rfl | (simp only [List.length_drop, List.length_take]; rfl)) ?_; (with_reducible refine (siglumref09_Light.calls k _ _ l0 _ _ l1 true _ ?side1 ?side2 ?side3 ?side4 A9.out).mono ?_); (case side1 => repeat (first | exact (Kd.C_below HR0.out HB.out) | (with_reducible refine Kd.C_alloc ?_ _) | (with_reducible refine Kd.C_drewN ?_ _) | (with_reducible refine Kd.C_drew ?_))); (case side2 => exact HC0.out); (case side3 => repeat (first | exact (Kd.C_below HR1.out HB.out) | (with_reducible refine Kd.C_alloc ?_ _) | (with_reducible refine Kd.C_drewN ?_ _) | (with_reducible refine Kd.C_drew ?_))); (case side4 => exact HC1.out); rintro e w12 ⟨rfl, hb⟩; refine ⟨_, rfl, ?_⟩; replace BK12101 := Aside0.mk (blk_below (g := gb12101) (o := .cells #[.int .i64 a2_0, .int .i64 a2_1, .int .i64 a2_2, .int .i64 a2_3] 23 (0, 0)) (bl BK12101) hb); replace HB := Aside0.mk (below_step bel hb); (try clear hb); (try clear hb2); (try clear hk); (try clear hi)) | (go_at_call 21; (with_reducible refine (siglumref09_Light.calls k _ _ l0 _ _ l0 t12104 _ ?side1 ?side2 ?side3 ?side4 A11.out).mono ?_); (case side1 => repeat (first | exact (Kd.C_below HR0.out HB.out) | (with_reducible refine Kd.C_alloc ?_ _) | (with_reducible refine Kd.C_drewN ?_ _) | (with_reducible refine Kd.C_drew ?_))); (case side2 => exact HC0.out); (case side3 => repeat (first | exact (Kd.C_below HR0.out HB.out) | (with_reducible refine Kd.C_alloc ?_ _) | (with_reducible refine Kd.C_drewN ?_ _) | (with_reducible refine Kd.C_drew ?_))); (case side4 => exact HC0.out); rintro e w13 ⟨rfl, hb⟩; replace BK12101 := Aside0.mk (blk_below (g := gb12101) (o := .cells #[.int .i64 a2_0, .int .i64 a2_1, .int .i64 a2_2, .int .i64 a2_3] 23 (0, 0)) (bl BK12101) hb); replace HB := Aside0.mk (below_step bel hb); (try clear hb); (try clear hb2); (try clear hk); (try clear hi)))
    go_meet
    case rel => exact ⟨_, (!t12104), (by first | rfl | (simp; done) | (simp [*]; done)), H', ⟨by first | omega | exact Nat.le_refl _⟩, ⟨bl BK12101⟩, ⟨bel⟩⟩
   ·
    replace c10 := Bool.eq_false_iff.mpr c10; subst c10; have H1 := H; rw [if_neg (show ¬ (false = true) by decide)] at H1; clear H; have H := H1; clear H1; have H' := Aside0.mk H; clear H
    go_wp2_with (first | ((with_reducible refine gate_callee (f := 21) rfl ?_); refine goesL_ (some 21) rfl rfl Tryd.func21 (by kernel_rfl) rfl #[.slice A0 l0.length c0, .slice A1 l1.length c1] rfl (by (try simp only [List.map_toArray, List.map_cons, List.map_nil]); first | done | rfl | (simp only [List.length_drop, List.length_take]; rfl)) ?_; (with_reducible refine (siglumref09_Light.calls k _ _ l0 _ _ l1 false _ ?side1 ?side2 ?side3 ?side4 A9.out).mono ?_); (case side1 => repeat (first | exact (Kd.C_below HR0.out HB.out) | (with_reducible refine Kd.C_alloc ?_ _) | (with_reducible refine Kd.C_drewN ?_ _) | (with_reducible refine Kd.C_drew ?_))); (case side2 => exact HC0.out); (case side3 => repeat (first | exact (Kd.C_below HR1.out HB.out) | (with_reducible refine Kd.C_alloc ?_ _) | (with_reducible refine Kd.C_drewN ?_ _) | (with_reducible refine Kd.C_drew ?_))); (case side4 => exact HC1.out); rintro e w14 ⟨rfl, hb⟩; refine ⟨_, rfl, ?_⟩; replace BK12101 := Aside0.mk (blk_below (g := gb12101) (o := .cells #[.int .i64 a2_0, .int .i64 a2_1, .int .i64 a2_2, .int .i64 a2_3] 23 (0, 0)) (bl BK12101) hb); replace HB := Aside0.mk (below_step bel hb); (try clear hb); (try clear hb2); (try clear hk); (try clear hi)))
    go_meet
    case rel => exact ⟨_, (true), (by first | rfl | (simp; done) | (simp [*]; done)), H', ⟨by first | omega | exact Nat.le_refl _⟩, ⟨bl BK12101⟩, ⟨bel⟩⟩
  case rest =>
   clear HC6; (try clear c1); (try clear c2); (try clear p2); (try clear c5); (try clear c10); (try clear c12); obtain ⟨kq, x28_5, rfl, HA, HJ5, BK12101, HB⟩ := hcut
   cases kq with
   | zero => exact absurd HA.out (by simp [siglumlaw10_PairEven.j0])
   | succ kj5 =>
    have H := HA.out; clear HA; simp only [siglumlaw10_PairEven.j0] at H
    by_cases c15 : x28_5 = true
    ·
     subst c15; have H1 := H; rw [if_pos rfl] at H1; clear H; have H := H1; clear H1; obtain rfl := Option.some.inj H; go_wp2; go_ret; exact ⟨by first | rfl | (simp [errW_none, errW_some] <;> rfl) | (simp [*, errW_none, errW_some] <;> rfl), by exact bel⟩
    ·
     replace c15 := Bool.eq_false_iff.mpr c15; subst c15; have H1 := H; rw [if_neg (show ¬ (false = true) by decide)] at H1; clear H; have H := H1; clear H1; replace H := Option.bind_eq_some_iff.mp H; obtain ⟨⟨t12105, t12108, t12109⟩, A160, H⟩ := H; (try dsimp only at H); have A16 := Aside0.mk A160; clear A160; replace H := Option.bind_eq_some_iff.mp H; obtain ⟨⟨t12110, t12113, t12114⟩, A170, H⟩ := H; (try dsimp only at H); have A17 := Aside0.mk A170; clear A170
     by_cases c18 : t12109 = 0
     ·
      rw [if_pos c18] at H; have c18b0 : (t12109 == 0) = true := beq_iff_eq.mpr c18; have c18b1 : (t12109 != 0) = false := bne_eq_false_iff_eq.mpr c18; clear c18; replace H := Option.bind_eq_some_iff.mp H; obtain ⟨⟨t12115, t12118, t12119⟩, A190, H⟩ := H; (try dsimp only at H); have A19 := Aside0.mk A190; clear A190; have HC20 := Aside0.mk H; clear H; have hcz21_0 : wc.cell? ⟨gb12101, 0, none⟩ = some (.int .i64 a2_0) := (blk_cell BK12101.out 0).trans rfl; have hcz21_1 : wc.cell? ⟨gb12101, 1, none⟩ = some (.int .i64 a2_1) := (blk_cell BK12101.out 1).trans rfl; have hcz21_2 : wc.cell? ⟨gb12101, 2, none⟩ = some (.int .i64 a2_2) := (blk_cell BK12101.out 2).trans rfl; have hcz21_3 : wc.cell? ⟨gb12101, 3, none⟩ = some (.int .i64 a2_3) := (blk_cell BK12101.out 3).trans rfl; have hfz21_0 := blk_frozen BK12101.out 0; have hfz21_1 := blk_frozen BK12101.out 1; have hfz21_2 := blk_frozen BK12101.out 2; have hfz21_3 := blk_frozen BK12101.out 3
      go_upto_region 10 with (first | ((with_reducible refine gate_callee (f := 27) rfl ?_); refine goesL_ (some 33) rfl rfl Tryd.func27 (by kernel_rfl) rfl #[.slice A0 l0.length c0, .slice A1 l1.length c1, .agg #[.int .i64 a2_0, .int .i64 a2_1, .int .i64 a2_2, .int .i64 a2_3]] rfl (by (try simp only [List.map_toArray, List.map_cons, List.map_nil]); first | done | rfl | (simp only [List.length_drop, List.length_take]; rfl)) ?_; (with_reducible refine (pair_Align.calls kj5 _ _ l0 _ _ l1 a2_0 a2_1 a2_2 a2_3 t12105 t12108 t12109 _ ?side1 ?side2 ?side3 ?side4 ?side5 A16.out).mono ?_); (case side1 => repeat (first | exact (Kd.C_below HR0.out HB.out) | (with_reducible refine Kd.C_alloc ?_ _) | (with_reducible refine Kd.C_drewN ?_ _) | (with_reducible refine Kd.C_drew ?_))); (case side2 => exact HC0.out); (case side3 => repeat (first | exact (Kd.C_below HR1.out HB.out) | (with_reducible refine Kd.C_alloc ?_ _) | (with_reducible refine Kd.C_drewN ?_ _) | (with_reducible refine Kd.C_drew ?_))); (case side4 => exact HC1.out); (case side5 => exact Utf.tabs_step2 HT.out bel); rintro e w22 ⟨v12106, rfl, ho0, hb⟩; refine ⟨_, rfl, ?_⟩; have HO12107 := Aside0.mk (Kd.R_lower ho0 (below_size bel)); replace BK12101 := Aside0.mk (blk_below (g := gb12101) (o := .cells #[.int .i64 a2_0, .int .i64 a2_1, .int .i64 a2_2, .int .i64 a2_3] 23 (0, 0)) (bl BK12101) hb); replace HB := Aside0.mk (below_step bel hb); (try clear hb); (try clear hb2); (try clear hk); (try clear hi); (try clear ho0); have hcz23_0 : w22.cell? ⟨gb12101, 0, none⟩ = some (.int .i64 a2_0) := (blk_cell BK12101.out 0).trans rfl; have hcz23_1 : w22.cell? ⟨gb12101, 1, none⟩ = some (.int .i64 a2_1) := (blk_cell BK12101.out 1).trans rfl; have hcz23_2 : w22.cell? ⟨gb12101, 2, none⟩ = some (.int .i64 a2_2) := (blk_cell BK12101.out 2).trans rfl; have hcz23_3 : w22.cell? ⟨gb12101, 3, none⟩ = some (.int .i64 a2_3) := (blk_cell BK12101.out 3).trans rfl; have hfz23_0 := blk_frozen BK12101.out 0; have hfz23_1 := blk_frozen BK12101.out 1; have hfz23_2 := blk_frozen BK12101.out 2; have hfz23_3 := blk_frozen BK12101.out 3) | ((with_reducible refine gate_callee (f := 27) rfl ?_); refine goesL_ (some 41) rfl rfl Tryd.func27 (by kernel_rfl) rfl #[.slice A1 l1.length c1, .slice A0 l0.length c0, .agg #[.int .i64 a2_0, .int .i64 a2_1, .int .i64 a2_2, .int .i64 a2_3]] rfl (by (try simp only [List.map_toArray, List.map_cons, List.map_nil]); first | done | rfl | (simp only [List.length_drop, List.length_take]; rfl)) ?_; (with_reducible refine (pair_Align.calls kj5 _ _ l1 _ _ l0 a2_0 a2_1 a2_2 a2_3 t12110 t12113 t12114 _ ?side1 ?side2 ?side3 ?side4 ?side5 A17.out).mono ?_); (case side1 => repeat (first | exact (Kd.C_below HR1.out HB.out) | (with_reducible refine Kd.C_alloc ?_ _) | (with_reducible refine Kd.C_drewN ?_ _) | (with_reducible refine Kd.C_drew ?_))); (case side2 => exact HC1.out); (case side3 => repeat (first | exact (Kd.C_below HR0.out HB.out) | (with_reducible refine Kd.C_alloc ?_ _) | (with_reducible refine Kd.C_drewN ?_ _) | (with_reducible refine Kd.C_drew ?_))); (case side4 => exact HC0.out); (case side5 => exact Utf.tabs_step2 HT.out bel); rintro e w24 ⟨v12111, rfl, ho0, hb⟩; refine ⟨_, rfl, ?_⟩; have n0_ := Aside0.mk (Kd.R_elder' (rl HO12107) (Kd.R_base ho0) hb); have n1_ := Aside0.mk (Kd.R_lower (Kd.R_new' ho0 (Kd.R_lt (rl HO12107))) (below_size bel)); have n2_ := Aside0.mk (blk_below (g := gb12101) (o := .cells #[.int .i64 a2_0, .int .i64 a2_1, .int .i64 a2_2, .int .i64 a2_3] 23 (0, 0)) (bl BK12101) hb); have n3_ := Aside0.mk (below_step bel hb); clear HO12107; clear BK12101; clear HB; have HO12107 := n0_; have HO12112 := n1_; have BK12101 := n2_; have HB := n3_; clear n0_ n1_ n2_ n3_; (try clear hb); (try clear hb2); (try clear hk); (try clear hi); (try clear ho0); have hcz25_0 : w24.cell? ⟨gb12101, 0, none⟩ = some (.int .i64 a2_0) := (blk_cell BK12101.out 0).trans rfl; have hcz25_1 : w24.cell? ⟨gb12101, 1, none⟩ = some (.int .i64 a2_1) := (blk_cell BK12101.out 1).trans rfl; have hcz25_2 : w24.cell? ⟨gb12101, 2, none⟩ = some (.int .i64 a2_2) := (blk_cell BK12101.out 2).trans rfl; have hcz25_3 : w24.cell? ⟨gb12101, 3, none⟩ = some (.int .i64 a2_3) := (blk_cell BK12101.out 3).trans rfl; have hfz25_0 := blk_frozen BK12101.out 0; have hfz25_1 := blk_frozen BK12101.out 1; have hfz25_2 := blk_frozen BK12101.out 2; have hfz25_3 := blk_frozen BK12101.out 3) | ((with_reducible refine gate_callee (f := 27) rfl ?_); refine goesL_ (some 54) rfl rfl Tryd.func27 (by kernel_rfl) rfl #[.slice A0 l0.length c0, .slice A0 l0.length c0, .agg #[.int .i64 a2_0, .int .i64 a2_1, .int .i64 a2_2, .int .i64 a2_3]] rfl (by (try simp only [List.map_toArray, List.map_cons, List.map_nil]); first | done | rfl | (simp only [List.length_drop, List.length_take]; rfl)) ?_; (with_reducible refine (pair_Align.calls kj5 _ _ l0 _ _ l0 a2_0 a2_1 a2_2 a2_3 t12115 t12118 t12119 _ ?side1 ?side2 ?side3 ?side4 ?side5 A19.out).mono ?_); (case side1 => repeat (first | exact (Kd.C_below HR0.out HB.out) | (with_reducible refine Kd.C_alloc ?_ _) | (with_reducible refine Kd.C_drewN ?_ _) | (with_reducible refine Kd.C_drew ?_))); (case side2 => exact HC0.out); (case side3 => repeat (first | exact (Kd.C_below HR0.out HB.out) | (with_reducible refine Kd.C_alloc ?_ _) | (with_reducible refine Kd.C_drewN ?_ _) | (with_reducible refine Kd.C_drew ?_))); (case side4 => exact HC0.out); (case side5 => exact Utf.tabs_step2 HT.out bel); rintro e w26 ⟨v12116, rfl, ho0, hb⟩; refine ⟨_, rfl, ?_⟩; have n0_ := Aside0.mk (Kd.R_elder' (rl HO12107) (Kd.R_base ho0) hb); have n1_ := Aside0.mk (Kd.R_elder' (rl HO12112) (Kd.R_base ho0) hb); have n2_ := Aside0.mk (Kd.R_lower (Kd.R_new' (Kd.R_new' ho0 (Kd.R_lt (rl HO12107))) (Kd.R_lt (rl HO12112))) (below_size bel)); have n3_ := Aside0.mk (blk_below (g := gb12101) (o := .cells #[.int .i64 a2_0, .int .i64 a2_1, .int .i64 a2_2, .int .i64 a2_3] 23 (0, 0)) (bl BK12101) hb); have n4_ := Aside0.mk (below_step bel hb); clear HO12107; clear HO12112; clear BK12101; clear HB; have HO12107 := n0_; have HO12112 := n1_; have HO12117 := n2_; have BK12101 := n3_; have HB := n4_; clear n0_ n1_ n2_ n3_ n4_; (try clear hb); (try clear hb2); (try clear hk); (try clear hi); (try clear ho0)))
      (try simp only [Act.put,za,zb,zc])
      go_cut [70] (fun v70 wc => ∃ (kq : Nat) (x70_19 : Bool), v70 = .bool x70_19 ∧ Aside0 (siglumlaw10_PairEven.j1 kq l0 l1 t12105 t12108 t12110 t12113 t12114 t12115 x70_19 = some r) ∧ Aside0 (kq ≤ kj5) ∧ Aside0 (Kd.R k61 61 wc w.heap.size (fun k_ => some k_ ≠ (v12111 : Value).ownBlock ∧ some k_ ≠ (v12116 : Value).ownBlock) v12106 t12105) ∧ Aside0 (Kd.R k61 61 wc w.heap.size (fun k_ => some k_ ≠ (v12106 : Value).ownBlock ∧ some k_ ≠ (v12116 : Value).ownBlock) v12111 t12110) ∧ Aside0 (Kd.R k61 61 wc w.heap.size (fun k_ => some k_ ≠ (v12106 : Value).ownBlock ∧ some k_ ≠ (v12111 : Value).ownBlock) v12116 t12115) ∧ Aside0 (wc.heap[gb12101]? = some (.cells #[.int .i64 a2_0, .int .i64 a2_1, .int .i64 a2_2, .int .i64 a2_3] 23 (0, 0))) ∧ Aside0 (Below w.heap.size w wc))
      case first =>
       have H := HC20.out; clear HC20
       by_cases c27 : t12119 = 0
       ·
        rw [if_pos c27] at H; have c27b0 : (t12119 == 0) = true := beq_iff_eq.mpr c27; have c27b1 : (t12119 != 0) = false := bne_eq_false_iff_eq.mpr c27; clear c27; (first | rw [c27b0] | (simp only [i64_w, i32_w]; rw [c27b0]) | (have ce_ := c27b0; rw [List.beq_nil_eq] at ce_; rw [ce_]) | skip)
        by_cases c28 : t12118 = 0
        ·
         rw [if_pos c28] at H; have c28b0 : (t12118 == 0) = true := beq_iff_eq.mpr c28; have c28b1 : (t12118 != 0) = false := bne_eq_false_iff_eq.mpr c28; clear c28; have H' := Aside0.mk H; clear H; obtain ⟨Ao29, co29, eo29⟩ := Kd.R_slice HO12117.out; subst eo29; go_wp2
         go_meet
         case rel => exact ⟨_, (((t12115.length : Int) != (l0.length : Int))), (by first | rfl | (simp; done) | (simp [*]; done)), H', ⟨by have := HJ5.out; first | omega | exact Nat.le_refl _⟩, ⟨by (with_reducible repeat (first | apply Kd.R_alloc | apply Kd.R_drewN | apply Kd.R_drew)); exact Kd.R_mono HO12107.out (fun _ hk => ⟨hk.1.2, hk.2⟩)⟩, ⟨by (with_reducible repeat (first | apply Kd.R_alloc | apply Kd.R_drewN | apply Kd.R_drew)); exact Kd.R_mono HO12112.out (fun _ hk => ⟨hk.1.2, hk.2⟩)⟩, ⟨by (with_reducible repeat (first | apply Kd.R_alloc | apply Kd.R_drewN | apply Kd.R_drew)); exact Kd.R_mono HO12117.out (fun _ hk => ⟨hk.1.2, hk.2⟩)⟩, ⟨bl BK12101⟩, ⟨bel⟩⟩
        ·
         rw [if_neg c28] at H; have c28b0 : (t12118 == 0) = false := beq_eq_false_iff_ne.mpr c28; have c28b1 : (t12118 != 0) = true := bne_iff_ne.mpr c28; have H' := Aside0.mk H; clear H; go_wp2
         go_meet
         case rel => exact ⟨_, (true), (by first | rfl | (simp; done) | (simp [*]; done)), H', ⟨by have := HJ5.out; first | omega | exact Nat.le_refl _⟩, ⟨by (with_reducible repeat (first | apply Kd.R_alloc | apply Kd.R_drewN | apply Kd.R_drew)); exact Kd.R_mono HO12107.out (fun _ hk => ⟨hk.1.2, hk.2⟩)⟩, ⟨by (with_reducible repeat (first | apply Kd.R_alloc | apply Kd.R_drewN | apply Kd.R_drew)); exact Kd.R_mono HO12112.out (fun _ hk => ⟨hk.1.2, hk.2⟩)⟩, ⟨by (with_reducible repeat (first | apply Kd.R_alloc | apply Kd.R_drewN | apply Kd.R_drew)); exact Kd.R_mono HO12117.out (fun _ hk => ⟨hk.1.2, hk.2⟩)⟩, ⟨bl BK12101⟩, ⟨bel⟩⟩
       ·
        rw [if_neg c27] at H; have c27b0 : (t12119 == 0) = false := beq_eq_false_iff_ne.mpr c27; have c27b1 : (t12119 != 0) = true := bne_iff_ne.mpr c27; (first | rw [c27b0] | (simp only [i64_w, i32_w]; rw [c27b0]) | (have ce_ := c27b0; rw [List.beq_nil_eq] at ce_; rw [ce_]) | skip); have H' := Aside0.mk H; clear H; go_wp2
        go_meet
        case rel => exact ⟨_, (true), (by first | rfl | (simp; done) | (simp [*]; done)), H', ⟨by have := HJ5.out; first | omega | exact Nat.le_refl _⟩, ⟨by (with_reducible repeat (first | apply Kd.R_alloc | apply Kd.R_drewN | apply Kd.R_drew)); exact Kd.R_mono HO12107.out (fun _ hk => ⟨hk.1.2, hk.2⟩)⟩, ⟨by (with_reducible repeat (first | apply Kd.R_alloc | apply Kd.R_drewN | apply Kd.R_drew)); exact Kd.R_mono HO12112.out (fun _ hk => ⟨hk.1.2, hk.2⟩)⟩, ⟨by (with_reducible repeat (first | apply Kd.R_alloc | apply Kd.R_drewN | apply Kd.R_drew)); exact Kd.R_mono HO12117.out (fun _ hk => ⟨hk.1.2, hk.2⟩)⟩, ⟨bl BK12101⟩, ⟨bel⟩⟩
      case rest =>
       clear HC20; (try clear c1); (try clear c2); (try clear p2); (try clear c5); (try clear c10); (try clear c12); (try clear c15); (try clear c18); (try clear c18b0); (try clear c18b1); (try clear c21); (try clear c26); (try clear c27); (try clear c27b0); (try clear c27b1); (try clear c28); (try clear c28b0); (try clear c28b1); (try clear hcz21_0); (try clear hcz21_1); (try clear hcz21_2); (try clear hcz21_3); (try clear hcz23_0); (try clear hcz23_1); (try clear hcz23_2); (try clear hcz23_3); (try clear hcz25_0); (try clear hcz25_1); (try clear hcz25_2); (try clear hcz25_3); (try clear hfz21_0); (try clear hfz21_1); (try clear hfz21_2); (try clear hfz21_3); (try clear hfz23_0); (try clear hfz23_1); (try clear hfz23_2); (try clear hfz23_3); (try clear hfz25_0); (try clear hfz25_1); (try clear hfz25_2); (try clear hfz25_3); obtain ⟨kq, x70_19, rfl, HA, HJ19, HO_7, HO_10, HO_13, BK12101, HB⟩ := hcut
       cases kq with
       | zero => exact absurd HA.out (by simp [siglumlaw10_PairEven.j1])
       | succ kj19 =>
        have H := HA.out; clear HA; simp only [siglumlaw10_PairEven.j1] at H
        by_cases c30 : x70_19 = true
        ·
         subst c30; have H1 := H; rw [if_pos rfl] at H1; clear H; have H := H1; clear H1; obtain rfl := Option.some.inj H; go_wp2; go_ret; exact ⟨by first | rfl | (simp [errW_none, errW_some] <;> rfl) | (simp [*, errW_none, errW_some] <;> rfl), by exact bel⟩
        ·
         replace c30 := Bool.eq_false_iff.mpr c30; subst c30; have H1 := H; rw [if_neg (show ¬ (false = true) by decide)] at H1; clear H; have H := H1; clear H1; have H' := Aside0.mk H; clear H; obtain ⟨Ao31, co31, eo31⟩ := Kd.R_slice HO_13.out; subst eo31; go_wp2
         go_loopg [73] kj19 (fun kq v73 w' => ∃ (x73_3 : Int), v73 = .int .i64 x73_3 ∧ Aside0 (siglumlaw10_PairEven.l0 kq l0 l1 t12105 t12108 t12110 t12113 t12114 t12115 (t12115.length : Int) x73_3 = some r) ∧ Aside0 (kq ≤ kj19) ∧ Aside0 (Kd.R k61 61 w' w.heap.size (fun k_ => some k_ ≠ (v12111 : Value).ownBlock ∧ some k_ ≠ ((.slice Ao31 t12115.length co31) : Value).ownBlock) v12106 t12105) ∧ Aside0 (Kd.R k61 61 w' w.heap.size (fun k_ => some k_ ≠ (v12106 : Value).ownBlock ∧ some k_ ≠ ((.slice Ao31 t12115.length co31) : Value).ownBlock) v12111 t12110) ∧ Aside0 (Kd.R k61 61 w' w.heap.size (fun k_ => some k_ ≠ (v12106 : Value).ownBlock ∧ some k_ ≠ (v12111 : Value).ownBlock) (.slice Ao31 t12115.length co31) t12115) ∧ Aside0 (w'.heap[gb12101]? = some (.cells #[.int .i64 a2_0, .int .i64 a2_1, .int .i64 a2_2, .int .i64 a2_3] 23 (0, 0))) ∧ Aside0 (Below w.heap.size w w'))
         case atStart => exact ⟨(0), (by first | rfl | (simp; done) | (simp [*]; done)), H', ⟨Nat.le_refl _⟩, ⟨rl HO_7⟩, ⟨rl HO_10⟩, ⟨rl HO_13⟩, ⟨bl BK12101⟩, ⟨bel⟩⟩
         case round =>
          clear H'; (try clear c1); (try clear c2); (try clear p2); (try clear c3); (try clear c5); (try clear c10); (try clear c12); (try clear c15); (try clear c18); (try clear c18b0); (try clear c18b1); (try clear c21); (try clear c26); (try clear c27); (try clear c27b0); (try clear c27b1); (try clear c28); (try clear c28b0); (try clear c28b1); (try clear c30); (try clear hcz21_0); (try clear hcz21_1); (try clear hcz21_2); (try clear hcz21_3); (try clear hcz23_0); (try clear hcz23_1); (try clear hcz23_2); (try clear hcz23_3); (try clear hcz25_0); (try clear hcz25_1); (try clear hcz25_2); (try clear hcz25_3); (try clear hfz21_0); (try clear hfz21_1); (try clear hfz21_2); (try clear hfz21_3); (try clear hfz23_0); (try clear hfz23_1); (try clear hfz23_2); (try clear hfz23_3); (try clear hfz25_0); (try clear hfz25_1); (try clear hfz25_2); (try clear hfz25_3); obtain ⟨x73_3, rfl, HA, HK3, HO_7, HO_10, HO_13, BK12101, HB⟩ := hrel
          cases gk with
          | zero => exact absurd HA.out (by simp [siglumlaw10_PairEven.l0])
          | succ k3 =>
           have H := HA.out; clear HA; simp only [siglumlaw10_PairEven.l0] at H
           by_cases c32 : x73_3 < (t12115.length : Int)
           ·
            rw [if_pos c32] at H; have c32b0 : decide (x73_3 < (t12115.length : Int)) = true := decide_eq_true c32; clear c32
            by_cases c33 : 0 ≤ x73_3
            rotate_left
            · rw [if_neg c33] at H; exact absurd H (by simp)
            rw [if_pos c33] at H; have c33b0 : decide (0 ≤ x73_3) = true := decide_eq_true c33; clear c33
            by_cases c34 : x73_3 < (t12115.length : Int)
            rotate_left
            · rw [if_neg c34] at H; exact absurd H (by simp)
            rw [if_pos c34] at H; have c34b0 : decide (x73_3 < (t12115.length : Int)) = true := decide_eq_true c34; clear c34
            by_cases c35 : (!(((rd_T61 t12115 x73_3).f0) == x73_3) || (!(((rd_T61 t12115 x73_3).f1) == x73_3))) = true
            ·
             rw [if_pos c35] at H; have c35b0 : (!(((rd_T61 t12115 x73_3).f0) == x73_3) || (!(((rd_T61 t12115 x73_3).f1) == x73_3))) = true := c35; clear c35; obtain rfl := Option.some.inj H; have p12120 : 0 ≤ (x73_3 : Int) := oda; have q12120 : x73_3 < (t12115.length : Int) := oda; obtain ⟨ad12120, e12120, hx12120_0, hx12120_1⟩ := at_T61 (Kd.R_reads' HO_13.out).2.2 x73_3 p12120 q12120; cases e12120; replace p12120 := eq_true p12120; replace q12120 := eq_true q12120; go_wp2; go_ret; exact ⟨by first | rfl | (simp [errW_none, errW_some] <;> rfl) | (simp [*, errW_none, errW_some] <;> rfl), by exact bel⟩
            ·
             rw [if_neg c35] at H
             have c35b0 : (!(((rd_T61 t12115 x73_3).f0) == x73_3) || (!(((rd_T61 t12115 x73_3).f1) == x73_3))) = false := by simpa using c35
             clear c35; have H' := Aside0.mk H; clear H; have p12120 : 0 ≤ (x73_3 : Int) := oda; have q12120 : x73_3 < (t12115.length : Int) := oda; obtain ⟨ad12120, e12120, hx12120_0, hx12120_1⟩ := at_T61 (Kd.R_reads' HO_13.out).2.2 x73_3 p12120 q12120; cases e12120; replace p12120 := eq_true p12120; replace q12120 := eq_true q12120; go_wp2
             go_roundg k3
             case measure => have := HJ5.out; have := HJ19.out; have := HK3.out; omega
             case rel => exact ⟨(wrap64 (x73_3 + 1)), (by first | rfl | (simp; done) | (simp [*]; done)), H', ⟨by have := HJ5.out; have := HJ19.out; have := HK3.out; omega⟩, ⟨rl HO_7⟩, ⟨rl HO_10⟩, ⟨rl HO_13⟩, ⟨bl BK12101⟩, ⟨bel⟩⟩
           ·
            rw [if_neg c32] at H; have c32b0 : decide (x73_3 < (t12115.length : Int)) = false := decide_eq_false c32; clear c32
            by_cases c36 : t12114 = 0
            ·
             rw [if_pos c36] at H; have c36b0 : (t12114 == 0) = true := beq_iff_eq.mpr c36; have c36b1 : (t12114 != 0) = false := bne_eq_false_iff_eq.mpr c36; clear c36
             by_cases c37 : t12108 = t12113
             ·
              rw [if_pos c37] at H; have c37b0 : (t12108 == t12113) = true := beq_iff_eq.mpr c37; have c37b1 : (t12108 != t12113) = false := bne_eq_false_iff_eq.mpr c37; clear c37; replace H := Option.bind_eq_some_iff.mp H; obtain ⟨t12121, A380, H⟩ := H; (try dsimp only at H); have A38 := Aside0.mk A380; clear A380
              by_cases c39 : t12121 = true
              ·
               subst c39; have H1 := H; rw [if_pos rfl] at H1; clear H; have H := H1; clear H1; replace H := Option.bind_eq_some_iff.mp H; obtain ⟨t12122, A400, H⟩ := H; (try dsimp only at H); have A40 := Aside0.mk A400; clear A400; obtain rfl := Option.some.inj H; obtain ⟨Ao41, co41, eo41⟩ := Kd.R_slice HO_7.out; subst eo41
               go_wp2_with (first | (go_at_call 30; (with_reducible refine (pair_Right.calls k3 (l0.length : Int) (l1.length : Int) _ _ t12105 true _ ?side1 ?side2 A38.out).mono ?_); (case side1 => repeat (first | exact (Kd.R_reads' HO_7.out).2.2 | (with_reducible refine Kd.C_alloc ?_ _) | (with_reducible refine Kd.C_drewN ?_ _) | (with_reducible refine Kd.C_drew ?_))); (case side2 => exact (Kd.R_reads' HO_7.out).2.1); rintro e w42 ⟨rfl, hb⟩; replace HO_7 := Aside0.mk (Kd.R_below (rl HO_7) hb); replace HO_10 := Aside0.mk (Kd.R_below (rl HO_10) hb); replace HO_13 := Aside0.mk (Kd.R_below (rl HO_13) hb); replace BK12101 := Aside0.mk (blk_below (g := gb12101) (o := .cells #[.int .i64 a2_0, .int .i64 a2_1, .int .i64 a2_2, .int .i64 a2_3] 23 (0, 0)) (bl BK12101) hb); replace HB := Aside0.mk (below_step bel hb); (try clear hb); (try clear hb2); (try clear hk); (try clear hi); obtain ⟨Ao43, co43, eo43⟩ := Kd.R_slice HO_10.out; subst eo43) | (go_at_call 30; (with_reducible refine (pair_Right.calls k3 (l1.length : Int) (l0.length : Int) _ _ t12110 t12122 _ ?side1 ?side2 A40.out).mono ?_); (case side1 => repeat (first | exact (Kd.R_reads' HO_10.out).2.2 | (with_reducible refine Kd.C_alloc ?_ _) | (with_reducible refine Kd.C_drewN ?_ _) | (with_reducible refine Kd.C_drew ?_))); (case side2 => exact (Kd.R_reads' HO_10.out).2.1); rintro e w44 ⟨rfl, hb⟩; replace HO_7 := Aside0.mk (Kd.R_below (rl HO_7) hb); replace HO_10 := Aside0.mk (Kd.R_below (rl HO_10) hb); replace HO_13 := Aside0.mk (Kd.R_below (rl HO_13) hb); replace BK12101 := Aside0.mk (blk_below (g := gb12101) (o := .cells #[.int .i64 a2_0, .int .i64 a2_1, .int .i64 a2_2, .int .i64 a2_3] 23 (0, 0)) (bl BK12101) hb); replace HB := Aside0.mk (below_step bel hb); (try clear hb); (try clear hb2); (try clear hk); (try clear hi)))
               go_ret; exact ⟨by first | rfl | (simp [errW_none, errW_some] <;> rfl) | (simp [*, errW_none, errW_some] <;> rfl), by exact bel⟩
              ·
               replace c39 := Bool.eq_false_iff.mpr c39; subst c39; have H1 := H; rw [if_neg (show ¬ (false = true) by decide)] at H1; clear H; have H := H1; clear H1; obtain rfl := Option.some.inj H; obtain ⟨Ao45, co45, eo45⟩ := Kd.R_slice HO_7.out; subst eo45
               go_wp2_with (first | (go_at_call 30; (with_reducible refine (pair_Right.calls k3 (l0.length : Int) (l1.length : Int) _ _ t12105 false _ ?side1 ?side2 A38.out).mono ?_); (case side1 => repeat (first | exact (Kd.R_reads' HO_7.out).2.2 | (with_reducible refine Kd.C_alloc ?_ _) | (with_reducible refine Kd.C_drewN ?_ _) | (with_reducible refine Kd.C_drew ?_))); (case side2 => exact (Kd.R_reads' HO_7.out).2.1); rintro e w46 ⟨rfl, hb⟩; replace HO_7 := Aside0.mk (Kd.R_below (rl HO_7) hb); replace HO_10 := Aside0.mk (Kd.R_below (rl HO_10) hb); replace HO_13 := Aside0.mk (Kd.R_below (rl HO_13) hb); replace BK12101 := Aside0.mk (blk_below (g := gb12101) (o := .cells #[.int .i64 a2_0, .int .i64 a2_1, .int .i64 a2_2, .int .i64 a2_3] 23 (0, 0)) (bl BK12101) hb); replace HB := Aside0.mk (below_step bel hb); (try clear hb); (try clear hb2); (try clear hk); (try clear hi)))
               go_ret; exact ⟨by first | rfl | (simp [errW_none, errW_some] <;> rfl) | (simp [*, errW_none, errW_some] <;> rfl), by exact bel⟩
             ·
              rw [if_neg c37] at H; have c37b0 : (t12108 == t12113) = false := beq_eq_false_iff_ne.mpr c37; have c37b1 : (t12108 != t12113) = true := bne_iff_ne.mpr c37; obtain rfl := Option.some.inj H; go_wp2; go_ret; exact ⟨by first | rfl | (simp [errW_none, errW_some] <;> rfl) | (simp [*, errW_none, errW_some] <;> rfl), by exact bel⟩
            ·
             rw [if_neg c36] at H; have c36b0 : (t12114 == 0) = false := beq_eq_false_iff_ne.mpr c36; have c36b1 : (t12114 != 0) = true := bne_iff_ne.mpr c36; obtain rfl := Option.some.inj H; go_wp2; go_ret; exact ⟨by first | rfl | (simp [errW_none, errW_some] <;> rfl) | (simp [*, errW_none, errW_some] <;> rfl), by exact bel⟩
     ·
      rw [if_neg c18] at H; have c18b0 : (t12109 == 0) = false := beq_eq_false_iff_ne.mpr c18; have c18b1 : (t12109 != 0) = true := bne_iff_ne.mpr c18; obtain rfl := Option.some.inj H; have hcz47_0 : wc.cell? ⟨gb12101, 0, none⟩ = some (.int .i64 a2_0) := (blk_cell BK12101.out 0).trans rfl; have hcz47_1 : wc.cell? ⟨gb12101, 1, none⟩ = some (.int .i64 a2_1) := (blk_cell BK12101.out 1).trans rfl; have hcz47_2 : wc.cell? ⟨gb12101, 2, none⟩ = some (.int .i64 a2_2) := (blk_cell BK12101.out 2).trans rfl; have hcz47_3 : wc.cell? ⟨gb12101, 3, none⟩ = some (.int .i64 a2_3) := (blk_cell BK12101.out 3).trans rfl; have hfz47_0 := blk_frozen BK12101.out 0; have hfz47_1 := blk_frozen BK12101.out 1; have hfz47_2 := blk_frozen BK12101.out 2; have hfz47_3 := blk_frozen BK12101.out 3
      go_wp2_with (first | ((with_reducible refine gate_callee (f := 27) rfl ?_); refine goesL_ (some 33) rfl rfl Tryd.func27 (by kernel_rfl) rfl #[.slice A0 l0.length c0, .slice A1 l1.length c1, .agg #[.int .i64 a2_0, .int .i64 a2_1, .int .i64 a2_2, .int .i64 a2_3]] rfl (by (try simp only [List.map_toArray, List.map_cons, List.map_nil]); first | done | rfl | (simp only [List.length_drop, List.length_take]; rfl)) ?_; (with_reducible refine (pair_Align.calls kj5 _ _ l0 _ _ l1 a2_0 a2_1 a2_2 a2_3 t12105 t12108 t12109 _ ?side1 ?side2 ?side3 ?side4 ?side5 A16.out).mono ?_); (case side1 => repeat (first | exact (Kd.C_below HR0.out HB.out) | (with_reducible refine Kd.C_alloc ?_ _) | (with_reducible refine Kd.C_drewN ?_ _) | (with_reducible refine Kd.C_drew ?_))); (case side2 => exact HC0.out); (case side3 => repeat (first | exact (Kd.C_below HR1.out HB.out) | (with_reducible refine Kd.C_alloc ?_ _) | (with_reducible refine Kd.C_drewN ?_ _) | (with_reducible refine Kd.C_drew ?_))); (case side4 => exact HC1.out); (case side5 => exact Utf.tabs_step2 HT.out bel); rintro e w48 ⟨v12106, rfl, ho0, hb⟩; refine ⟨_, rfl, ?_⟩; have HO12107 := Aside0.mk (Kd.R_lower ho0 (below_size bel)); replace BK12101 := Aside0.mk (blk_below (g := gb12101) (o := .cells #[.int .i64 a2_0, .int .i64 a2_1, .int .i64 a2_2, .int .i64 a2_3] 23 (0, 0)) (bl BK12101) hb); replace HB := Aside0.mk (below_step bel hb); (try clear hb); (try clear hb2); (try clear hk); (try clear hi); (try clear ho0); have hcz49_0 : w48.cell? ⟨gb12101, 0, none⟩ = some (.int .i64 a2_0) := (blk_cell BK12101.out 0).trans rfl; have hcz49_1 : w48.cell? ⟨gb12101, 1, none⟩ = some (.int .i64 a2_1) := (blk_cell BK12101.out 1).trans rfl; have hcz49_2 : w48.cell? ⟨gb12101, 2, none⟩ = some (.int .i64 a2_2) := (blk_cell BK12101.out 2).trans rfl; have hcz49_3 : w48.cell? ⟨gb12101, 3, none⟩ = some (.int .i64 a2_3) := (blk_cell BK12101.out 3).trans rfl; have hfz49_0 := blk_frozen BK12101.out 0; have hfz49_1 := blk_frozen BK12101.out 1; have hfz49_2 := blk_frozen BK12101.out 2; have hfz49_3 := blk_frozen BK12101.out 3) | ((with_reducible refine gate_callee (f := 27) rfl ?_); refine goesL_ (some 41) rfl rfl Tryd.func27 (by kernel_rfl) rfl #[.slice A1 l1.length c1, .slice A0 l0.length c0, .agg #[.int .i64 a2_0, .int .i64 a2_1, .int .i64 a2_2, .int .i64 a2_3]] rfl (by (try simp only [List.map_toArray, List.map_cons, List.map_nil]); first | done | rfl | (simp only [List.length_drop, List.length_take]; rfl)) ?_; (with_reducible refine (pair_Align.calls kj5 _ _ l1 _ _ l0 a2_0 a2_1 a2_2 a2_3 t12110 t12113 t12114 _ ?side1 ?side2 ?side3 ?side4 ?side5 A17.out).mono ?_); (case side1 => repeat (first | exact (Kd.C_below HR1.out HB.out) | (with_reducible refine Kd.C_alloc ?_ _) | (with_reducible refine Kd.C_drewN ?_ _) | (with_reducible refine Kd.C_drew ?_))); (case side2 => exact HC1.out); (case side3 => repeat (first | exact (Kd.C_below HR0.out HB.out) | (with_reducible refine Kd.C_alloc ?_ _) | (with_reducible refine Kd.C_drewN ?_ _) | (with_reducible refine Kd.C_drew ?_))); (case side4 => exact HC0.out); (case side5 => exact Utf.tabs_step2 HT.out bel); rintro e w50 ⟨v12111, rfl, ho0, hb⟩; refine ⟨_, rfl, ?_⟩; have n0_ := Aside0.mk (Kd.R_elder' (rl HO12107) (Kd.R_base ho0) hb); have n1_ := Aside0.mk (Kd.R_lower (Kd.R_new' ho0 (Kd.R_lt (rl HO12107))) (below_size bel)); have n2_ := Aside0.mk (blk_below (g := gb12101) (o := .cells #[.int .i64 a2_0, .int .i64 a2_1, .int .i64 a2_2, .int .i64 a2_3] 23 (0, 0)) (bl BK12101) hb); have n3_ := Aside0.mk (below_step bel hb); clear HO12107; clear BK12101; clear HB; have HO12107 := n0_; have HO12112 := n1_; have BK12101 := n2_; have HB := n3_; clear n0_ n1_ n2_ n3_; (try clear hb); (try clear hb2); (try clear hk); (try clear hi); (try clear ho0)))
      go_ret; exact ⟨by first | rfl | (simp [errW_none, errW_some] <;> rfl) | (simp [*, errW_none, errW_some] <;> rfl), by exact bel⟩
 ·
  replace c5 := Bool.eq_false_iff.mpr c5; subst c5; have H1 := H; rw [if_neg (show ¬ (false = true) by decide)] at H1; clear H; have H := H1; clear H1; obtain rfl := Option.some.inj H
  go_enter Tryd.func12, Tryd.ntmps12
  go_wp2_with (first | ((with_reducible refine gate_dst (N := 5) rfl ?_); (try (refine gate_guard (by rfl) ?_; dsimp only)); refine box_event ?hg (N := 5) ?hd (cs := #[.int .i64 a2_0, .int .i64 a2_1, .int .i64 a2_2, .int .i64 a2_3]) (t := 23) ?hr ?_; (case hd => rfl); (case hg => rfl); (case hr => first | (go_simp; done) | (go_simp; rfl)); intro gb12101 hg w51 hbox hb; have n0_ := Aside0.mk (below_step bel hb); have n1_ := Aside0.mk (hbox); have n2_ := Aside0.mk ((by rw [hg]; exact (below_size bel) : w.heap.size ≤ gb12101)); have n3_ := Aside0.mk ((by rw [hg]; exact (below_size bel) : w.heap.size ≤ gb12101)); clear HB; have HB := n0_; have BK12101 := n1_; have GW12101 := n2_; have GE12101 := n3_; clear n0_ n1_ n2_ n3_; clear hb hbox hg) | ((with_reducible refine gate_callee (f := 26) rfl ?_); refine goesL_ (some 17) rfl rfl Tryd.func26 (by kernel_rfl) rfl #[] rfl (by (try simp only [List.map_toArray, List.map_cons, List.map_nil]); first | done | rfl | (simp only [List.length_drop, List.length_take]; rfl)) ?_; (with_reducible refine (siglumlaw10_awake.calls k  false _ ?side1 A4.out).mono ?_); (case side1 => exact Utf.tabs_step2 HT.out bel); rintro e w52 ⟨rfl, hb⟩; refine ⟨_, rfl, ?_⟩; replace BK12101 := Aside0.mk (blk_below (g := gb12101) (o := .cells #[.int .i64 a2_0, .int .i64 a2_1, .int .i64 a2_2, .int .i64 a2_3] 23 (0, 0)) (bl BK12101) hb); replace HB := Aside0.mk (below_step bel hb); (try clear hb); (try clear hb2); (try clear hk); (try clear hi)))
  go_ret; exact ⟨by first | rfl | (simp [errW_none, errW_some] <;> rfl) | (simp [*, errW_none, errW_some] <;> rfl), by exact bel⟩
end Go.Proofs.YtcpbalnbgmjhjaaDoor.G
/-
  What makes little work: the document's own question has an answer.
-/
namespace Go.Proofs.YtcpbalnbgmjhjaaDoor.Pure
open Go.RowKit Go.Proofs.YtcpbalnbgmjhjaaDoor.G Go.Proofs.YtcpbalnbgmjhjaaDoorW.PrintWords Go.Proofs.YtcpbalnbgmjhjaaDoorW.PrintLast Go.Proofs.YtcpbalnbgmjhjaaDoorW.PrintMore
/-! little work -/
theorem weight_loop (L : List ByteArray) (hL : L.length ≤ 1024) (hs : smallL L) : ∀ (d x : Nat) (s : Int), x + d = L.length → 0 ≤ s ∧ s ≤ 2000 + 1048576 * x → ∃ r, 0 ≤ r ∧ r ≤ 2000 + 1048576 * 1024 ∧ Ev (fun k => siglumref09_Weight.l0 k L s (x : Int)) r := by
  intro d
  induction d with
  | zero =>
    intro x s hd h
    exact ⟨s, h.1, by omega, Ev.step (f := fun _ => some s) (fun k => by rw [siglumref09_Weight.l0, if_neg (by omega)]) (Ev.now _)⟩
  | succ d IH =>
    intro x s hd h
    have hx : x < L.length := by omega
    have h1 := hs _ (List.getElem_mem hx)
    obtain ⟨r, a, b, c⟩ := IH (x + 1) (s + (L[x].size : Int)) (by omega) (by omega)
    refine ⟨r, a, b, Ev.step (fun k => ?_) c⟩
    rw [siglumref09_Weight.l0, if_pos (by omega), if_pos (by omega), rdOf_nat L x hx, ws (s + (L[x].size : Int)) (by omega) (by omega), wsucc x (by omega)]
theorem little_any (a b : Int) : ∃ r, Ev (fun k => siglumref09_Little.f k [a, b]) r := by
  have r0 : rd [a, b] 0 = a := rfl
  have r1 : rd [a, b] 1 = b := rfl
  have w2 : wrap64 (1 + 1) = 2 := by rw [ws _ (by decide) (by decide)]; rfl
  have w1 : wrap64 (0 + 1) = 1 := by rw [ws _ (by decide) (by decide)]; rfl
  have last : ∀ x3 x4 : Int, ∃ r, Ev (fun k => siglumref09_Little.l0 k [a, b] x3 x4 2) r := fun x3 x4 =>
    ⟨true, Ev.step (f := fun _ => some true) (fun k => by rw [siglumref09_Little.l0, if_neg (by show ¬ (2 : Int) < 2; omega)]) (Ev.now _)⟩
  have second : ∀ x3 x4 : Int, ∃ r, Ev (fun k => siglumref09_Little.l0 k [a, b] x3 x4 1) r := by
    intro x3 x4
    by_cases h3 : x3 > 0
    · by_cases h4 : b > wrap64 (Int.tdiv x4 x3)
      · exact ⟨false, Ev.step (f := fun _ => some false) (fun k => by rw [siglumref09_Little.l0, if_pos (by show (1 : Int) < 2; omega), if_pos h3, if_pos (by omega), if_neg (by omega), r1, if_pos h4]) (Ev.now _)⟩
      · obtain ⟨r, hr⟩ := last (wrap64 (x3 + b)) (wrap64 (x4 - wrap64 (x3 * b)))
        exact ⟨r, Ev.step (fun k => by rw [siglumref09_Little.l0, if_pos (by show (1 : Int) < 2; omega), if_pos h3, if_pos (by omega), if_neg (by omega), r1, if_neg h4, w2]) hr⟩
    · obtain ⟨r, hr⟩ := last (wrap64 (x3 + b)) (wrap64 (x4 - wrap64 (x3 * b)))
      exact ⟨r, Ev.step (fun k => by rw [siglumref09_Little.l0, if_pos (by show (1 : Int) < 2; omega), if_neg h3, if_pos (by omega), r1, w2]) hr⟩
  obtain ⟨r, hr⟩ := second (wrap64 (0 + a)) (wrap64 (4000000 - wrap64 (0 * a)))
  exact ⟨r, Ev.step (g := fun k => siglumref09_Little.l0 k [a, b] 0 4000000 0) (fun k => by rw [siglumref09_Little.l0, if_pos (by show (0 : Int) < 2; omega), if_neg (by omega), if_pos (by omega), r0, w1]) hr⟩
theorem light_any (X Y : List ByteArray) (hX : smallL X) (hY : smallL Y) : ∃ r, Ev (fun k => siglumref09_Light.f k X Y) r := by
  by_cases h1 : (X.length : Int) > 1024
  · exact ⟨true, Ev.congr (fun k => by unfold siglumref09_Light.f; rw [if_pos h1]) (Ev.now _)⟩
  · by_cases h2 : (Y.length : Int) > 1024
    · exact ⟨true, Ev.congr (fun k => by unfold siglumref09_Light.f; rw [if_neg h1, if_pos h2]) (Ev.now _)⟩
    · obtain ⟨a, a0, a1, ha⟩ := weight_loop X (by omega) hX X.length 0 (X.length : Int) (by omega) (by omega)
      obtain ⟨b, b0, b1, hb⟩ := weight_loop Y (by omega) hY Y.length 0 (Y.length : Int) (by omega) (by omega)
      obtain ⟨r, hr⟩ := little_any a b
      have ha' : Ev (fun k => siglumref09_Weight.f k X) a := ha
      have hb' : Ev (fun k => siglumref09_Weight.f k Y) b := hb
      refine ⟨r, Ev.congr (f := fun k => (siglumref09_Weight.f k X).bind fun s => (siglumref09_Weight.f k Y).bind fun t => (siglumref09_Little.f k [s, t]).bind fun u => some u) (fun k => by unfold siglumref09_Light.f; rw [if_neg h1, if_neg h2]) ?_⟩
      exact ev_bind ha' (ev_bind hb' (ev_bind hr (Ev.now _)))
end Go.Proofs.YtcpbalnbgmjhjaaDoor.Pure
/-
  PairEven: the other way round the price is the same; a list with itself costs nothing.
-/
namespace Go.Proofs.YtcpbalnbgmjhjaaDoor.Pure
open Go.RowKit Go.Proofs.YtcpbalnbgmjhjaaDoor.G Go.Proofs.YtcpbalnbgmjhjaaDoorW.PrintWords Go.Proofs.YtcpbalnbgmjhjaaDoorW.PrintLast Go.Proofs.YtcpbalnbgmjhjaaDoorW.PrintMore
theorem dL_symm {α : Type} (w : α → α → Int) (hw : ∀ x y, w x y = w y x) (gap : Int) : ∀ xs ys, dL w gap xs ys = dL w gap ys xs := by
  refine two_ind (fun ys => ?_) (fun x xs => ?_) (fun x xs y ys h1 h2 h3 => ?_)
  · rw [dL_nil, dL_nil']
  · rw [dL_nil', dL_nil]
  · rw [dL_cons, dL_cons, h1, h2, h3, hw x y]
    omega
theorem dL_self {α : Type} (w : α → α → Int) (h0 : ∀ x, w x x = 0) (hw : ∀ x y, 0 ≤ w x y) (gap : Int) (hg : 0 ≤ gap) : ∀ xs, dL w gap xs xs = 0 := by
  intro xs
  induction xs with
  | nil => rw [dL_nil]; simp
  | cons x xs ih =>
    have h1 := dL_nonneg w gap hg hw (x :: xs) (x :: xs)
    rw [dL_cons, ih, h0] at h1 ⊢
    omega
theorem pL_self {α : Type} (w : α → α → Int) (h0 : ∀ x, w x x = 0) (hw : ∀ x y, 0 ≤ w x y) (gap : Int) (hg : 0 ≤ gap) : ∀ (xs : List α) (i : Nat), (pL w gap xs xs i i).length = xs.length ∧ ∀ k, k < xs.length → rd_T61 (pL w gap xs xs i i) (k : Int) = ⟨((i + k : Nat) : Int), ((i + k : Nat) : Int)⟩ := by
  intro xs
  induction xs with
  | nil => intro i; rw [pL]; exact ⟨rfl, fun k hk => by cases hk⟩
  | cons x xs ih =>
    intro i
    obtain ⟨a, b⟩ := ih (i + 1)
    rw [pL, if_pos (by rw [dL_self w h0 hw gap hg, dL_self w h0 hw gap hg, h0]; rfl)]
    refine ⟨by rw [List.length_cons, List.length_cons, a], fun k hk => ?_⟩
    cases k with
    | zero => rfl
    | succ k =>
      have := b k (by rw [List.length_cons] at hk; omega)
      have e : rd_T61 (⟨(i : Int), (i : Int)⟩ :: pL w gap xs xs (i + 1) (i + 1)) ((k + 1 : Nat) : Int) = rd_T61 (pL w gap xs xs (i + 1) (i + 1)) (k : Int) := rfl
      rw [e, this, show i + 1 + k = i + (k + 1) by omega]
theorem wO_symm (n f o : Int) (x y : ByteArray) : wO n f o x y = wO n f o y x := two_symm x (fd x o) y (fd y o) n f
theorem gridR_err (X Y : List ByteArray) (g n f o : Int) : (gridR X Y g n f o).2 = (gridR Y X g n f o).2 := by
  unfold gridR
  by_cases hs : scaleOk g n f o
  · rw [if_pos hs, if_pos hs]
    by_cases hl : longL X o ∨ longL Y o
    · rw [if_pos hl, if_pos hl.symm]
    · rw [if_neg hl, if_neg (fun h => hl h.symm)]
  · rw [if_neg hs, if_neg hs]
theorem gridR_self {X Y : List ByteArray} {g n f o : Int} (h : (gridR X Y g n f o).2 = 0) : (gridR X X g n f o).2 = 0 := by
  unfold gridR at h ⊢
  by_cases hs : scaleOk g n f o
  · rw [if_pos hs] at h ⊢
    by_cases hl : longL X o ∨ longL Y o
    · rw [if_pos hl] at h; cases h
    · rw [if_neg (fun e => hl (Or.inl (e.elim id id)))]
  · rw [if_neg hs] at h; cases h
theorem PairEven (a b : List ByteArray) (g n f o : Int) (_ : (∀ x ∈ a, x.size ≤ maxLen) ∧ a.length ≤ maxLen) (_ : (∀ x ∈ b, x.size ≤ maxLen) ∧ b.length ≤ maxLen) (_ : (Lit.int .i64 g).wf = true ∧ (Lit.int .i64 n).wf = true ∧ (Lit.int .i64 f).wf = true ∧ (Lit.int .i64 o).wf = true) (hb : ((a.map fun y => (y.size + 1)).sum + 1) + ((b.map fun y => (y.size + 1)).sum + 1) + (1 + 1 + 1 + 1 + 1) ≤ 1048576) : ∃ k, siglumlaw10_PairEven.f k a b g n f o = some true := by
  have ha : smallL a := smallSum a (by omega)
  have hb' : smallL b := smallSum b (by omega)
  have main : Ev (fun k => siglumlaw10_PairEven.j0 k a b false g n f o) true := by
    refine Ev.step (fun k => by rw [siglumlaw10_PairEven.j0, if_neg (by decide)]) (ev_bind (align_eq a b ha hb' g n f o) (ev_bind (align_eq b a hb' ha g n f o) ?_))
    by_cases h : (gridR a b g n f o).2 = 0
    · obtain ⟨_, hs, l1, l2⟩ := gridR_ok h
      unfold scaleOk at hs
      have h2 : (gridR b a g n f o).2 = 0 := by rw [gridR_err, h]
      have h3 := gridR_self h
      have e1 : alignR a b g n f o = (pL (wO n f o) g a b 0 0, dL (wO n f o) g a b, 0) := by unfold alignR; rw [if_pos h]
      have e2 : alignR b a g n f o = (pL (wO n f o) g b a 0 0, dL (wO n f o) g a b, 0) := by unfold alignR; rw [if_pos h2, dL_symm (wO n f o) (wO_symm n f o) g b a]
      have hw : ∀ x y, 0 ≤ wO n f o x y := fun x y => (wO_range n f o hs.2.1.1 hs.2.2.1 x y).1
      have h0 : ∀ x, wO n f o x x = 0 := fun x => by unfold wO twoP; rw [if_pos rfl]
      have e3 : alignR a a g n f o = (pL (wO n f o) g a a 0 0, 0, 0) := by unfold alignR; rw [if_pos h3, dL_self (wO n f o) h0 hw g (by omega)]
      obtain ⟨q1, q2⟩ := pL_self (wO n f o) h0 hw g (by omega) a 0
      rw [e1, e2]
      refine Ev.congr (fun k => by rw [if_pos rfl]) (ev_bind (align_eq a a ha ha g n f o) ?_)
      rw [e3]
      refine Ev.congr (f := fun k => siglumlaw10_PairEven.j1 k a b (pL (wO n f o) g a b 0 0) (dL (wO n f o) g a b) (pL (wO n f o) g b a 0 0) (dL (wO n f o) g a b) 0 (pL (wO n f o) g a a 0 0) false) (fun k => by
        rw [if_pos rfl, if_pos rfl]
        dsimp only
        rw [q1, bne_self_eq_false]) ?_
      have hL : ∀ (X Y : List ByteArray), X.length ≤ 1024 → Y.length ≤ 1024 → (pL (wO n f o) g X Y 0 0).length < 4611686018427387904 := fun X Y h1 h2 => by
        have := (rightL_in X.length Y.length _ 0 0 (Nat.zero_le _) (Nat.zero_le _) (pL_all X Y g n f o).1).1
        omega
      have key : ∀ (d x : Nat), x + d = a.length → Ev (fun k => siglumlaw10_PairEven.l0 k a b (pL (wO n f o) g a b 0 0) (dL (wO n f o) g a b) (pL (wO n f o) g b a 0 0) (dL (wO n f o) g a b) 0 (pL (wO n f o) g a a 0 0) (a.length : Int) (x : Int)) true := by
        intro d
        induction d with
        | zero =>
          intro x hd
          have r1 := right_eq a.length b.length _ (hL a b l1 l2)
          have r2 := right_eq b.length a.length _ (hL b a l2 l1)
          rw [(pL_all a b g n f o).1] at r1
          rw [(pL_all b a g n f o).1] at r2
          exact Ev.step (fun k => by rw [siglumlaw10_PairEven.l0, if_neg (by omega), if_pos rfl, if_pos rfl]) (ev_bind r1 (Ev.congr (fun k => by rw [if_pos rfl]) (ev_bind r2 (Ev.now _))))
        | succ d IH =>
          intro x hd
          have := q2 x (by omega)
          refine Ev.step (fun k => by
            rw [siglumlaw10_PairEven.l0, if_pos (by omega), if_pos (by omega), if_pos (by omega), this]
            dsimp only
            rw [Nat.zero_add, beq_self_eq_true, if_neg (by decide), wsucc x (by omega)]) (IH (x + 1) (by omega))
      exact Ev.step (fun k => by rw [siglumlaw10_PairEven.j1, if_neg (by decide), q1]; rfl) (key a.length 0 (by omega))
    · have e1 : alignR a b g n f o = ([], 0, (gridR a b g n f o).2) := by unfold alignR; rw [if_neg h]
      have e2 : alignR b a g n f o = ([], 0, (gridR a b g n f o).2) := by unfold alignR; rw [← gridR_err, if_neg h]
      rw [e1, e2]
      exact Ev.congr (fun k => by dsimp only; rw [if_neg h, beq_self_eq_true]) (Ev.now _)
  have triv : Ev (fun k => siglumlaw10_PairEven.j0 k a b true g n f o) true := Ev.step (f := fun _ => some true) (fun k => by rw [siglumlaw10_PairEven.j0, if_pos rfl]) (Ev.now _)
  refine Ev.rounds (ev_bind (f := fun k t => if t = true then (siglumref09_Light.f k a b).bind fun u => if u = true then (siglumref09_Light.f k a a).bind fun v => siglumlaw10_PairEven.j0 k a b (!v) g n f o else siglumlaw10_PairEven.j0 k a b true g n f o else some false) awake10 (Ev.congr (fun k => by rw [if_pos rfl]) ?_))
  obtain ⟨r, hr⟩ := light_any a b ha hb'
  refine ev_bind hr ?_
  cases r with
  | false => exact Ev.congr (fun k => by rw [if_neg (by decide)]) triv
  | true =>
    obtain ⟨q, hq⟩ := light_any a a ha ha
    refine Ev.congr (fun k => by rw [if_pos rfl]) (ev_bind hq ?_)
    cases q with
    | false => exact triv
    | true => exact main
end Go.Proofs.YtcpbalnbgmjhjaaDoor.Pure
