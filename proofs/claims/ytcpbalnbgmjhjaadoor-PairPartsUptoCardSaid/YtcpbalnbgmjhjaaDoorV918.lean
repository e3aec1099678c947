import Derived.Test.YtcpbalnbgmjhjaaDoorV3E
import Derived.Test.YtcpbalnbgmjhjaaDoorV33
import Derived.Test.YtcpbalnbgmjhjaaDoorV35
import Derived.Test.YtcpbalnbgmjhjaaDoorV315
namespace Go.Proofs.YtcpbalnbgmjhjaaDoor.G
open Go.RowKit Go.Proofs.YtcpbalnbgmjhjaaDoor.Mi Go.Proofs.YtcpbalnbgmjhjaaDoorW.PrintWords Go.Proofs.YtcpbalnbgmjhjaaDoorW.PrintLast Go.Proofs.YtcpbalnbgmjhjaaDoorW.PrintMore
attribute [local go_sem] min2_int min_two min_three   -- for this text's walks alone
set_option linter.unusedVariables false
set_option linter.unusedSimpArgs false
/-! ### siglumref09_Little: function 40 -/
def siglumref09_Little.l0 : Nat → List Int → Int → Int → Int → Option (Bool)
 | 0, _, _, _, _ => none
 | k + 1, x0, x3, x4, x5 => if x5 < (x0.length : Int) then (if x3 > 0 then (if 0 ≤ x5 then (if x3 = 0 then (none) else (if (rd x0 x5) > (wrap64 (Int.tdiv x4 x3)) then (some false) else (siglumref09_Little.l0 k x0 (wrap64 (x3 + (rd x0 x5))) (wrap64 (x4 - (wrap64 (x3 * (rd x0 x5))))) (wrap64 (x5 + 1))))) else (none)) else (if 0 ≤ x5 then (siglumref09_Little.l0 k x0 (wrap64 (x3 + (rd x0 x5))) (wrap64 (x4 - (wrap64 (x3 * (rd x0 x5))))) (wrap64 (x5 + 1))) else (none))) else (some true)
def siglumref09_Little.f (k : Nat) (l0 : List Int) : Option (Bool) := siglumref09_Little.l0 k l0 0 4000000 0
set_option maxHeartbeats 8000000 in
set_option maxRecDepth 100000 in
theorem siglumref09_Little.calls (k : Nat) (A0 : Option Addr) (c0 : Nat) (l0 : List Int) (r : Bool) (w : World) (hr0 : Kd.C (Kd.int .i64) w A0 l0.length l0) (hc0 : l0.length ≤ c0) (h : siglumref09_Little.f k l0 = some r) :
 Calls Tryd.prog 40 #[.slice A0 l0.length c0] w fun e w' => e = .returned (.bool r) ∧ Drawn0 w w' := by
 have HR0 := Aside0.mk hr0; have HC0 := Aside0.mk hc0; clear hr0 hc0; have H : (siglumref09_Little.l0 k l0 0 4000000 0) = some r := h; clear h; have H' := Aside0.mk H; clear H
 go_enter Tryd.func40, Tryd.ntmps40
 go_wp2
 repeat (go_quiet (fail); try go_wp2)
 go_loopg [3, 4, 5] k (fun kq v3 v4 v5 w' => ∃ (x3_1 : Int) (x4_1 : Int) (x5_1 : Int), v3 = .int .i64 x3_1 ∧ v4 = .int .i64 x4_1 ∧ v5 = .int .i64 x5_1 ∧ Aside0 (siglumref09_Little.l0 kq l0 x3_1 x4_1 x5_1 = some r) ∧ Aside0 (kq ≤ k) ∧ Drawn0 w w')
 case atStart => exact ⟨(0), (4000000), (0), (by first | rfl | (simp; done) | (simp [*]; done)), (by first | rfl | (simp; done) | (simp [*]; done)), (by first | rfl | (simp; done) | (simp [*]; done)), H', ⟨Nat.le_refl _⟩, by repeat (first | exact Drawn0.refl _ | apply Drawn0.step)⟩
 case round =>
  clear H'; obtain ⟨x3_1, x4_1, x5_1, rfl, rfl, rfl, HA, HK1, ⟨m1, rfl⟩⟩ := hrel
  cases gk with
  | zero => exact absurd HA.out (by simp [siglumref09_Little.l0])
  | succ k1 =>
   have H := HA.out; clear HA; simp only [siglumref09_Little.l0] at H
   by_cases c2 : x5_1 < (l0.length : Int)
   ·
    rw [if_pos c2] at H; have c2b0 : decide (x5_1 < (l0.length : Int)) = true := decide_eq_true c2; clear c2
    by_cases c3 : x3_1 > 0
    ·
     rw [if_pos c3] at H; have c3b0 : decide (0 < x3_1) = true := decide_eq_true c3; clear c3
     by_cases c4 : 0 ≤ x5_1
     rotate_left
     · rw [if_neg c4] at H; exact absurd H (by simp)
     rw [if_pos c4] at H; have c4b0 : decide (0 ≤ x5_1) = true := decide_eq_true c4; clear c4
     by_cases c5 : x3_1 = 0
     ·
      rw [if_pos c5] at H; exact absurd H (by simp)
     ·
      rw [if_neg c5] at H; have c5b0 : (x3_1 == 0) = false := beq_eq_false_iff_ne.mpr c5; have c5b1 : (x3_1 != 0) = true := bne_iff_ne.mpr c5
      by_cases c6 : (rd l0 x5_1) > (wrap64 (Int.tdiv x4_1 x3_1))
      ·
       rw [if_pos c6] at H; have c6b0 : decide ((wrap64 (Int.tdiv x4_1 x3_1)) < (rd l0 x5_1)) = true := decide_eq_true c6; clear c6; obtain rfl := Option.some.inj H; have p40101 : 0 ≤ (x5_1 : Int) := oda; have q40101 : x5_1 < (l0.length : Int) := oda; obtain ⟨ad40101, e40101, hx40101_0⟩ := Kd.at_int HR0.out x5_1 p40101 q40101; cases e40101; replace p40101 := eq_true p40101; replace q40101 := eq_true q40101; go_wp2
       repeat (go_quiet (fail); try go_wp2)
       go_ret; exact ⟨by first | rfl | (simp; done) | (simp [*]; done), by repeat (first | exact Drawn0.refl _ | apply Drawn0.step)⟩
      ·
       rw [if_neg c6] at H; have c6b0 : decide ((wrap64 (Int.tdiv x4_1 x3_1)) < (rd l0 x5_1)) = false := decide_eq_false c6; clear c6; have H' := Aside0.mk H; clear H; have p40101 : 0 ≤ (x5_1 : Int) := oda; have q40101 : x5_1 < (l0.length : Int) := oda; obtain ⟨ad40101, e40101, hx40101_0⟩ := Kd.at_int HR0.out x5_1 p40101 q40101; cases e40101; replace p40101 := eq_true p40101; replace q40101 := eq_true q40101; have p40102 : 0 ≤ (x5_1 : Int) := oda; have q40102 : x5_1 < (l0.length : Int) := oda; obtain ⟨ad40102, e40102, hx40102_0⟩ := Kd.at_int HR0.out x5_1 p40102 q40102; obtain rfl : ad40101 = ad40102 := (by injection e40102); replace p40102 := eq_true p40102; replace q40102 := eq_true q40102; have p40103 : 0 ≤ (x5_1 : Int) := oda; have q40103 : x5_1 < (l0.length : Int) := oda; obtain ⟨ad40103, e40103, hx40103_0⟩ := Kd.at_int HR0.out x5_1 p40103 q40103; obtain rfl : ad40101 = ad40103 := (by injection e40103); replace p40103 := eq_true p40103; replace q40103 := eq_true q40103; go_wp2
       repeat (go_quiet (fail); try go_wp2)
       go_roundg k1
       case measure => have := HK1.out; omega
       case rel => exact ⟨(wrap64 (x3_1 + (rd l0 x5_1))), (wrap64 (x4_1 - (wrap64 (x3_1 * (rd l0 x5_1))))), (wrap64 (x5_1 + 1)), (by first | rfl | (simp; done) | (simp [*]; done)), (by first | rfl | (simp; done) | (simp [*]; done)), (by first | rfl | (simp; done) | (simp [*]; done)), H', ⟨by have := HK1.out; omega⟩, by repeat (first | exact Drawn0.refl _ | apply Drawn0.step)⟩
    ·
     rw [if_neg c3] at H; have c3b0 : decide (0 < x3_1) = false := decide_eq_false c3; clear c3
     by_cases c7 : 0 ≤ x5_1
     rotate_left
     · rw [if_neg c7] at H; exact absurd H (by simp)
     rw [if_pos c7] at H; have c7b0 : decide (0 ≤ x5_1) = true := decide_eq_true c7; clear c7; have H' := Aside0.mk H; clear H; have p40104 : 0 ≤ (x5_1 : Int) := oda; have q40104 : x5_1 < (l0.length : Int) := oda; obtain ⟨ad40104, e40104, hx40104_0⟩ := Kd.at_int HR0.out x5_1 p40104 q40104; cases e40104; replace p40104 := eq_true p40104; replace q40104 := eq_true q40104; have p40105 : 0 ≤ (x5_1 : Int) := oda; have q40105 : x5_1 < (l0.length : Int) := oda; obtain ⟨ad40105, e40105, hx40105_0⟩ := Kd.at_int HR0.out x5_1 p40105 q40105; obtain rfl : ad40104 = ad40105 := (by injection e40105); replace p40105 := eq_true p40105; replace q40105 := eq_true q40105; go_wp2
     repeat (go_quiet (fail); try go_wp2)
     go_roundg k1
     case measure => have := HK1.out; omega
     case rel => exact ⟨(wrap64 (x3_1 + (rd l0 x5_1))), (wrap64 (x4_1 - (wrap64 (x3_1 * (rd l0 x5_1))))), (wrap64 (x5_1 + 1)), (by first | rfl | (simp; done) | (simp [*]; done)), (by first | rfl | (simp; done) | (simp [*]; done)), (by first | rfl | (simp; done) | (simp [*]; done)), H', ⟨by have := HK1.out; omega⟩, by repeat (first | exact Drawn0.refl _ | apply Drawn0.step)⟩
   ·
    rw [if_neg c2] at H; have c2b0 : decide (x5_1 < (l0.length : Int)) = false := decide_eq_false c2; clear c2; obtain rfl := Option.some.inj H; go_wp2
    repeat (go_quiet (fail); try go_wp2)
    go_ret; exact ⟨by first | rfl | (simp; done) | (simp [*]; done), by repeat (first | exact Drawn0.refl _ | apply Drawn0.step)⟩
end Go.Proofs.YtcpbalnbgmjhjaaDoor.G
namespace Go.Proofs.YtcpbalnbgmjhjaaDoor.G
open Go.RowKit Go.Proofs.YtcpbalnbgmjhjaaDoor.Mi Go.Proofs.YtcpbalnbgmjhjaaDoorW.PrintWords Go.Proofs.YtcpbalnbgmjhjaaDoorW.PrintLast Go.Proofs.YtcpbalnbgmjhjaaDoorW.PrintMore
attribute [local go_sem] min2_int min_two min_three   -- for this text's walks alone
set_option linter.unusedVariables false
set_option linter.unusedSimpArgs false
/-! ### siglumref09_Weight: function 41 -/
def siglumref09_Weight.l0 : Nat → List ByteArray → Int → Int → Option (Int)
 | 0, _, _, _ => none
 | k + 1, x0, x3, x4 => if x4 < (x0.length : Int) then (if 0 ≤ x4 then (siglumref09_Weight.l0 k x0 (wrap64 (x3 + ((rdOf ByteArray.empty x0 x4).size : Int))) (wrap64 (x4 + 1))) else (none)) else (some x3)
def siglumref09_Weight.f (k : Nat) (l0 : List ByteArray) : Option (Int) := siglumref09_Weight.l0 k l0 (l0.length : Int) 0
set_option maxHeartbeats 8000000 in
set_option maxRecDepth 100000 in
theorem siglumref09_Weight.calls (k : Nat) (A0 : Option Addr) (c0 : Nat) (l0 : List ByteArray) (r : Int) (w : World) (hr0 : Kd.C Kd.string w A0 l0.length l0) (hc0 : l0.length ≤ c0) (h : siglumref09_Weight.f k l0 = some r) :
 Calls Tryd.prog 41 #[.slice A0 l0.length c0] w fun e w' => e = .returned (.int .i64 r) ∧ Drawn0 w w' := by
 have HR0 := Aside0.mk hr0; have HC0 := Aside0.mk hc0; clear hr0 hc0; have H : (siglumref09_Weight.l0 k l0 (l0.length : Int) 0) = some r := h; clear h; have H' := Aside0.mk H; clear H
 go_enter Tryd.func41, Tryd.ntmps41
 go_wp2
 go_loopg [3, 4] k (fun kq v3 v4 w' => ∃ (x3_1 : Int) (x4_1 : Int), v3 = .int .i64 x3_1 ∧ v4 = .int .i64 x4_1 ∧ Aside0 (siglumref09_Weight.l0 kq l0 x3_1 x4_1 = some r) ∧ Aside0 (kq ≤ k) ∧ Drawn0 w w')
 case atStart => exact ⟨((l0.length : Int)), (0), (by first | rfl | (simp; done) | (simp [*]; done)), (by first | rfl | (simp; done) | (simp [*]; done)), H', ⟨Nat.le_refl _⟩, by repeat (first | exact Drawn0.refl _ | apply Drawn0.step)⟩
 case round =>
  clear H'; obtain ⟨x3_1, x4_1, rfl, rfl, HA, HK1, ⟨m1, rfl⟩⟩ := hrel
  cases gk with
  | zero => exact absurd HA.out (by simp [siglumref09_Weight.l0])
  | succ k1 =>
   have H := HA.out; clear HA; simp only [siglumref09_Weight.l0] at H
   by_cases c2 : x4_1 < (l0.length : Int)
   ·
    rw [if_pos c2] at H; have c2b0 : decide (x4_1 < (l0.length : Int)) = true := decide_eq_true c2; clear c2
    by_cases c3 : 0 ≤ x4_1
    rotate_left
    · rw [if_neg c3] at H; exact absurd H (by simp)
    rw [if_pos c3] at H; have c3b0 : decide (0 ≤ x4_1) = true := decide_eq_true c3; clear c3; have H' := Aside0.mk H; clear H; have p41101 : 0 ≤ (x4_1 : Int) := oda; have q41101 : x4_1 < (l0.length : Int) := oda; obtain ⟨ad41101, e41101, hx41101_0⟩ := Kd.at_string HR0.out x4_1 p41101 q41101; cases e41101; replace p41101 := eq_true p41101; replace q41101 := eq_true q41101; go_wp2
    go_roundg k1
    case measure => have := HK1.out; omega
    case rel => exact ⟨(wrap64 (x3_1 + ((rdOf ByteArray.empty l0 x4_1).size : Int))), (wrap64 (x4_1 + 1)), (by first | rfl | (simp; done) | (simp [*]; done)), (by first | rfl | (simp; done) | (simp [*]; done)), H', ⟨by have := HK1.out; omega⟩, by repeat (first | exact Drawn0.refl _ | apply Drawn0.step)⟩
   ·
    rw [if_neg c2] at H; have c2b0 : decide (x4_1 < (l0.length : Int)) = false := decide_eq_false c2; clear c2; obtain rfl := Option.some.inj H; go_wp2; go_ret; exact ⟨by first | rfl | (simp; done) | (simp [*]; done), by repeat (first | exact Drawn0.refl _ | apply Drawn0.step)⟩
end Go.Proofs.YtcpbalnbgmjhjaaDoor.G
namespace Go.Proofs.YtcpbalnbgmjhjaaDoor.G
open Go.RowKit Go.Proofs.YtcpbalnbgmjhjaaDoor.Mi Go.Proofs.YtcpbalnbgmjhjaaDoorW.PrintWords Go.Proofs.YtcpbalnbgmjhjaaDoorW.PrintLast Go.Proofs.YtcpbalnbgmjhjaaDoorW.PrintMore
attribute [local go_sem] min2_int min_two min_three   -- for this text's walks alone
set_option linter.unusedVariables false
set_option linter.unusedSimpArgs false
/-! ### siglumref09_Light: function 21 -/
def siglumref09_Light.f (k : Nat) (l0 : List ByteArray) (l1 : List ByteArray) : Option (Bool) := if (l0.length : Int) > 1024 then (some true) else (if (l1.length : Int) > 1024 then (some true) else ((siglumref09_Weight.f k l0).bind fun t21101 => ((siglumref09_Weight.f k l1).bind fun t21102 => ((siglumref09_Little.f k (([t21101, t21102] : List Int))).bind fun t21106 => (some t21106)))))
set_option maxHeartbeats 8000000 in
set_option maxRecDepth 100000 in
theorem siglumref09_Light.calls (k : Nat) (A0 : Option Addr) (c0 : Nat) (l0 : List ByteArray) (A1 : Option Addr) (c1 : Nat) (l1 : List ByteArray) (r : Bool) (w : World) (hr0 : Kd.C Kd.string w A0 l0.length l0) (hc0 : l0.length ≤ c0) (hr1 : Kd.C Kd.string w A1 l1.length l1) (hc1 : l1.length ≤ c1) (h : siglumref09_Light.f k l0 l1 = some r) :
 Calls Tryd.prog 21 #[.slice A0 l0.length c0, .slice A1 l1.length c1] w fun e w' => e = .returned (.bool r) ∧ Below w.heap.size w w' := by
 have HR0 := Aside0.mk hr0; have HC0 := Aside0.mk hc0; clear hr0 hc0; have HR1 := Aside0.mk hr1; have HC1 := Aside0.mk hc1; clear hr1 hc1; have HB := Aside0.mk (Below.refl w.heap.size w); have H : (if (l0.length : Int) > 1024 then (some true) else (if (l1.length : Int) > 1024 then (some true) else ((siglumref09_Weight.f k l0).bind fun t21101 => ((siglumref09_Weight.f k l1).bind fun t21102 => ((siglumref09_Little.f k (([t21101, t21102] : List Int))).bind fun t21106 => (some t21106)))))) = some r := h; clear h
 by_cases c3 : (l0.length : Int) > 1024
 ·
  rw [if_pos c3] at H; have c3b0 : decide (1024 < (l0.length : Int)) = true := decide_eq_true c3; have c3b1 : decide (1024 < l0.length) = true := decide_eq_true (by omega); clear c3; obtain rfl := Option.some.inj H
  go_enter Tryd.func21, Tryd.ntmps21
  go_wp2; go_ret; exact ⟨by first | rfl | (simp [errW_none, errW_some] <;> rfl) | (simp [*, errW_none, errW_some] <;> rfl), by exact bel⟩
 ·
  rw [if_neg c3] at H; have c3b0 : decide (1024 < (l0.length : Int)) = false := decide_eq_false c3; have c3b1 : decide (1024 < l0.length) = false := decide_eq_false (by omega); clear c3
  by_cases c4 : (l1.length : Int) > 1024
  ·
   rw [if_pos c4] at H; have c4b0 : decide (1024 < (l1.length : Int)) = true := decide_eq_true c4; have c4b1 : decide (1024 < l1.length) = true := decide_eq_true (by omega); clear c4; obtain rfl := Option.some.inj H
   go_enter Tryd.func21, Tryd.ntmps21
   go_wp2; go_ret; exact ⟨by first | rfl | (simp [errW_none, errW_some] <;> rfl) | (simp [*, errW_none, errW_some] <;> rfl), by exact bel⟩
  ·
   rw [if_neg c4] at H; have c4b0 : decide (1024 < (l1.length : Int)) = false := decide_eq_false c4; have c4b1 : decide (1024 < l1.length) = false := decide_eq_false (by omega); clear c4; replace H := Option.bind_eq_some_iff.mp H; obtain ⟨t21101, A50, H⟩ := H; (try dsimp only at H); have A5 := Aside0.mk A50; clear A50; replace H := Option.bind_eq_some_iff.mp H; obtain ⟨t21102, A60, H⟩ := H; (try dsimp only at H); have A6 := Aside0.mk A60; clear A60
   obtain ⟨y21103, hy21103⟩ : ∃ y_ : List Int, y_ = (([t21101, t21102] : List Int)) := ⟨_, rfl⟩
   (try rw [← hy21103] at H); (try rw [Option.bind_some] at H); (try dsimp only at H); have Ny21103 := Aside0.mk hy21103; clear hy21103; replace H := Option.bind_eq_some_iff.mp H; obtain ⟨t21106, A70, H⟩ := H; (try dsimp only at H); have A7 := Aside0.mk A70; clear A70; obtain rfl := Option.some.inj H
   go_enter Tryd.func21, Tryd.ntmps21
   go_wp2_with (first | (go_at_call 41; (with_reducible refine (siglumref09_Weight.calls k _ _ l0 t21101 _ ?side1 ?side2 A5.out).mono ?_); (case side1 => repeat (first | exact HR0.out | (with_reducible refine Kd.C_alloc ?_ _) | (with_reducible refine Kd.C_drewN ?_ _) | (with_reducible refine Kd.C_drew ?_))); (case side2 => exact HC0.out); rintro e w' ⟨rfl, ⟨nd, rfl⟩⟩) | (go_at_call 41; (with_reducible refine (siglumref09_Weight.calls k _ _ l1 t21102 _ ?side1 ?side2 A6.out).mono ?_); (case side1 => repeat (first | exact HR1.out | (with_reducible refine Kd.C_alloc ?_ _) | (with_reducible refine Kd.C_drewN ?_ _) | (with_reducible refine Kd.C_drew ?_))); (case side2 => exact HC1.out); rintro e w' ⟨rfl, ⟨nd, rfl⟩⟩) | ((with_reducible refine gate_dst (N := 18) rfl ?_); (try (refine gate_guard (by rfl) ?_; dsimp only)); refine Kd.R_lit (Kd.int .i64) _ 3 ?hg (N := 18) ?hd (xs := ([t21101, t21102] : List Int)) (inner := [.int .i64 t21101, .int .i64 t21102]) (ok := fun _ => True) (okp := fun _ => True) ?hr ?hp (fun _ hk => hk) trivial (Below.refl _ _) (Nat.le_refl _) (by simp) ?_; (case hd => rfl); (case hg => rfl); (case hr => first | (go_simp; done) | (go_simp; rfl)); (case hp => exact (Reps.one (show Kd.M (Kd.int .i64) _ _ _ t21101 [.int .i64 t21101] from rfl) (Reps.one (show Kd.M (Kd.int .i64) _ _ _ t21102 [.int .i64 t21102] from rfl) (Reps.none _ _)))); intro v21104 w8 ho9 hb hg_ hnew_; clear hg_ hnew_; (first | rw [← Ny21103.out] at ho9 | (simp only [Int.reduceToNat] at ho9; rw [← Ny21103.out] at ho9)); have HO21105 := Aside0.mk (Kd.R_lower ho9 (below_size bel)); replace HB := Aside0.mk (below_step bel hb); clear hb ho9; obtain ⟨Ao10, co10, eo10⟩ := Kd.R_slice HO21105.out; subst eo10) | (go_at_call 40; (with_reducible refine (siglumref09_Little.calls k _ _ y21103 t21106 _ ?side1 ?side2 A7.out).mono ?_); (case side1 => repeat (first | exact (Kd.R_reads' HO21105.out).2.2 | (with_reducible refine Kd.C_alloc ?_ _) | (with_reducible refine Kd.C_drewN ?_ _) | (with_reducible refine Kd.C_drew ?_))); (case side2 => exact (Kd.R_reads' HO21105.out).2.1); rintro e w' ⟨rfl, ⟨nd, rfl⟩⟩))
   go_ret; exact ⟨by first | rfl | (simp [errW_none, errW_some] <;> rfl) | (simp [*, errW_none, errW_some] <;> rfl), by exact bel⟩
end Go.Proofs.YtcpbalnbgmjhjaaDoor.G
/-
  What makes little work: the document's own question has an answer.
-/
namespace Go.Proofs.YtcpbalnbgmjhjaaDoor.Pure
open Go.RowKit Go.Proofs.YtcpbalnbgmjhjaaDoor.G Go.Proofs.YtcpbalnbgmjhjaaDoorW.PrintWords Go.Proofs.YtcpbalnbgmjhjaaDoorW.PrintLast Go.Proofs.YtcpbalnbgmjhjaaDoorW.PrintMore
/-! little work -/
theorem weight_loop (L : List ByteArray) (hL : L.length ≤ 1024) (hs : smallL L) : ∀ (d x : Nat) (s : Int), x + d = L.length → 0 ≤ s ∧ s ≤ 2000 + 1048576 * x → ∃ r, 0 ≤ r ∧ r ≤ 2000 + 1048576 * 1024 ∧ Ev (fun k => siglumref09_Weight.l0 k L s (x : Int)) r := by
  intro d
  induction d with
  | zero =>
    intro x s hd h
    exact ⟨s, h.1, by omega, Ev.step (f := fun _ => some s) (fun k => by rw [siglumref09_Weight.l0, if_neg (by omega)]) (Ev.now _)⟩
  | succ d IH =>
    intro x s hd h
    have hx : x < L.length := by omega
    have h1 := hs _ (List.getElem_mem hx)
    obtain ⟨r, a, b, c⟩ := IH (x + 1) (s + (L[x].size : Int)) (by omega) (by omega)
    refine ⟨r, a, b, Ev.step (fun k => ?_) c⟩
    rw [siglumref09_Weight.l0, if_pos (by omega), if_pos (by omega), rdOf_nat L x hx, ws (s + (L[x].size : Int)) (by omega) (by omega), wsucc x (by omega)]
theorem little_any (a b : Int) : ∃ r, Ev (fun k => siglumref09_Little.f k [a, b]) r := by
  have r0 : rd [a, b] 0 = a := rfl
  have r1 : rd [a, b] 1 = b := rfl
  have w2 : wrap64 (1 + 1) = 2 := by rw [ws _ (by decide) (by decide)]; rfl
  have w1 : wrap64 (0 + 1) = 1 := by rw [ws _ (by decide) (by decide)]; rfl
  have last : ∀ x3 x4 : Int, ∃ r, Ev (fun k => siglumref09_Little.l0 k [a, b] x3 x4 2) r := fun x3 x4 =>
    ⟨true, Ev.step (f := fun _ => some true) (fun k => by rw [siglumref09_Little.l0, if_neg (by show ¬ (2 : Int) < 2; omega)]) (Ev.now _)⟩
  have second : ∀ x3 x4 : Int, ∃ r, Ev (fun k => siglumref09_Little.l0 k [a, b] x3 x4 1) r := by
    intro x3 x4
    by_cases h3 : x3 > 0
    · by_cases h4 : b > wrap64 (Int.tdiv x4 x3)
      · exact ⟨false, Ev.step (f := fun _ => some false) (fun k => by rw [siglumref09_Little.l0, if_pos (by show (1 : Int) < 2; omega), if_pos h3, if_pos (by omega), if_neg (by omega), r1, if_pos h4]) (Ev.now _)⟩
      · obtain ⟨r, hr⟩ := last (wrap64 (x3 + b)) (wrap64 (x4 - wrap64 (x3 * b)))
        exact ⟨r, Ev.step (fun k => by rw [siglumref09_Little.l0, if_pos (by show (1 : Int) < 2; omega), if_pos h3, if_pos (by omega), if_neg (by omega), r1, if_neg h4, w2]) hr⟩
    · obtain ⟨r, hr⟩ := last (wrap64 (x3 + b)) (wrap64 (x4 - wrap64 (x3 * b)))
      exact ⟨r, Ev.step (fun k => by rw [siglumref09_Little.l0, if_pos (by show (1 : Int) < 2; omega), if_neg h3, if_pos (by omega), r1, w2]) hr⟩
  obtain ⟨r, hr⟩ := second (wrap64 (0 + a)) (wrap64 (4000000 - wrap64 (0 * a)))
  exact ⟨r, Ev.step (g := fun k => siglumref09_Little.l0 k [a, b] 0 4000000 0) (fun k => by rw [siglumref09_Little.l0, if_pos (by show (0 : Int) < 2; omega), if_neg (by omega), if_pos (by omega), r0, w1]) hr⟩
theorem light_any (X Y : List ByteArray) (hX : smallL X) (hY : smallL Y) : ∃ r, Ev (fun k => siglumref09_Light.f k X Y) r := by
  by_cases h1 : (X.length : Int) > 1024
  · exact ⟨true, Ev.congr (fun k => by unfold siglumref09_Light.f; rw [if_pos h1]) (Ev.now _)⟩
  · by_cases h2 : (Y.length : Int) > 1024
    · exact ⟨true, Ev.congr (fun k => by unfold siglumref09_Light.f; rw [if_neg h1, if_pos h2]) (Ev.now _)⟩
    · obtain ⟨a, a0, a1, ha⟩ := weight_loop X (by omega) hX X.length 0 (X.length : Int) (by omega) (by omega)
      obtain ⟨b, b0, b1, hb⟩ := weight_loop Y (by omega) hY Y.length 0 (Y.length : Int) (by omega) (by omega)
      obtain ⟨r, hr⟩ := little_any a b
      have ha' : Ev (fun k => siglumref09_Weight.f k X) a := ha
      have hb' : Ev (fun k => siglumref09_Weight.f k Y) b := hb
      refine ⟨r, Ev.congr (f := fun k => (siglumref09_Weight.f k X).bind fun s => (siglumref09_Weight.f k Y).bind fun t => (siglumref09_Little.f k [s, t]).bind fun u => some u) (fun k => by unfold siglumref09_Light.f; rw [if_neg h1, if_neg h2]) ?_⟩
      exact ev_bind ha' (ev_bind hb' (ev_bind hr (Ev.now _)))
end Go.Proofs.YtcpbalnbgmjhjaaDoor.Pure
