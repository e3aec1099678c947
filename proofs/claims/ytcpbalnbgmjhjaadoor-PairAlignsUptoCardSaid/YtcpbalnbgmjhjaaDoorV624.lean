import Derived.Test.YtcpbalnbgmjhjaaDoorV63
import Derived.Test.YtcpbalnbgmjhjaaDoorV65
import Derived.Test.YtcpbalnbgmjhjaaDoorV616
import Derived.Test.YtcpbalnbgmjhjaaDoorV623
import Derived.Test.YtcpbalnbgmjhjaaDoorV612
import Derived.Test.YtcpbalnbgmjhjaaDoorV611
import Derived.Test.YtcpbalnbgmjhjaaDoorV610
import Derived.Test.YtcpbalnbgmjhjaaDoorV619
import Derived.Test.YtcpbalnbgmjhjaaDoorV621
import Derived.Test.YtcpbalnbgmjhjaaDoorV622
namespace Go.Proofs.YtcpbalnbgmjhjaaDoor.Q
open Go.RowKit Go.Proofs.YtcpbalnbgmjhjaaDoor.Mi Go.Proofs.YtcpbalnbgmjhjaaDoorW.PrintWords Go.Proofs.YtcpbalnbgmjhjaaDoorW.PrintLast Go.Proofs.YtcpbalnbgmjhjaaDoorW.PrintMore
attribute [local go_sem] min2_int min_two min_three
set_option linter.unusedVariables false
set_option linter.unusedSimpArgs false
def siglumref10_Align.f (k : Nat) (l0 : List ByteArray) (l1 : List ByteArray) (a2_0 : Int) (a2_1 : Int) (a2_2 : Int) (a2_3 : Int) : Option ((List (S61)) × Int × Int) := (siglumref09_Grid.f k l0 l1 a2_0 a2_1 a2_2 a2_3).bind fun btU2 => (if btU2.2 = 0 then ((siglumref10_Walk.f k btU2.1 (l0.length : Int) (l1.length : Int) a2_0).bind fun btU6 => (some (btU6.1, btU6.2, 0))) else (some (([] : List (S61)), 0, btU2.2)))
set_option maxHeartbeats 8000000 in
set_option maxRecDepth 100000 in
theorem siglumref10_Align.calls (k : Nat) (A0 : Option Addr) (c0 : Nat) (l0 : List ByteArray) (A1 : Option Addr) (c1 : Nat) (l1 : List ByteArray) (a2_0 : Int) (a2_1 : Int) (a2_2 : Int) (a2_3 : Int) (r1 : List (S61)) (r2 : Int) (r3 : Int) (w : World) (hr0 : Kd.C Kd.string w A0 l0.length l0) (hc0 : l0.length ≤ c0) (hr1 : Kd.C Kd.string w A1 l1.length l1) (hc1 : l1.length ≤ c1) (h : siglumref10_Align.f k l0 l1 a2_0 a2_1 a2_2 a2_3 = some (r1, r2, r3)) :
 Calls Tryd.prog 28 #[.slice A0 l0.length c0, .slice A1 l1.length c1, .agg #[.int .i64 a2_0, .int .i64 a2_1, .int .i64 a2_2, .int .i64 a2_3]] w fun e w' => ∃ v0_ : Value, e = .returned (.tuple #[v0_, .int .i64 r2, .int .i64 r3]) ∧ Kd.R k61 61 w' w.heap.size (fun _ => True) v0_ r1 ∧ Below w.heap.size w w' := by
 have hu23 := Tryd.underlying23; have HR0 := Aside0.mk hr0; have HC0 := Aside0.mk hc0; clear hr0 hc0; have HR1 := Aside0.mk hr1; have HC1 := Aside0.mk hc1; clear hr1 hc1; have HB := Aside0.mk (Below.refl w.heap.size w); have H := h; clear h; unfold siglumref10_Align.f at H; replace H := ob H; obtain ⟨⟨tU2, tU5⟩, A4, H⟩ := H; (try dsimp only at H)
 by_cases c5 : tU5 = 0
 ·rw [if_pos c5] at H; have c5b0 := beq_iff_eq.mpr c5; have c5b1 := bne_eq_false_iff_eq.mpr c5; clear c5; replace H := ob H; obtain ⟨⟨tU6, tU7⟩, A6, H⟩ := H; (try dsimp only at H); simp only [Option.some.injEq, Prod.mk.injEq] at H; obtain ⟨rfl, rfl, rfl⟩ := H; go_enter Tryd.func28, Tryd.ntmps28; go_wp2_with (first | ((with_reducible refine gd 5 ?_); refine bz 5 #[.int .i64 a2_0, .int .i64 a2_1, .int .i64 a2_2, .int .i64 a2_3] 23 ?_; clear HB; intro gbU1 w7 BKU1 GWU1 HB; have GEU1 := GWU1; obtain ⟨z8_0, z8_1, z8_2, z8_3, f8_0, f8_1, f8_2, f8_3⟩ := cz4 BKU1) | ((with_reducible refine gc 23 ?_); refine gl 17 Tryd.func23 #[.slice A0 l0.length c0, .slice A1 l1.length c1, .agg #[.int .i64 a2_0, .int .i64 a2_1, .int .i64 a2_2, .int .i64 a2_3]] ?_; (with_reducible refine (siglumref09_Grid.calls k _ _ l0 _ _ l1 a2_0 a2_1 a2_2 a2_3 tU2 tU5 _ ?side1 ?side2 ?side3 ?side4 A4.out).mono ?_); (case side1 => exact cb HR0 HB); (case side2 => exact HC0.out); (case side3 => exact cb HR1 HB); (case side4 => exact HC1.out); rintro e w9 ⟨vU3, rfl, ho0, hb⟩; refine ⟨_, rfl, ?_⟩; have HOU4 := Aside0.mk (Kd.S_lower ho0 (below_size bel)); replace BKU1 := bb BKU1 hb; replace HB := bs hb; (try clear hb); (try clear ho0); obtain ⟨z10_0, z10_1, z10_2, z10_3, f10_0, f10_1, f10_2, f10_3⟩ := cz4 BKU1; obtain ⟨Ao11, co11, eo11⟩ := Kd.S_slice HOU4.out; subst eo11) | ((with_reducible refine gc 50 ?_); refine gl 31 Tryd.func50 #[.slice Ao11 tU2.length co11, .int .i64 (l0.length : Int), .int .i64 (l1.length : Int), .int .i64 a2_0] ?_; (with_reducible refine (siglumref10_Walk.calls k _ _ tU2 (l0.length : Int) (l1.length : Int) a2_0 tU6 tU7 _ ?side1 ?side2 A6.out).mono ?_); (case side1 => repeat (first | exact (Kd.S_reads' HOU4.out).2.2 | (with_reducible refine Kd.C_alloc ?_ _) | (with_reducible refine Kd.C_drewN ?_ _) | (with_reducible refine Kd.C_drew ?_))); (case side2 => exact (Kd.S_reads' HOU4.out).2.1); rintro e w12 ⟨vU8, rfl, ho0, hb⟩; refine ⟨_, rfl, ?_⟩; replace HOU4 := Aside0.mk (Kd.S_below (sl HOU4) hb); have HOU9 := Aside0.mk (Kd.R_lower ho0 (below_size bel)); replace BKU1 := bb BKU1 hb; replace HB := bs hb; (try clear hb); (try clear ho0)))
  go_ret3
  exact ⟨_, fi, by (with_reducible repeat (first | apply Kd.R_alloc | apply Kd.R_drewN | apply Kd.R_drew)); exact HOU9.out, by exact bel⟩
 ·rw [if_neg c5] at H; have c5b0 := beq_eq_false_iff_ne.mpr c5; have c5b1 := bne_iff_ne.mpr c5; simp only [Option.some.injEq, Prod.mk.injEq] at H; obtain ⟨rfl, rfl, rfl⟩ := H; go_enter Tryd.func28, Tryd.ntmps28; go_wp2_with (first | ((with_reducible refine gd 5 ?_); refine bz 5 #[.int .i64 a2_0, .int .i64 a2_1, .int .i64 a2_2, .int .i64 a2_3] 23 ?_; clear HB; intro gbU1 w13 BKU1 GWU1 HB; have GEU1 := GWU1; obtain ⟨z14_0, z14_1, z14_2, z14_3, f14_0, f14_1, f14_2, f14_3⟩ := cz4 BKU1) | ((with_reducible refine gc 23 ?_); refine gl 17 Tryd.func23 #[.slice A0 l0.length c0, .slice A1 l1.length c1, .agg #[.int .i64 a2_0, .int .i64 a2_1, .int .i64 a2_2, .int .i64 a2_3]] ?_; (with_reducible refine (siglumref09_Grid.calls k _ _ l0 _ _ l1 a2_0 a2_1 a2_2 a2_3 tU2 tU5 _ ?side1 ?side2 ?side3 ?side4 A4.out).mono ?_); (case side1 => exact cb HR0 HB); (case side2 => exact HC0.out); (case side3 => exact cb HR1 HB); (case side4 => exact HC1.out); rintro e w15 ⟨vU3, rfl, ho0, hb⟩; refine ⟨_, rfl, ?_⟩; have HOU4 := Aside0.mk (Kd.S_lower ho0 (below_size bel)); replace BKU1 := bb BKU1 hb; replace HB := bs hb; (try clear hb); (try clear ho0)))
  go_ret3
  exact ⟨_, fi, by first | exact Kd.R_nil _ _ _ _ _ | exact Kd.N_nil _ _ _ _ _ | exact Kd.V_nil _ _ _ _ _ | exact Kd.Q_nil _ _ _ _ _ | exact Kd.S_nil _ _ _ _ _, by exact bel⟩
attribute [local go_sem high] eqA61
def siglumref10_Same.l0 : Nat → List (S61) → List (S61) → Int → Option (Bool)
 | 0, _, _, _ => none
 | k + 1, x0, x1, x5 => if x5 < (x0.length : Int) then (if 0 ≤ x5 then (if x5 < (x1.length : Int) then (if (!(((rd_T61 x0 x5).f0) == ((rd_T61 x1 x5).f0)) || (!(((rd_T61 x0 x5).f1) == ((rd_T61 x1 x5).f1)))) = true then (some false) else (siglumref10_Same.l0 k x0 x1 (wrap64 (x5 + 1)))) else (none)) else (none)) else (some true)
def siglumref10_Same.f (k : Nat) (l0 : List (S61)) (l1 : List (S61)) : Option (Bool) := if (l0.length : Int) = (l1.length : Int) then (siglumref10_Same.l0 k l0 l1 0) else (some false)
set_option maxHeartbeats 8000000 in
set_option maxRecDepth 100000 in
theorem siglumref10_Same.calls (k : Nat) (A0 : Option Addr) (c0 : Nat) (l0 : List (S61)) (A1 : Option Addr) (c1 : Nat) (l1 : List (S61)) (r : Bool) (w : World) (hr0 : Kd.C k61 w A0 l0.length l0) (hc0 : l0.length ≤ c0) (hr1 : Kd.C k61 w A1 l1.length l1) (hc1 : l1.length ≤ c1) (h : siglumref10_Same.f k l0 l1 = some r) :
 Calls Tryd.prog 29 #[.slice A0 l0.length c0, .slice A1 l1.length c1] w fun e w' => e = .returned (.bool r) ∧ Drawn0 w w' := by
 have hu61 := Tryd.underlying61; have HR0 := Aside0.mk hr0; have HC0 := Aside0.mk hc0; clear hr0 hc0; have HR1 := Aside0.mk hr1; have HC1 := Aside0.mk hc1; clear hr1 hc1; have H := h; clear h; unfold siglumref10_Same.f at H
 by_cases c3 : (l0.length : Int) = (l1.length : Int)
 ·rw [if_pos c3] at H; have c3b0 := beq_iff_eq.mpr c3; have c3b1 := bne_eq_false_iff_eq.mpr c3; have c3b2 : (l0.length == l1.length) = true := by first | simpa using c3 | (simp at c3 ⊢; omega)
  clear c3; have H' := Aside0.mk H; clear H; go_enter Tryd.func29, Tryd.ntmps29; go_wp2
  repeat (go_quiet (fail); try go_wp2)
  go_loopg [5] k (fun kq v5 w' => ∃ (x5_1 : Int), v5 = .int .i64 x5_1 ∧ Aside0 (siglumref10_Same.l0 kq l0 l1 x5_1 = some r) ∧ Aside0 (kq ≤ k) ∧ Drawn0 w w')
  case atStart => exact ⟨(0), si, H', ⟨Nat.le_refl _⟩, dr⟩
  case round =>
   clear H'; (try clear c1); (try clear c2); (try clear p2); (try clear c3); (try clear c3b0 c3b1 c3b2); obtain ⟨x5_1, rfl, HA, HK1, ⟨m1, rfl⟩⟩ := hrel
   cases gk with
   | zero => exact absurd HA.out (by simp [siglumref10_Same.l0])
   | succ k1 =>
    have H := HA.out; clear HA; simp only [siglumref10_Same.l0] at H
    by_cases c4 : x5_1 < (l0.length : Int)
    ·rw [if_pos c4] at H; have c4b0 := decide_eq_true c4; clear c4; replace H := dt H; obtain ⟨c5b0, H⟩ := H; replace H := dt H; obtain ⟨c6b0, H⟩ := H
     by_cases c7 : (!(((rd_T61 l0 x5_1).f0) == ((rd_T61 l1 x5_1).f0)) || (!(((rd_T61 l0 x5_1).f1) == ((rd_T61 l1 x5_1).f1)))) = true
     ·rw [if_pos c7] at H; have c7b0 : (!(((rd_T61 l0 x5_1).f0) == ((rd_T61 l1 x5_1).f0)) || (!(((rd_T61 l0 x5_1).f1) == ((rd_T61 l1 x5_1).f1)))) = true := c7; clear c7; obtain rfl := Option.some.inj H; have pU1 : 0 ≤ (x5_1 : Int) := oda; have qU1 : x5_1 < (l0.length : Int) := oda; obtain ⟨adU1, eU1, hxU1_0, hxU1_1⟩ := at_T61 HR0.out x5_1 pU1 qU1; cases eU1; replace pU1 := eq_true pU1; replace qU1 := eq_true qU1; have pU2 : 0 ≤ (x5_1 : Int) := oda; have qU2 : x5_1 < (l1.length : Int) := oda; obtain ⟨adU2, eU2, hxU2_0, hxU2_1⟩ := at_T61 HR1.out x5_1 pU2 qU2; cases eU2; replace pU2 := eq_true pU2; replace qU2 := eq_true qU2; go_wp2
      repeat (go_quiet (fail); try go_wp2)
      go_ret; exact ⟨si, dr⟩
     ·rw [if_neg c7] at H; have c7b0 : (!(((rd_T61 l0 x5_1).f0) == ((rd_T61 l1 x5_1).f0)) || (!(((rd_T61 l0 x5_1).f1) == ((rd_T61 l1 x5_1).f1)))) = false := by simpa using c7
      clear c7; have H' := Aside0.mk H; clear H; have pU1 : 0 ≤ (x5_1 : Int) := oda; have qU1 : x5_1 < (l0.length : Int) := oda; obtain ⟨adU1, eU1, hxU1_0, hxU1_1⟩ := at_T61 HR0.out x5_1 pU1 qU1; cases eU1; replace pU1 := eq_true pU1; replace qU1 := eq_true qU1; have pU2 : 0 ≤ (x5_1 : Int) := oda; have qU2 : x5_1 < (l1.length : Int) := oda; obtain ⟨adU2, eU2, hxU2_0, hxU2_1⟩ := at_T61 HR1.out x5_1 pU2 qU2; cases eU2; replace pU2 := eq_true pU2; replace qU2 := eq_true qU2; go_wp2
      repeat (go_quiet (fail); try go_wp2)
      go_roundg k1
      case measure => have := HK1.out; omega
      case rel => exact ⟨(wrap64 (x5_1 + 1)), si, H', ⟨by have := HK1.out; omega⟩, dr⟩
    ·rw [if_neg c4] at H; have c4b0 : decide (x5_1 < (l0.length : Int)) = false := decide_eq_false c4; clear c4; obtain rfl := Option.some.inj H; go_wp2
     repeat (go_quiet (fail); try go_wp2)
     go_ret; exact ⟨si, dr⟩
 ·rw [if_neg c3] at H; have c3b0 := beq_eq_false_iff_ne.mpr c3; have c3b1 := bne_iff_ne.mpr c3; have c3b2 : (l0.length == l1.length) = false := by first | simpa using c3 | (simp at c3 ⊢; omega)
  obtain rfl := Option.some.inj H; go_enter Tryd.func29, Tryd.ntmps29; go_wp2
  repeat (go_quiet (fail); try go_wp2)
  go_ret; exact ⟨si, dr⟩
def siglumlaw10_PairAligns.f (k : Nat) (l0 : List ByteArray) (l1 : List ByteArray) (a2_0 : Int) (a2_1 : Int) (a2_2 : Int) (a2_3 : Int) : Option (Bool) := (siglumlaw10_awake.f k).bind fun tU2 => (if tU2 = true then ((siglumref09_Light.f k l0 l1).bind fun tU3 => (if tU3 = true then ((pair_Align.f k l0 l1 a2_0 a2_1 a2_2 a2_3).bind fun btU4 => ((siglumref10_Align.f k l0 l1 a2_0 a2_1 a2_2 a2_3).bind fun btU9 => (if btU4.2.1 = btU9.2.1 then (if btU4.2.2 = btU9.2.2 then ((siglumref10_Same.f k btU4.1 btU9.1).bind fun tU14 => (some tU14)) else (some false)) else (some false)))) else (some true))) else (some false))
set_option maxHeartbeats 8000000 in
set_option maxRecDepth 100000 in
theorem siglumlaw10_PairAligns.calls (k : Nat) (A0 : Option Addr) (c0 : Nat) (l0 : List ByteArray) (A1 : Option Addr) (c1 : Nat) (l1 : List ByteArray) (a2_0 : Int) (a2_1 : Int) (a2_2 : Int) (a2_3 : Int) (r : Bool) (w : World) (hr0 : Kd.C Kd.string w A0 l0.length l0) (hc0 : l0.length ≤ c0) (hr1 : Kd.C Kd.string w A1 l1.length l1) (hc1 : l1.length ≤ c1) (hT : Utf.Tabs2 w) (h : siglumlaw10_PairAligns.f k l0 l1 a2_0 a2_1 a2_2 a2_3 = some r) :
 Calls Tryd.prog 9 #[.slice A0 l0.length c0, .slice A1 l1.length c1, .agg #[.int .i64 a2_0, .int .i64 a2_1, .int .i64 a2_2, .int .i64 a2_3]] w fun e w' => e = .returned (.bool r) ∧ Below w.heap.size w w' := by
 have hu23 := Tryd.underlying23; have HR0 := Aside0.mk hr0; have HC0 := Aside0.mk hc0; clear hr0 hc0; have HR1 := Aside0.mk hr1; have HC1 := Aside0.mk hc1; clear hr1 hc1; have HT := Aside0.mk hT; clear hT; have HB := Aside0.mk (Below.refl w.heap.size w); have H := h; clear h; unfold siglumlaw10_PairAligns.f at H; replace H := ob H; obtain ⟨tU2, A4, H⟩ := H; (try dsimp only at H)
 by_cases c5 : tU2 = true
 ·subst c5; rw [if_pos rfl] at H; replace H := ob H; obtain ⟨tU3, A6, H⟩ := H; (try dsimp only at H)
  by_cases c7 : tU3 = true
  ·subst c7; rw [if_pos rfl] at H; replace H := ob H; obtain ⟨⟨tU4, tU7, tU8⟩, A8, H⟩ := H; (try dsimp only at H); replace H := ob H; obtain ⟨⟨tU9, tU12, tU13⟩, A9, H⟩ := H; (try dsimp only at H)
   by_cases c10 : tU7 = tU12
   ·rw [if_pos c10] at H; have c10b0 := beq_iff_eq.mpr c10; have c10b1 := bne_eq_false_iff_eq.mpr c10; clear c10
    by_cases c11 : tU8 = tU13
    ·rw [if_pos c11] at H; have c11b0 := beq_iff_eq.mpr c11; have c11b1 := bne_eq_false_iff_eq.mpr c11; clear c11; replace H := ob H; obtain ⟨tU14, A12, H⟩ := H; (try dsimp only at H); obtain rfl := Option.some.inj H; go_enter Tryd.func9, Tryd.ntmps9; go_wp2_with (first | ((with_reducible refine gd 5 ?_); refine bz 5 #[.int .i64 a2_0, .int .i64 a2_1, .int .i64 a2_2, .int .i64 a2_3] 23 ?_; clear HB; intro gbU1 w13 BKU1 GWU1 HB; have GEU1 := GWU1) | ((with_reducible refine gc 26 ?_); refine gl 13 Tryd.func26 #[] ?_; (with_reducible refine (siglumlaw10_awake.calls k  true _ ?side1 A4.out).mono ?_); (case side1 => exact Utf.tabs_step2 HT.out bel); rintro e w14 ⟨rfl, hb⟩; refine ⟨_, rfl, ?_⟩; replace BKU1 := bb BKU1 hb; replace HB := bs hb; (try clear hb)) | ((with_reducible refine gc 21 ?_); refine gl 17 Tryd.func21 #[.slice A0 l0.length c0, .slice A1 l1.length c1] ?_; (with_reducible refine (siglumref09_Light.calls k _ _ l0 _ _ l1 true _ ?side1 ?side2 ?side3 ?side4 A6.out).mono ?_); (case side1 => exact cb HR0 HB); (case side2 => exact HC0.out); (case side3 => exact cb HR1 HB); (case side4 => exact HC1.out); rintro e w15 ⟨rfl, hb⟩; refine ⟨_, rfl, ?_⟩; replace BKU1 := bb BKU1 hb; replace HB := bs hb; (try clear hb); obtain ⟨z16_0, z16_1, z16_2, z16_3, f16_0, f16_1, f16_2, f16_3⟩ := cz4 BKU1) | ((with_reducible refine gc 27 ?_); refine gl 23 Tryd.func27 #[.slice A0 l0.length c0, .slice A1 l1.length c1, .agg #[.int .i64 a2_0, .int .i64 a2_1, .int .i64 a2_2, .int .i64 a2_3]] ?_; (with_reducible refine (pair_Align.calls k _ _ l0 _ _ l1 a2_0 a2_1 a2_2 a2_3 tU4 tU7 tU8 _ ?side1 ?side2 ?side3 ?side4 ?side5 A8.out).mono ?_); (case side1 => exact cb HR0 HB); (case side2 => exact HC0.out); (case side3 => exact cb HR1 HB); (case side4 => exact HC1.out); (case side5 => exact Utf.tabs_step2 HT.out bel); rintro e w17 ⟨vU5, rfl, ho0, hb⟩; refine ⟨_, rfl, ?_⟩; have HOU6 := Aside0.mk (Kd.R_lower ho0 (below_size bel)); replace BKU1 := bb BKU1 hb; replace HB := bs hb; (try clear hb); (try clear ho0); obtain ⟨z18_0, z18_1, z18_2, z18_3, f18_0, f18_1, f18_2, f18_3⟩ := cz4 BKU1) | ((with_reducible refine gc 28 ?_); refine gl 31 Tryd.func28 #[.slice A0 l0.length c0, .slice A1 l1.length c1, .agg #[.int .i64 a2_0, .int .i64 a2_1, .int .i64 a2_2, .int .i64 a2_3]] ?_; (with_reducible refine (siglumref10_Align.calls k _ _ l0 _ _ l1 a2_0 a2_1 a2_2 a2_3 tU9 tU12 tU13 _ ?side1 ?side2 ?side3 ?side4 A9.out).mono ?_); (case side1 => exact cb HR0 HB); (case side2 => exact HC0.out); (case side3 => exact cb HR1 HB); (case side4 => exact HC1.out); rintro e w19 ⟨vU10, rfl, ho0, hb⟩; refine ⟨_, rfl, ?_⟩; have n0_ := Aside0.mk (Kd.R_elder' (rl HOU6) (Kd.R_base ho0) hb); have n1_ := Aside0.mk (Kd.R_lower (Kd.R_new' ho0 (Kd.R_lt (rl HOU6))) (below_size bel)); have n2_ := bb BKU1 hb; have n3_ := bs hb; clear HOU6; clear BKU1; clear HB; have HOU6 := n0_; have HOU11 := n1_; have BKU1 := n2_; have HB := n3_; clear n0_ n1_ n2_ n3_; (try clear hb); (try clear ho0); obtain ⟨Ao20, co20, eo20⟩ := Kd.R_slice HOU6.out; subst eo20; obtain ⟨Ao21, co21, eo21⟩ := Kd.R_slice HOU11.out; subst eo21) | (go_at_call 29; (with_reducible refine (siglumref10_Same.calls k _ _ tU4 _ _ tU9 tU14 _ ?side1 ?side2 ?side3 ?side4 A12.out).mono ?_); (case side1 => repeat (first | exact (Kd.R_reads' HOU6.out).2.2 | (with_reducible refine Kd.C_alloc ?_ _) | (with_reducible refine Kd.C_drewN ?_ _) | (with_reducible refine Kd.C_drew ?_))); (case side2 => exact (Kd.R_reads' HOU6.out).2.1); (case side3 => repeat (first | exact (Kd.R_reads' HOU11.out).2.2 | (with_reducible refine Kd.C_alloc ?_ _) | (with_reducible refine Kd.C_drewN ?_ _) | (with_reducible refine Kd.C_drew ?_))); (case side4 => exact (Kd.R_reads' HOU11.out).2.1); rintro e w' ⟨rfl, ⟨nd, rfl⟩⟩))
     go_ret; exact ⟨fi, bel⟩
    ·rw [if_neg c11] at H; have c11b0 := beq_eq_false_iff_ne.mpr c11; have c11b1 := bne_iff_ne.mpr c11; obtain rfl := Option.some.inj H; go_enter Tryd.func9, Tryd.ntmps9; go_wp2_with (first | ((with_reducible refine gd 5 ?_); refine bz 5 #[.int .i64 a2_0, .int .i64 a2_1, .int .i64 a2_2, .int .i64 a2_3] 23 ?_; clear HB; intro gbU1 w22 BKU1 GWU1 HB; have GEU1 := GWU1) | ((with_reducible refine gc 26 ?_); refine gl 13 Tryd.func26 #[] ?_; (with_reducible refine (siglumlaw10_awake.calls k  true _ ?side1 A4.out).mono ?_); (case side1 => exact Utf.tabs_step2 HT.out bel); rintro e w23 ⟨rfl, hb⟩; refine ⟨_, rfl, ?_⟩; replace BKU1 := bb BKU1 hb; replace HB := bs hb; (try clear hb)) | ((with_reducible refine gc 21 ?_); refine gl 17 Tryd.func21 #[.slice A0 l0.length c0, .slice A1 l1.length c1] ?_; (with_reducible refine (siglumref09_Light.calls k _ _ l0 _ _ l1 true _ ?side1 ?side2 ?side3 ?side4 A6.out).mono ?_); (case side1 => exact cb HR0 HB); (case side2 => exact HC0.out); (case side3 => exact cb HR1 HB); (case side4 => exact HC1.out); rintro e w24 ⟨rfl, hb⟩; refine ⟨_, rfl, ?_⟩; replace BKU1 := bb BKU1 hb; replace HB := bs hb; (try clear hb); obtain ⟨z25_0, z25_1, z25_2, z25_3, f25_0, f25_1, f25_2, f25_3⟩ := cz4 BKU1) | ((with_reducible refine gc 27 ?_); refine gl 23 Tryd.func27 #[.slice A0 l0.length c0, .slice A1 l1.length c1, .agg #[.int .i64 a2_0, .int .i64 a2_1, .int .i64 a2_2, .int .i64 a2_3]] ?_; (with_reducible refine (pair_Align.calls k _ _ l0 _ _ l1 a2_0 a2_1 a2_2 a2_3 tU4 tU7 tU8 _ ?side1 ?side2 ?side3 ?side4 ?side5 A8.out).mono ?_); (case side1 => exact cb HR0 HB); (case side2 => exact HC0.out); (case side3 => exact cb HR1 HB); (case side4 => exact HC1.out); (case side5 => exact Utf.tabs_step2 HT.out bel); rintro e w26 ⟨vU5, rfl, ho0, hb⟩; refine ⟨_, rfl, ?_⟩; have HOU6 := Aside0.mk (Kd.R_lower ho0 (below_size bel)); replace BKU1 := bb BKU1 hb; replace HB := bs hb; (try clear hb); (try clear ho0); obtain ⟨z27_0, z27_1, z27_2, z27_3, f27_0, f27_1, f27_2, f27_3⟩ := cz4 BKU1) | ((with_reducible refine gc 28 ?_); refine gl 31 Tryd.func28 #[.slice A0 l0.length c0, .slice A1 l1.length c1, .agg #[.int .i64 a2_0, .int .i64 a2_1, .int .i64 a2_2, .int .i64 a2_3]] ?_; (with_reducible refine (siglumref10_Align.calls k _ _ l0 _ _ l1 a2_0 a2_1 a2_2 a2_3 tU9 tU12 tU13 _ ?side1 ?side2 ?side3 ?side4 A9.out).mono ?_); (case side1 => exact cb HR0 HB); (case side2 => exact HC0.out); (case side3 => exact cb HR1 HB); (case side4 => exact HC1.out); rintro e w28 ⟨vU10, rfl, ho0, hb⟩; refine ⟨_, rfl, ?_⟩; have n0_ := Aside0.mk (Kd.R_elder' (rl HOU6) (Kd.R_base ho0) hb); have n1_ := Aside0.mk (Kd.R_lower (Kd.R_new' ho0 (Kd.R_lt (rl HOU6))) (below_size bel)); have n2_ := bb BKU1 hb; have n3_ := bs hb; clear HOU6; clear BKU1; clear HB; have HOU6 := n0_; have HOU11 := n1_; have BKU1 := n2_; have HB := n3_; clear n0_ n1_ n2_ n3_; (try clear hb); (try clear ho0))); go_ret; exact ⟨fi, bel⟩
   ·rw [if_neg c10] at H; have c10b0 := beq_eq_false_iff_ne.mpr c10; have c10b1 := bne_iff_ne.mpr c10; obtain rfl := Option.some.inj H; go_enter Tryd.func9, Tryd.ntmps9; go_wp2_with (first | ((with_reducible refine gd 5 ?_); refine bz 5 #[.int .i64 a2_0, .int .i64 a2_1, .int .i64 a2_2, .int .i64 a2_3] 23 ?_; clear HB; intro gbU1 w29 BKU1 GWU1 HB; have GEU1 := GWU1) | ((with_reducible refine gc 26 ?_); refine gl 13 Tryd.func26 #[] ?_; (with_reducible refine (siglumlaw10_awake.calls k  true _ ?side1 A4.out).mono ?_); (case side1 => exact Utf.tabs_step2 HT.out bel); rintro e w30 ⟨rfl, hb⟩; refine ⟨_, rfl, ?_⟩; replace BKU1 := bb BKU1 hb; replace HB := bs hb; (try clear hb)) | ((with_reducible refine gc 21 ?_); refine gl 17 Tryd.func21 #[.slice A0 l0.length c0, .slice A1 l1.length c1] ?_; (with_reducible refine (siglumref09_Light.calls k _ _ l0 _ _ l1 true _ ?side1 ?side2 ?side3 ?side4 A6.out).mono ?_); (case side1 => exact cb HR0 HB); (case side2 => exact HC0.out); (case side3 => exact cb HR1 HB); (case side4 => exact HC1.out); rintro e w31 ⟨rfl, hb⟩; refine ⟨_, rfl, ?_⟩; replace BKU1 := bb BKU1 hb; replace HB := bs hb; (try clear hb); obtain ⟨z32_0, z32_1, z32_2, z32_3, f32_0, f32_1, f32_2, f32_3⟩ := cz4 BKU1) | ((with_reducible refine gc 27 ?_); refine gl 23 Tryd.func27 #[.slice A0 l0.length c0, .slice A1 l1.length c1, .agg #[.int .i64 a2_0, .int .i64 a2_1, .int .i64 a2_2, .int .i64 a2_3]] ?_; (with_reducible refine (pair_Align.calls k _ _ l0 _ _ l1 a2_0 a2_1 a2_2 a2_3 tU4 tU7 tU8 _ ?side1 ?side2 ?side3 ?side4 ?side5 A8.out).mono ?_); (case side1 => exact cb HR0 HB); (case side2 => exact HC0.out); (case side3 => exact cb HR1 HB); (case side4 => exact HC1.out); (case side5 => exact Utf.tabs_step2 HT.out bel); rintro e w33 ⟨vU5, rfl, ho0, hb⟩; refine ⟨_, rfl, ?_⟩; have HOU6 := Aside0.mk (Kd.R_lower ho0 (below_size bel)); replace BKU1 := bb BKU1 hb; replace HB := bs hb; (try clear hb); (try clear ho0); obtain ⟨z34_0, z34_1, z34_2, z34_3, f34_0, f34_1, f34_2, f34_3⟩ := cz4 BKU1) | ((with_reducible refine gc 28 ?_); refine gl 31 Tryd.func28 #[.slice A0 l0.length c0, .slice A1 l1.length c1, .agg #[.int .i64 a2_0, .int .i64 a2_1, .int .i64 a2_2, .int .i64 a2_3]] ?_; (with_reducible refine (siglumref10_Align.calls k _ _ l0 _ _ l1 a2_0 a2_1 a2_2 a2_3 tU9 tU12 tU13 _ ?side1 ?side2 ?side3 ?side4 A9.out).mono ?_); (case side1 => exact cb HR0 HB); (case side2 => exact HC0.out); (case side3 => exact cb HR1 HB); (case side4 => exact HC1.out); rintro e w35 ⟨vU10, rfl, ho0, hb⟩; refine ⟨_, rfl, ?_⟩; have n0_ := Aside0.mk (Kd.R_elder' (rl HOU6) (Kd.R_base ho0) hb); have n1_ := Aside0.mk (Kd.R_lower (Kd.R_new' ho0 (Kd.R_lt (rl HOU6))) (below_size bel)); have n2_ := bb BKU1 hb; have n3_ := bs hb; clear HOU6; clear BKU1; clear HB; have HOU6 := n0_; have HOU11 := n1_; have BKU1 := n2_; have HB := n3_; clear n0_ n1_ n2_ n3_; (try clear hb); (try clear ho0))); go_ret; exact ⟨fi, bel⟩
  ·replace c7 := Bool.eq_false_iff.mpr c7; subst c7; rw [if_neg nf] at H; obtain rfl := Option.some.inj H; go_enter Tryd.func9, Tryd.ntmps9; go_wp2_with (first | ((with_reducible refine gd 5 ?_); refine bz 5 #[.int .i64 a2_0, .int .i64 a2_1, .int .i64 a2_2, .int .i64 a2_3] 23 ?_; clear HB; intro gbU1 w36 BKU1 GWU1 HB; have GEU1 := GWU1) | ((with_reducible refine gc 26 ?_); refine gl 13 Tryd.func26 #[] ?_; (with_reducible refine (siglumlaw10_awake.calls k  true _ ?side1 A4.out).mono ?_); (case side1 => exact Utf.tabs_step2 HT.out bel); rintro e w37 ⟨rfl, hb⟩; refine ⟨_, rfl, ?_⟩; replace BKU1 := bb BKU1 hb; replace HB := bs hb; (try clear hb)) | ((with_reducible refine gc 21 ?_); refine gl 17 Tryd.func21 #[.slice A0 l0.length c0, .slice A1 l1.length c1] ?_; (with_reducible refine (siglumref09_Light.calls k _ _ l0 _ _ l1 false _ ?side1 ?side2 ?side3 ?side4 A6.out).mono ?_); (case side1 => exact cb HR0 HB); (case side2 => exact HC0.out); (case side3 => exact cb HR1 HB); (case side4 => exact HC1.out); rintro e w38 ⟨rfl, hb⟩; refine ⟨_, rfl, ?_⟩; replace BKU1 := bb BKU1 hb; replace HB := bs hb; (try clear hb))); go_ret; exact ⟨fi, bel⟩
 ·replace c5 := Bool.eq_false_iff.mpr c5; subst c5; rw [if_neg nf] at H; obtain rfl := Option.some.inj H; go_enter Tryd.func9, Tryd.ntmps9; go_wp2_with (first | ((with_reducible refine gd 5 ?_); refine bz 5 #[.int .i64 a2_0, .int .i64 a2_1, .int .i64 a2_2, .int .i64 a2_3] 23 ?_; clear HB; intro gbU1 w39 BKU1 GWU1 HB; have GEU1 := GWU1) | ((with_reducible refine gc 26 ?_); refine gl 13 Tryd.func26 #[] ?_; (with_reducible refine (siglumlaw10_awake.calls k  false _ ?side1 A4.out).mono ?_); (case side1 => exact Utf.tabs_step2 HT.out bel); rintro e w40 ⟨rfl, hb⟩; refine ⟨_, rfl, ?_⟩; replace BKU1 := bb BKU1 hb; replace HB := bs hb; (try clear hb))); go_ret; exact ⟨fi, bel⟩
end Go.Proofs.YtcpbalnbgmjhjaaDoor.Q
namespace Go.Proofs.YtcpbalnbgmjhjaaDoor.Q
open Go.RowKit Go.Proofs.YtcpbalnbgmjhjaaDoorW.PrintWords Go.Proofs.YtcpbalnbgmjhjaaDoorW.PrintLast Go.Proofs.YtcpbalnbgmjhjaaDoorW.PrintMore
attribute [local go_sem] min2_int min_two min_three
set_option linter.unusedVariables false
set_option linter.unusedSimpArgs false
mutual
def pair_Right.l0 : Nat → Int → Int → Int → Int → List (S61) → Int → Int → Option (Bool)
  | 0, _, _, _, _, _, _, _ => none
  | k + 1, x0, x1, x7, x8, x11, x12, x13 => if x13 < x12 then (if 0 ≤ x13 then (if x13 < (x11.length : Int) then (if ((rd_T61 x11 x13).f0) = x7 then (if ((rd_T61 x11 x13).f1) = x8 then (if x7 < x0 then (pair_Right.j1 k x0 x1 x7 x8 x11 x12 x13 (decide (x8 < x1)) ((rd_T61 x11 x13).f0) ((rd_T61 x11 x13).f1)) else (pair_Right.j1 k x0 x1 x7 x8 x11 x12 x13 false ((rd_T61 x11 x13).f0) ((rd_T61 x11 x13).f1))) else (pair_Right.j1 k x0 x1 x7 x8 x11 x12 x13 false ((rd_T61 x11 x13).f0) ((rd_T61 x11 x13).f1))) else (pair_Right.j1 k x0 x1 x7 x8 x11 x12 x13 false ((rd_T61 x11 x13).f0) ((rd_T61 x11 x13).f1))) else (none)) else (none)) else (if x7 = x0 then (some (x8 == x1)) else (some false))
def pair_Right.j1 : Nat → Int → Int → Int → Int → List (S61) → Int → Int → Bool → Int → Int → Option (Bool)
  | 0, _, _, _, _, _, _, _, _, _, _ => none
  | k + 1, x0, x1, x7, x8, x11, x12, x13, x17, xU3U0, xU3U1 => if x17 = true then (pair_Right.l0 k x0 x1 (wrap64 (x7 + 1)) (wrap64 (x8 + 1)) x11 x12 (wrap64 (x13 + 1))) else (if xU3U0 = x7 then (if xU3U1 = (-1) then (pair_Right.j2 k x0 x1 x7 x8 x11 x12 x13 (decide (x7 < x0)) xU3U0 xU3U1) else (pair_Right.j2 k x0 x1 x7 x8 x11 x12 x13 false xU3U0 xU3U1)) else (pair_Right.j2 k x0 x1 x7 x8 x11 x12 x13 false xU3U0 xU3U1))
def pair_Right.j2 : Nat → Int → Int → Int → Int → List (S61) → Int → Int → Bool → Int → Int → Option (Bool)
  | 0, _, _, _, _, _, _, _, _, _, _ => none
  | k + 1, x0, x1, x7, x8, x11, x12, x13, x42, xU3U0, xU3U1 => if x42 = true then (pair_Right.l0 k x0 x1 (wrap64 (x7 + 1)) x8 x11 x12 (wrap64 (x13 + 1))) else (if xU3U0 = (-1) then (if xU3U1 = x8 then (if x8 < x1 then (pair_Right.l0 k x0 x1 x7 (wrap64 (x8 + 1)) x11 x12 (wrap64 (x13 + 1))) else (some false)) else (some false)) else (some false))
end
def pair_Right.f (k : Nat) (a0 : Int) (a1 : Int) (l2 : List (S61)) : Option (Bool) := pair_Right.l0 k a0 a1 0 0 l2 (l2.length : Int) 0
end Go.Proofs.YtcpbalnbgmjhjaaDoor.Q
namespace Go.Proofs.YtcpbalnbgmjhjaaDoor.Q
open Go.RowKit Go.Proofs.YtcpbalnbgmjhjaaDoorW.PrintWords Go.Proofs.YtcpbalnbgmjhjaaDoorW.PrintLast Go.Proofs.YtcpbalnbgmjhjaaDoorW.PrintMore
attribute [local go_sem] min2_int min_two min_three
set_option linter.unusedVariables false
set_option linter.unusedSimpArgs false
def pair_Price.l0 : Nat → List (List Int) → Int → List (S61) → Int → Int → Int → Int → Int → Int → Option (Int × Int)
 | 0, _, _, _, _, _, _, _, _, _ => none
 | k + 1, x10, x12, x34, x35, x36, xU2U0, xU2U1, xU2U2, xU2U3 => if x36 < x35 then (if 0 ≤ x36 then (if x36 < (x34.length : Int) then (if ((rd_T61 x34 x36).f0) < 0 then (pair_Price.l0 k x10 (wrap64 (x12 + xU2U0)) x34 x35 (wrap64 (x36 + 1)) xU2U0 xU2U1 xU2U2 xU2U3) else (if ((rd_T61 x34 x36).f1) < 0 then (pair_Price.l0 k x10 (wrap64 (x12 + xU2U0)) x34 x35 (wrap64 (x36 + 1)) xU2U0 xU2U1 xU2U2 xU2U3) else (if 0 ≤ ((rd_T61 x34 x36).f0) then (if ((rd_T61 x34 x36).f0) < (x10.length : Int) then (if 0 ≤ ((rd_T61 x34 x36).f1) then (if ((rd_T61 x34 x36).f1) < ((rd_L11 x10 ((rd_T61 x34 x36).f0)).length : Int) then (pair_Price.l0 k x10 (wrap64 (x12 + (rd (rd_L11 x10 ((rd_T61 x34 x36).f0)) ((rd_T61 x34 x36).f1)))) x34 x35 (wrap64 (x36 + 1)) xU2U0 xU2U1 xU2U2 xU2U3) else (none)) else (none)) else (none)) else (none)))) else (none)) else (none)) else (some (x12, 0))
def pair_Price.f (k : Nat) (l0 : List ByteArray) (l1 : List ByteArray) (l2 : List (S61)) (a3_0 : Int) (a3_1 : Int) (a3_2 : Int) (a3_3 : Int) : Option (Int × Int) := (cost_Grid.f k l0 l1 a3_0 a3_1 a3_2 a3_3).bind fun btU2 => (if btU2.2 = 0 then ((pair_Right.f k (l0.length : Int) (l1.length : Int) l2).bind fun tU6 => (if tU6 = true then (pair_Price.l0 k btU2.1 0 l2 (l2.length : Int) 0 a3_0 a3_1 a3_2 a3_3) else (some (0, 2)))) else (some (0, btU2.2)))
end Go.Proofs.YtcpbalnbgmjhjaaDoor.Q
/-
  Is it an alignment, and what does it cost: the program's answers in plain numbers.
-/
namespace Go.Proofs.YtcpbalnbgmjhjaaDoor.Pure
open Go.RowKit Go.Proofs.YtcpbalnbgmjhjaaDoor.Q Go.Proofs.YtcpbalnbgmjhjaaDoorW.PrintWords Go.Proofs.YtcpbalnbgmjhjaaDoorW.PrintLast Go.Proofs.YtcpbalnbgmjhjaaDoorW.PrintMore
def rightL (n m : Int) : List S61 → Int → Int → Bool
  | [], i, j => decide (i = n ∧ j = m)
  | p :: l, i, j =>
    if p.f0 = i ∧ p.f1 = j ∧ i < n ∧ j < m then rightL n m l (i + 1) (j + 1)
    else if p.f0 = i ∧ p.f1 = -1 ∧ i < n then rightL n m l (i + 1) j
    else if p.f0 = -1 ∧ p.f1 = j ∧ j < m then rightL n m l i (j + 1) else false
theorem rightL_in (N M : Nat) : ∀ (l : List S61) (i j : Nat), i ≤ N → j ≤ M → rightL N M l i j = true → l.length ≤ (N - i) + (M - j) ∧ ∀ p ∈ l, (p.f0 = -1 ∧ 0 ≤ p.f1 ∧ p.f1 < M) ∨ (p.f1 = -1 ∧ 0 ≤ p.f0 ∧ p.f0 < N) ∨ (0 ≤ p.f0 ∧ p.f0 < N ∧ 0 ≤ p.f1 ∧ p.f1 < M) := by
  intro l
  induction l with
  | nil => intro i j hi hj h; exact ⟨Nat.zero_le _, fun p hp => by cases hp⟩
  | cons p l IH =>
    intro i j hi hj h; rw [rightL] at h; have ci : ((i : Int) + 1) = ((i + 1 : Nat) : Int) := by omega
    have cj : ((j : Int) + 1) = ((j + 1 : Nat) : Int) := by omega
    by_cases h1 : p.f0 = (i : Int) ∧ p.f1 = (j : Int) ∧ (i : Int) < N ∧ (j : Int) < M
    · rw [if_pos h1, ci, cj] at h
      obtain ⟨a, b⟩ := IH (i + 1) (j + 1) (by omega) (by omega) h; refine ⟨by rw [List.length_cons]; omega, fun q hq => ?_⟩
      rcases List.mem_cons.1 hq with rfl | hq
      · exact Or.inr (Or.inr ⟨by omega, by omega, by omega, by omega⟩)
      · exact b q hq
    · rw [if_neg h1] at h
      by_cases h2 : p.f0 = (i : Int) ∧ p.f1 = -1 ∧ (i : Int) < N
      · rw [if_pos h2, ci] at h
        obtain ⟨a, b⟩ := IH (i + 1) j (by omega) hj h; refine ⟨by rw [List.length_cons]; omega, fun q hq => ?_⟩
        rcases List.mem_cons.1 hq with rfl | hq
        · exact Or.inr (Or.inl ⟨by omega, by omega, by omega⟩)
        · exact b q hq
      · rw [if_neg h2] at h
        by_cases h3 : p.f0 = -1 ∧ p.f1 = (j : Int) ∧ (j : Int) < M
        · rw [if_pos h3, cj] at h
          obtain ⟨a, b⟩ := IH i (j + 1) hi (by omega) h; refine ⟨by rw [List.length_cons]; omega, fun q hq => ?_⟩
          rcases List.mem_cons.1 hq with rfl | hq
          · exact Or.inl ⟨by omega, by omega, by omega⟩
          · exact b q hq
        · rw [if_neg h3] at h
          cases h
def costP (T : List (List Int)) (g : Int) (p : S61) : Int := if p.f0 < 0 ∨ p.f1 < 0 then g else at2 T p.f0.toNat p.f1.toNat
def costL (T : List (List Int)) (g : Int) : List S61 → Int
  | [] => 0
  | p :: l => costP T g p + costL T g l
section
variable (X Y : List ByteArray) (g n f o : Int) (hg : 1 ≤ g ∧ g ≤ 1000) (hn : 1 ≤ n ∧ n ≤ 1000) (hf : 1 ≤ f ∧ f ≤ 1000) (hX : X.length ≤ 1024) (hY : Y.length ≤ 1024)
include hg hn hf
end
def priceR (X Y : List ByteArray) (L : List S61) (g n f o : Int) : Int × Int := if (gridR X Y g n f o).2 = 0 then (if rightL X.length Y.length L 0 0 = true then (costL (gridP X Y n f o) g L, 0) else (0, 2)) else (0, (gridR X Y g n f o).2)
end Go.Proofs.YtcpbalnbgmjhjaaDoor.Pure
namespace Go.Proofs.YtcpbalnbgmjhjaaDoor.Q
open Go.RowKit Go.Proofs.YtcpbalnbgmjhjaaDoorW.PrintWords Go.Proofs.YtcpbalnbgmjhjaaDoorW.PrintLast Go.Proofs.YtcpbalnbgmjhjaaDoorW.PrintMore
attribute [local go_sem] min2_int min_two min_three
set_option linter.unusedVariables false
set_option linter.unusedSimpArgs false
mutual
def siglumref10_Right.j0 : Nat → Int → Int → List (S61) → Bool → Option (Bool)
  | 0, _, _, _, _ => none
  | k + 1, x0, x1, x2, x16 => if x16 = true then (some false) else (siglumref10_Right.l0 k x0 x1 x2 0 0 0)
def siglumref10_Right.l0 : Nat → Int → Int → List (S61) → Int → Int → Int → Option (Bool)
  | 0, _, _, _, _, _, _ => none
  | k + 1, x0, x1, x2, x7, x8, x9 => if x9 < (x2.length : Int) then (if 0 ≤ x9 then (if ((rd_T61 x2 x9).f0) = (-1) then (siglumref10_Right.j2 k x0 x1 x2 x7 x8 x9 (((rd_T61 x2 x9).f1) == (-1)) ((rd_T61 x2 x9).f0) ((rd_T61 x2 x9).f1)) else (siglumref10_Right.j2 k x0 x1 x2 x7 x8 x9 false ((rd_T61 x2 x9).f0) ((rd_T61 x2 x9).f1))) else (none)) else (if x7 = x0 then (some (x8 == x1)) else (some false))
def siglumref10_Right.j2 : Nat → Int → Int → List (S61) → Int → Int → Int → Bool → Int → Int → Option (Bool)
  | 0, _, _, _, _, _, _, _, _, _ => none
  | k + 1, x0, x1, x2, x7, x8, x9, x34, xU3U0, xU3U1 => if x34 = true then (some false) else (if xU3U0 = (-1) then (siglumref10_Right.j3 k x0 x1 x2 x7 x8 x9 xU3U0 xU3U1) else (if xU3U0 = x7 then (if x7 ≥ x0 then (some false) else (siglumref10_Right.j3 k x0 x1 x2 (wrap64 (x7 + 1)) x8 x9 xU3U0 xU3U1)) else (some false)))
def siglumref10_Right.j3 : Nat → Int → Int → List (S61) → Int → Int → Int → Int → Int → Option (Bool)
  | 0, _, _, _, _, _, _, _, _ => none
  | k + 1, x0, x1, x2, x7, x8, x9, xU3U0, xU3U1 => if xU3U1 = (-1) then (siglumref10_Right.l0 k x0 x1 x2 x7 x8 (wrap64 (x9 + 1))) else (if xU3U1 = x8 then (if x8 ≥ x1 then (some false) else (siglumref10_Right.l0 k x0 x1 x2 x7 (wrap64 (x8 + 1)) (wrap64 (x9 + 1)))) else (some false))
end
def siglumref10_Right.f (k : Nat) (a0 : Int) (a1 : Int) (l2 : List (S61)) : Option (Bool) := if a0 < 0 then (siglumref10_Right.j0 k a0 a1 l2 true) else (siglumref10_Right.j0 k a0 a1 l2 (decide (a1 < 0)))
end Go.Proofs.YtcpbalnbgmjhjaaDoor.Q
namespace Go.Proofs.YtcpbalnbgmjhjaaDoor.Q
open Go.RowKit Go.Proofs.YtcpbalnbgmjhjaaDoorW.PrintWords Go.Proofs.YtcpbalnbgmjhjaaDoorW.PrintLast Go.Proofs.YtcpbalnbgmjhjaaDoorW.PrintMore
attribute [local go_sem] min2_int min_two min_three
set_option linter.unusedVariables false
set_option linter.unusedSimpArgs false
def siglumref10_Price.l0 : Nat → List (S61) → List (List Int) → Int → Int → Int → Int → Int → Int → Option (Int × Int)
  | 0, _, _, _, _, _, _, _, _ => none
  | k + 1, x2, x10, x12, x13, xU2U0, xU2U1, xU2U2, xU2U3 => if x13 < (x2.length : Int) then (if 0 ≤ x13 then (if ((rd_T61 x2 x13).f0) = (-1) then (siglumref10_Price.l0 k x2 x10 (wrap64 (x12 + xU2U0)) (wrap64 (x13 + 1)) xU2U0 xU2U1 xU2U2 xU2U3) else (if ((rd_T61 x2 x13).f1) = (-1) then (siglumref10_Price.l0 k x2 x10 (wrap64 (x12 + xU2U0)) (wrap64 (x13 + 1)) xU2U0 xU2U1 xU2U2 xU2U3) else (if 0 ≤ ((rd_T61 x2 x13).f0) then (if ((rd_T61 x2 x13).f0) < (x10.length : Int) then (if 0 ≤ ((rd_T61 x2 x13).f1) then (if ((rd_T61 x2 x13).f1) < ((rd_L11 x10 ((rd_T61 x2 x13).f0)).length : Int) then (siglumref10_Price.l0 k x2 x10 (wrap64 (x12 + (rd (rd_L11 x10 ((rd_T61 x2 x13).f0)) ((rd_T61 x2 x13).f1)))) (wrap64 (x13 + 1)) xU2U0 xU2U1 xU2U2 xU2U3) else (none)) else (none)) else (none)) else (none)))) else (none)) else (some (x12, 0))
def siglumref10_Price.f (k : Nat) (l0 : List ByteArray) (l1 : List ByteArray) (l2 : List (S61)) (a3_0 : Int) (a3_1 : Int) (a3_2 : Int) (a3_3 : Int) : Option (Int × Int) := (siglumref09_Grid.f k l0 l1 a3_0 a3_1 a3_2 a3_3).bind fun btU2 => (if btU2.2 = 0 then ((siglumref10_Right.f k (l0.length : Int) (l1.length : Int) l2).bind fun tU6 => (if tU6 = true then (siglumref10_Price.l0 k l2 btU2.1 0 0 a3_0 a3_1 a3_2 a3_3) else (some (0, 2)))) else (some (0, btU2.2)))
end Go.Proofs.YtcpbalnbgmjhjaaDoor.Q
/-
  The document's answers about two lists of words, in plain numbers: the grid, the least prices, the alignment, the price.
-/
namespace Go.Proofs.YtcpbalnbgmjhjaaDoor.Pure
open Go.RowKit Go.Proofs.YtcpbalnbgmjhjaaDoor.Q Go.Proofs.YtcpbalnbgmjhjaaDoorW.PrintWords Go.Proofs.YtcpbalnbgmjhjaaDoorW.PrintLast Go.Proofs.YtcpbalnbgmjhjaaDoorW.PrintMore
structure okD (X Y : List ByteArray) (g n f o : Int) (T : List (List Int)) (i j0 : Nat) : Prop where
  len : T.length = X.length + 1
  lens : ∀ p, i ≤ p → p ≤ X.length → (T.getD p []).length = Y.length + 1
  here : ∀ p q, p ≤ X.length → q ≤ Y.length → (i < p ∨ (i = p ∧ j0 ≤ q)) → at2 T p q = dR (wO n f o) g X Y p q
def tabD (X Y : List ByteArray) (g n f o : Int) : List (List Int) := (List.range (X.length + 1)).map fun p => (List.range (Y.length + 1)).map fun q => dR (wO n f o) g X Y p q
theorem tabD_row (X Y : List ByteArray) (g n f o : Int) (p : Nat) (hp : p ≤ X.length) : (tabD X Y g n f o).getD p [] = (List.range (Y.length + 1)).map fun q => dR (wO n f o) g X Y p q := by
  unfold tabD; rw [getD_get _ _ (by rw [List.length_map, List.length_range]; omega), List.getElem_map, List.getElem_range]
theorem tabD_ok (X Y : List ByteArray) (g n f o : Int) : (tabD X Y g n f o).length = X.length + 1 ∧ (∀ p, p ≤ X.length → ((tabD X Y g n f o).getD p []).length = Y.length + 1) ∧ ∀ p q, p ≤ X.length → q ≤ Y.length → at2 (tabD X Y g n f o) p q = dR (wO n f o) g X Y p q := by
  refine ⟨by unfold tabD; rw [List.length_map, List.length_range], fun p hp => by rw [tabD_row _ _ _ _ _ _ _ hp, List.length_map, List.length_range], fun p q hp hq => ?_⟩; unfold at2; rw [tabD_row _ _ _ _ _ _ _ hp, getD_get _ _ (by rw [List.length_map, List.length_range]; omega), List.getElem_map, List.getElem_range]
theorem tabD_of (X Y : List ByteArray) (g n f o : Int) (T : List (List Int)) (h1 : T.length = X.length + 1) (h2 : ∀ p, p ≤ X.length → (T.getD p []).length = Y.length + 1) (h3 : ∀ p q, p ≤ X.length → q ≤ Y.length → at2 T p q = dR (wO n f o) g X Y p q) : T = tabD X Y g n f o := by
  obtain ⟨a, b, c⟩ := tabD_ok X Y g n f o; refine List.ext_getElem (by omega) fun p p1 p2 => ?_
  rw [← getD_get T p p1 [], ← getD_get _ p p2 []]; refine List.ext_getElem (by rw [h2 p (by omega), b p (by omega)]) fun q q1 q2 => ?_
  have e1 := h3 p q (by omega) (by have := h2 p (by omega); omega); have e2 := c p q (by omega) (by have := h2 p (by omega); omega); unfold at2 at e1 e2; rw [getD_get _ _ q1] at e1; rw [getD_get _ _ q2] at e2; rw [e1, e2]
section
variable (X Y : List ByteArray) (g n f o : Int) (hg : 1 ≤ g ∧ g ≤ 1000) (hn : 1 ≤ n ∧ n ≤ 1000) (hf : 1 ≤ f ∧ f ≤ 1000) (hX : X.length ≤ 1024) (hY : Y.length ≤ 1024)
include hX hY hg hn hf
theorem rests_l1 (i : Nat) (hi : i ≤ X.length) (R : List (List Int)) (ih : ∀ T, okD X Y g n f o T i 0 → Ev (fun k => siglumref10_Rests.l0 k (gridP X Y n f o) (X.length : Int) (Y.length : Int) g T (wrap64 ((i : Int) - 1))) R) :
    ∀ (J : Nat) (T : List (List Int)) (x : Int), J ≤ Y.length + 1 → x = (J : Int) - 1 → okD X Y g n f o T i J →
    Ev (fun k => siglumref10_Rests.l1 k (gridP X Y n f o) (X.length : Int) (Y.length : Int) g T (i : Int) x) R := by
  intro J
  induction J with
  | zero =>
    intro T x hJ hx hT; exact Ev.step (fun k => by rw [siglumref10_Rests.l1, if_neg (by omega)]) (ih T hT)
  | succ j IH =>
    intro T x hJ hx hT; obtain rfl : x = (j : Int) := by omega
    have hgw : ∀ x y, 0 ≤ wO n f o x y := fun x y => (wO_range n f o hn.1 hf x y).1
    have rij := dR_range (wO n f o) g ⟨by omega, hg.2⟩ hgw X Y hX hY i j; have eT := hT.len; have eL : (rd_L11 T (i : Int)).length = Y.length + 1 := hT.lens i (Nat.le_refl _) hi
    have fin : Ev (fun k => siglumref10_Rests.l1 k (gridP X Y n f o) (X.length : Int) (Y.length : Int) g (setT T i j (dR (wO n f o) g X Y i j)) (i : Int) (wrap64 ((j : Int) - 1))) R := by
      have u := upd_set T i j (dR (wO n f o) g X Y i j) (by omega) (by have := hT.lens i (Nat.le_refl _) hi; omega); refine IH _ _ (by omega) (ws _ (by omega) (by omega)) ⟨u.len.trans hT.len, fun p h1 h2 => (u.lens p).trans (hT.lens p h1 h2), fun p q hp hq h => ?_⟩
      by_cases e : p = i ∧ q = j
      · obtain ⟨rfl, rfl⟩ := e
        exact u.here
      · rw [u.else_ _ _ e]
        exact hT.here p q hp hq (by omega)
    have s1 : ∀ v, T.set i ((rd_L11 T (i : Int)).set j v) = setT T i j v := fun v => rfl
    by_cases hin : i = X.length
    · have he := dR_endl (wO n f o) g X Y j (by omega)
      rw [← hin] at he; refine Ev.step (fun k => ?_) fin; rw [siglumref10_Rests.l1, if_pos (by omega), if_pos (by omega), if_pos (by omega), if_pos (by omega), if_pos (by omega), if_pos (by omega), ws ((Y.length : Int) - (j : Int)) (by omega) (by omega), ← he, ws _ (by omega) (by omega)]; simp only [Int.toNat_natCast]; rw [s1]
    · by_cases hjm : j = Y.length
      · have he := dR_endr (wO n f o) g X Y i (by omega)
        rw [← hjm] at he; refine Ev.step (fun k => ?_) fin; rw [siglumref10_Rests.l1, if_pos (by omega), if_neg (by omega), if_pos (by omega), if_pos (by omega), if_pos (by omega), if_pos (by omega), if_pos (by omega), ws ((X.length : Int) - (i : Int)) (by omega) (by omega), ← he, ws _ (by omega) (by omega)]; simp only [Int.toNat_natCast]; rw [s1]
      · have hi' : i < X.length := by omega
        have hj' : j < Y.length := by omega
        have r11 := dR_range (wO n f o) g ⟨by omega, hg.2⟩ hgw X Y hX hY (i + 1) (j + 1); have r10 := dR_range (wO n f o) g ⟨by omega, hg.2⟩ hgw X Y hX hY (i + 1) j; have r01 := dR_range (wO n f o) g ⟨by omega, hg.2⟩ hgw X Y hX hY i (j + 1); have rw_ := wO_range n f o hn.1 hf X[i] Y[j]; have hD := dR_step (wO n f o) g X Y i j hi' hj'; have e1 : rd (rd_L11 T ((i + 1 : Nat) : Int)) ((j + 1 : Nat) : Int) = dR (wO n f o) g X Y (i + 1) (j + 1) := hT.here (i + 1) (j + 1) (by omega) (by omega) (by omega); have e2 : rd (rd_L11 (gridP X Y n f o) (i : Int)) (j : Int) = wO n f o X[i] Y[j] := grid_at X Y n f o i j hi' hj'; have e2l : (rd_L11 (gridP X Y n f o) (i : Int)).length = Y.length := grid_rlen X Y n f o i hi'; have e3 : rd (rd_L11 T ((i + 1 : Nat) : Int)) (j : Int) = dR (wO n f o) g X Y (i + 1) j := hT.here (i + 1) j (by omega) (by omega) (by omega); have e4 : rd (rd_L11 T (i : Int)) ((j + 1 : Nat) : Int) = dR (wO n f o) g X Y i (j + 1) := hT.here i (j + 1) (by omega) (by omega) (by omega); have eL1 : (rd_L11 T ((i + 1 : Nat) : Int)).length = Y.length + 1 := hT.lens (i + 1) (by omega) (by omega); have eG := grid_len X Y n f o; refine Ev.step (fun k => ?_) fin; rw [siglumref10_Rests.l1, if_pos (by omega), if_neg (by omega), if_neg (by omega), wsucc i (by omega), wsucc j (by omega), if_pos (by omega), if_pos (by omega), if_pos (by omega), if_pos (by omega), if_pos (by omega), if_pos (by omega), if_pos (by omega), if_pos (by omega), if_pos (by omega), if_pos (by omega), if_pos (by omega), if_pos (by omega), e1, e2, e3, e4]; generalize dR (wO n f o) g X Y (i + 1) (j + 1) = D11 at r11 hD; generalize dR (wO n f o) g X Y (i + 1) j = D10 at r10 hD; generalize dR (wO n f o) g X Y i (j + 1) = D01 at r01 hD; generalize wO n f o X[i] Y[j] = W at rw_ hD; rw [ws (D11 + W) (by omega) (by omega), ws (D10 + g) (by omega) (by omega), ws (D01 + g) (by omega) (by omega), mn_eq, mn_eq, ← hD]; simp only [Int.toNat_natCast]; rw [s1]
theorem rests_l0 : ∀ (I : Nat) (T : List (List Int)) (x : Int), I ≤ X.length + 1 → x = (I : Int) - 1 → T.length = X.length + 1 → (∀ p, I ≤ p → p ≤ X.length → (T.getD p []).length = Y.length + 1) → (∀ p q, I ≤ p → p ≤ X.length → q ≤ Y.length → at2 T p q = dR (wO n f o) g X Y p q) →
    Ev (fun k => siglumref10_Rests.l0 k (gridP X Y n f o) (X.length : Int) (Y.length : Int) g T x) (tabD X Y g n f o) := by
  intro I
  induction I with
  | zero =>
    intro T x hI hx h1 h2 h3; rw [← tabD_of X Y g n f o T h1 (fun p hp => h2 p (Nat.zero_le _) hp) (fun p q hp hq => h3 p q (Nat.zero_le _) hp hq)]; exact Ev.step (f := fun _ => some T) (fun k => by rw [siglumref10_Rests.l0, if_neg (by omega)]) (Ev.now _)
  | succ i IH =>
    intro T x hI hx h1 h2 h3; obtain rfl : x = (i : Int) := by omega
    refine Ev.step (f := fun k => siglumref10_Rests.l1 k (gridP X Y n f o) (X.length : Int) (Y.length : Int) g (T.set i (List.replicate (Y.length + 1) 0)) (i : Int) (Y.length : Int)) (fun k => by
      rw [siglumref10_Rests.l0, if_pos (by omega), wsucc Y.length (by omega), if_pos (by omega), if_pos (by omega), if_pos (by omega), if_pos (by omega), Int.toNat_natCast, Int.toNat_natCast]) ?_
    refine rests_l1 X Y g n f o hg hn hf hX hY i (by omega) _ (fun T' h => IH T' _ (by omega) (ws _ (by omega) (by omega)) h.len (fun p a b => h.lens p a b) (fun p q a b c => h.here p q b c (by omega))) (Y.length + 1) _ _ (Nat.le_refl _) (by omega) ⟨by rw [List.length_set]; exact h1, fun p a b => ?_, fun p q a b c => ?_⟩
    · by_cases e : i = p
      · subst e; rw [getD_set_same _ _ (by omega), List.length_replicate]
      · rw [getD_set_ne _ _ _ e]; exact h2 p (by omega) b
    · unfold at2
      rw [getD_set_ne _ _ _ (by omega)]; exact h3 p q (by omega) a b
theorem rests_eq : Ev (fun k => siglumref10_Rests.f k (gridP X Y n f o) (X.length : Int) (Y.length : Int) g) (tabD X Y g n f o) := by
  refine Ev.congr (f := fun k => siglumref10_Rests.l0 k (gridP X Y n f o) (X.length : Int) (Y.length : Int) g (List.replicate (X.length + 1) []) (X.length : Int)) (fun k => by
    unfold siglumref10_Rests.f; rw [wsucc X.length (by omega), if_pos (by omega), if_pos (by omega), Int.toNat_natCast]) ?_
  exact rests_l0 X Y g n f o hg hn hf hX hY (X.length + 1) _ _ (Nat.le_refl _) (by omega) (by rw [List.length_replicate]) (fun p a b => by omega) (fun p q a b c => by omega)
theorem walk_loop : ∀ (d i j : Nat) (acc : List S61), (X.length - i) + (Y.length - j) ≤ d → i ≤ X.length → j ≤ Y.length → acc.length + (X.length - i) + (Y.length - j) ≤ 2048 →
    Ev (fun k => siglumref10_Walk.l0 k (gridP X Y n f o) (X.length : Int) (Y.length : Int) g (tabD X Y g n f o) acc (i : Int) (j : Int)) (acc ++ pL (wO n f o) g (X.drop i) (Y.drop j) i j, dL (wO n f o) g X Y) := by
  have hT := tabD_ok X Y g n f o
  have e00 : rd (rd_L11 (tabD X Y g n f o) 0) 0 = dL (wO n f o) g X Y := by
    have := hT.2.2 0 0 (Nat.zero_le _) (Nat.zero_le _); unfold dR at this; exact this
  have hl0 : (rd_L11 (tabD X Y g n f o) 0).length = Y.length + 1 := hT.2.1 0 (Nat.zero_le _); have eT := hT.1; have eG := grid_len X Y n f o; have hgw : ∀ x y, 0 ≤ wO n f o x y := fun x y => (wO_range n f o hn.1 hf x y).1
  intro d
  induction d with
  | zero =>
    intro i j acc hd hi hj ha
    refine Ev.step (f := fun k => siglumref10_Walk.j1 k (gridP X Y n f o) (X.length : Int) (Y.length : Int) g (tabD X Y g n f o) acc (i : Int) (j : Int) false) (fun k => by
      rw [siglumref10_Walk.l0, if_neg (by omega), decide_eq_false (by omega)]) ?_
    exact Ev.step (f := fun _ => some (acc ++ pL (wO n f o) g (X.drop i) (Y.drop j) i j, dL (wO n f o) g X Y)) (fun k => by
      rw [siglumref10_Walk.j1, if_neg (by decide), if_pos (by omega), if_pos (by omega), e00, pL_done _ _ _ _ _ _ (by omega) (by omega), List.append_nil]) (Ev.now _)
  | succ d IH =>
    intro i j acc hd hi hj ha
    by_cases hend : i = X.length ∧ j = Y.length
    · refine Ev.step (f := fun k => siglumref10_Walk.j1 k (gridP X Y n f o) (X.length : Int) (Y.length : Int) g (tabD X Y g n f o) acc (i : Int) (j : Int) false) (fun k => by
        rw [siglumref10_Walk.l0, if_neg (by omega), decide_eq_false (by omega)]) ?_
      exact Ev.step (f := fun _ => some (acc ++ pL (wO n f o) g (X.drop i) (Y.drop j) i j, dL (wO n f o) g X Y)) (fun k => by
        rw [siglumref10_Walk.j1, if_neg (by decide), if_pos (by omega), if_pos (by omega), e00, pL_done _ _ _ _ _ _ (by omega) (by omega), List.append_nil]) (Ev.now _)
    · have hij : i < X.length ∨ j < Y.length := by omega
      refine Ev.step (f := fun k => siglumref10_Walk.j1 k (gridP X Y n f o) (X.length : Int) (Y.length : Int) g (tabD X Y g n f o) acc (i : Int) (j : Int) true) (fun k => by
        rw [siglumref10_Walk.l0]
        by_cases h1 : (i : Int) < (X.length : Int)
        · rw [if_pos h1]
        · rw [if_neg h1, decide_eq_true (by omega)]) ?_
      have el : (rd_L11 (tabD X Y g n f o) (i : Int)).length = Y.length + 1 := hT.2.1 i hi; have ev : rd (rd_L11 (tabD X Y g n f o) (i : Int)) (j : Int) = dR (wO n f o) g X Y i j := hT.2.2 i j hi hj; have rij := dR_range (wO n f o) g ⟨by omega, hg.2⟩ hgw X Y hX hY i j
      have second : ¬ codeP (wO n f o) g X Y i j = 1 → Ev (fun k => siglumref10_Walk.j2 k (gridP X Y n f o) (X.length : Int) (Y.length : Int) g (tabD X Y g n f o) acc (i : Int) (j : Int) false) (acc ++ pL (wO n f o) g (X.drop i) (Y.drop j) i j, dL (wO n f o) g X Y) := by
        intro c1
        by_cases c2 : codeP (wO n f o) g X Y i j = 2
        · obtain ⟨e3, h1⟩ := pL_first (wO n f o) g X Y i j c2 i j
          have el1 : (rd_L11 (tabD X Y g n f o) ((i + 1 : Nat) : Int)).length = Y.length + 1 := hT.2.1 (i + 1) (by omega); have ev1 : rd (rd_L11 (tabD X Y g n f o) ((i + 1 : Nat) : Int)) (j : Int) = dR (wO n f o) g X Y (i + 1) j := hT.2.2 (i + 1) j (by omega) hj; have r1 := dR_range (wO n f o) g ⟨by omega, hg.2⟩ hgw X Y hX hY (i + 1) j
          have eq : dR (wO n f o) g X Y i j = dR (wO n f o) g X Y (i + 1) j + g := by
            by_cases hj' : j < Y.length
            · rw [codeP_in _ _ _ _ _ _ h1 hj'] at c2
              by_cases a : dR (wO n f o) g X Y i j = dR (wO n f o) g X Y (i + 1) (j + 1) + wO n f o X[i] Y[j]
              · rw [if_pos a] at c2; omega
              · rw [if_neg a] at c2
                by_cases b : dR (wO n f o) g X Y i j = dR (wO n f o) g X Y (i + 1) j + g
                · exact b
                · rw [if_neg b] at c2; omega
            · obtain rfl : j = Y.length := by omega
              rw [dR_endr _ _ _ _ _ (by omega), dR_endr _ _ _ _ _ (by omega), show ((X.length : Int) - (i : Int)) = ((X.length : Int) - ((i + 1 : Nat) : Int)) + 1 by omega, Int.add_mul, Int.one_mul]
          refine Ev.step (f := fun k => siglumref10_Walk.l0 k (gridP X Y n f o) (X.length : Int) (Y.length : Int) g (tabD X Y g n f o) (acc ++ [⟨(i : Int), -1⟩]) ((i + 1 : Nat) : Int) (j : Int)) (fun k => by
            rw [siglumref10_Walk.j2, if_neg (by decide), if_pos (by omega), wsucc i (by omega), if_pos (by omega), if_pos (by omega), if_pos (by omega), if_pos (by omega), if_pos (by omega), if_pos (by omega), if_pos (by omega), ev, ev1, ws (dR (wO n f o) g X Y (i + 1) j + g) (by omega) (by omega), if_pos eq, if_pos (by omega)]) ?_
          have := IH (i + 1) j (acc ++ [⟨(i : Int), -1⟩]) (by omega) (by omega) (by omega) (by rw [List.length_append]; simp only [List.length_cons, List.length_nil]; omega); rw [e3]
          rwa [List.append_assoc] at this
        · obtain ⟨e3, h1⟩ := pL_second (wO n f o) g X Y i j hij c1 c2 i j
          have fin : Ev (fun k => siglumref10_Walk.l0 k (gridP X Y n f o) (X.length : Int) (Y.length : Int) g (tabD X Y g n f o) (acc ++ [⟨-1, (j : Int)⟩]) (i : Int) ((j + 1 : Nat) : Int)) (acc ++ pL (wO n f o) g (X.drop i) (Y.drop j) i j, dL (wO n f o) g X Y) := by
            have := IH i (j + 1) (acc ++ [⟨-1, (j : Int)⟩]) (by omega) (by omega) (by omega) (by rw [List.length_append]; simp only [List.length_cons, List.length_nil]; omega); rw [e3]
            rwa [List.append_assoc] at this
          by_cases hi' : i < X.length
          · have el1 : (rd_L11 (tabD X Y g n f o) ((i + 1 : Nat) : Int)).length = Y.length + 1 := hT.2.1 (i + 1) (by omega)
            have ev1 : rd (rd_L11 (tabD X Y g n f o) ((i + 1 : Nat) : Int)) (j : Int) = dR (wO n f o) g X Y (i + 1) j := hT.2.2 (i + 1) j (by omega) hj; have r1 := dR_range (wO n f o) g ⟨by omega, hg.2⟩ hgw X Y hX hY (i + 1) j
            have neq : ¬ dR (wO n f o) g X Y i j = dR (wO n f o) g X Y (i + 1) j + g := by
              intro b; rw [codeP_in _ _ _ _ _ _ hi' h1] at c1 c2
              by_cases a : dR (wO n f o) g X Y i j = dR (wO n f o) g X Y (i + 1) (j + 1) + wO n f o X[i] Y[j]
              · rw [if_pos a] at c1; exact c1 rfl
              · rw [if_neg a, if_pos b] at c2; exact c2 rfl
            refine Ev.step (fun k => ?_) fin; rw [siglumref10_Walk.j2, if_neg (by decide), if_pos (by omega), wsucc i (by omega), if_pos (by omega), if_pos (by omega), if_pos (by omega), if_pos (by omega), if_pos (by omega), if_pos (by omega), if_pos (by omega), ev, ev1, ws (dR (wO n f o) g X Y (i + 1) j + g) (by omega) (by omega), if_neg neq, if_pos (by omega), wsucc j (by omega)]
          · refine Ev.step (fun k => ?_) fin
            rw [siglumref10_Walk.j2, if_neg (by decide), if_neg (by omega), if_pos (by omega), wsucc j (by omega)]
      by_cases hin : i < X.length ∧ j < Y.length
      · obtain ⟨hi', hj'⟩ := hin
        have el1 : (rd_L11 (tabD X Y g n f o) ((i + 1 : Nat) : Int)).length = Y.length + 1 := hT.2.1 (i + 1) (by omega); have ev1 : rd (rd_L11 (tabD X Y g n f o) ((i + 1 : Nat) : Int)) ((j + 1 : Nat) : Int) = dR (wO n f o) g X Y (i + 1) (j + 1) := hT.2.2 (i + 1) (j + 1) (by omega) (by omega); have r1 := dR_range (wO n f o) g ⟨by omega, hg.2⟩ hgw X Y hX hY (i + 1) (j + 1); have e2 : rd (rd_L11 (gridP X Y n f o) (i : Int)) (j : Int) = wO n f o X[i] Y[j] := grid_at X Y n f o i j hi' hj'; have e2l : (rd_L11 (gridP X Y n f o) (i : Int)).length = Y.length := grid_rlen X Y n f o i hi'; have rw_ := wO_range n f o hn.1 hf X[i] Y[j]
        refine Ev.step (f := fun k => siglumref10_Walk.j2 k (gridP X Y n f o) (X.length : Int) (Y.length : Int) g (tabD X Y g n f o) acc (i : Int) (j : Int) (dR (wO n f o) g X Y i j == dR (wO n f o) g X Y (i + 1) (j + 1) + wO n f o X[i] Y[j])) (fun k => by
          rw [siglumref10_Walk.j1, if_pos rfl, if_pos (by omega), if_pos (by omega), wsucc i (by omega), wsucc j (by omega), if_pos (by omega), if_pos (by omega), if_pos (by omega), if_pos (by omega), if_pos (by omega), if_pos (by omega), if_pos (by omega), if_pos (by omega), if_pos (by omega), if_pos (by omega), ev, ev1, e2, ws (dR (wO n f o) g X Y (i + 1) (j + 1) + wO n f o X[i] Y[j]) (by omega) (by omega)]) ?_
        by_cases c1 : codeP (wO n f o) g X Y i j = 1
        · obtain ⟨e3, _, _⟩ := pL_both (wO n f o) g X Y i j c1 i j
          rw [codeP_in _ _ _ _ _ _ hi' hj'] at c1
          have a : dR (wO n f o) g X Y i j = dR (wO n f o) g X Y (i + 1) (j + 1) + wO n f o X[i] Y[j] := by
            by_cases a : dR (wO n f o) g X Y i j = dR (wO n f o) g X Y (i + 1) (j + 1) + wO n f o X[i] Y[j]
            · exact a
            · rw [if_neg a] at c1; split at c1 <;> omega
          rw [beq_iff_eq.2 a]
          refine Ev.step (f := fun k => siglumref10_Walk.l0 k (gridP X Y n f o) (X.length : Int) (Y.length : Int) g (tabD X Y g n f o) (acc ++ [⟨(i : Int), (j : Int)⟩]) ((i + 1 : Nat) : Int) ((j + 1 : Nat) : Int)) (fun k => by
            rw [siglumref10_Walk.j2, if_pos rfl, if_pos (by omega), wsucc i (by omega), wsucc j (by omega)]) ?_
          have := IH (i + 1) (j + 1) (acc ++ [⟨(i : Int), (j : Int)⟩]) (by omega) (by omega) (by omega) (by rw [List.length_append]; simp only [List.length_cons, List.length_nil]; omega); rw [e3]
          rwa [List.append_assoc] at this
        · have a : ¬ dR (wO n f o) g X Y i j = dR (wO n f o) g X Y (i + 1) (j + 1) + wO n f o X[i] Y[j] := by
            intro a; rw [codeP_in _ _ _ _ _ _ hi' hj', if_pos a] at c1; exact c1 rfl
          rw [beq_eq_false_iff_ne.2 a]; exact second c1
      · refine Ev.step (f := fun k => siglumref10_Walk.j2 k (gridP X Y n f o) (X.length : Int) (Y.length : Int) g (tabD X Y g n f o) acc (i : Int) (j : Int) false) (fun k => by
          rw [siglumref10_Walk.j1, if_pos rfl]
          by_cases h1 : (i : Int) < (X.length : Int)
          · rw [if_pos h1, if_neg (by omega)]
          · rw [if_neg h1]) (second ?_)
        unfold codeP; rw [dif_neg hin]
        split <;> omega
end
theorem refalign_eq (X Y : List ByteArray) (hX : smallL X) (hY : smallL Y) (g n f o : Int) : Ev (fun k => siglumref10_Align.f k X Y g n f o) (alignR X Y g n f o) := by
  unfold alignR; refine ev_bind (refgrid_eq X Y hX hY g n f o) ?_
  by_cases h : (gridR X Y g n f o).2 = 0
  · obtain ⟨e, hs, l1, l2⟩ := gridR_ok h
    unfold scaleOk at hs; rw [if_pos h, e]
    have hw : Ev (fun k => siglumref10_Walk.f k (gridP X Y n f o) (X.length : Int) (Y.length : Int) g) (pL (wO n f o) g X Y 0 0, dL (wO n f o) g X Y) :=
      ev_bind (f := fun k t => siglumref10_Walk.l0 k (gridP X Y n f o) (X.length : Int) (Y.length : Int) g t [] 0 0) (rests_eq X Y g n f o hs.1 hs.2.1 hs.2.2.1 l1 l2) (walk_loop X Y g n f o hs.1 hs.2.1 hs.2.2.1 l1 l2 (X.length + Y.length) 0 0 [] (by omega) (by omega) (by omega) (by simp only [List.length_nil]; omega))
    exact Ev.congr (fun k => by rw [if_pos rfl]) (ev_bind hw (Ev.now _))
  · rw [if_neg h]
    exact Ev.congr (fun k => by rw [if_neg h]) (Ev.now _)
end Go.Proofs.YtcpbalnbgmjhjaaDoor.Pure
/-
  What an alignment's walk gives: it is an alignment, it costs the least price; the law's first words.
-/
namespace Go.Proofs.YtcpbalnbgmjhjaaDoor.Pure
open Go.RowKit Go.Proofs.YtcpbalnbgmjhjaaDoor.Q Go.Proofs.YtcpbalnbgmjhjaaDoorW.PrintWords Go.Proofs.YtcpbalnbgmjhjaaDoorW.PrintLast Go.Proofs.YtcpbalnbgmjhjaaDoorW.PrintMore
theorem smallSum (L : List ByteArray) (h : (L.map fun y => (y.size + 1)).sum ≤ 1048576) : smallL L := by
  intro s hs
  have : ∀ (L : List ByteArray), s ∈ L → s.size + 1 ≤ (L.map fun y => (y.size + 1)).sum := by
    intro L
    induction L with
    | nil => intro h; cases h
    | cons y L ih =>
      intro h; rw [List.map_cons, List.sum_cons]
      rcases List.mem_cons.1 h with rfl | h
      · omega
      · have := ih h; omega
  have := this L hs
  omega
section
variable {α : Type} (w : α → α → Int) (gap : Int)
theorem code_cases (X Y : List α) (i j : Nat) (hi : i ≤ X.length) (hj : j ≤ Y.length) (hij : i < X.length ∨ j < Y.length) :
    (∃ h : i < X.length ∧ j < Y.length, pL w gap (X.drop i) (Y.drop j) i j = ⟨(i : Int), (j : Int)⟩ :: pL w gap (X.drop (i + 1)) (Y.drop (j + 1)) (i + 1) (j + 1) ∧ dR w gap X Y i j = dR w gap X Y (i + 1) (j + 1) + w (X[i]'h.1) (Y[j]'h.2)) ∨
    (i < X.length ∧ pL w gap (X.drop i) (Y.drop j) i j = ⟨(i : Int), -1⟩ :: pL w gap (X.drop (i + 1)) (Y.drop j) (i + 1) j ∧ dR w gap X Y i j = dR w gap X Y (i + 1) j + gap) ∨
    (j < Y.length ∧ pL w gap (X.drop i) (Y.drop j) i j = ⟨-1, (j : Int)⟩ :: pL w gap (X.drop i) (Y.drop (j + 1)) i (j + 1) ∧ dR w gap X Y i j = dR w gap X Y i (j + 1) + gap) := by
  by_cases c1 : codeP w gap X Y i j = 1
  · obtain ⟨e, h1, h2⟩ := pL_both w gap X Y i j c1 i j
    refine Or.inl ⟨⟨h1, h2⟩, e, ?_⟩; rw [codeP_in _ _ _ _ _ _ h1 h2] at c1
    by_cases a : dR w gap X Y i j = dR w gap X Y (i + 1) (j + 1) + w X[i] Y[j]
    · exact a
    · rw [if_neg a] at c1; split at c1 <;> omega
  · by_cases c2 : codeP w gap X Y i j = 2
    · obtain ⟨e, h1⟩ := pL_first w gap X Y i j c2 i j
      refine Or.inr (Or.inl ⟨h1, e, ?_⟩)
      by_cases h2 : j < Y.length
      · rw [codeP_in _ _ _ _ _ _ h1 h2] at c2
        by_cases a : dR w gap X Y i j = dR w gap X Y (i + 1) (j + 1) + w X[i] Y[j]
        · rw [if_pos a] at c2; omega
        · rw [if_neg a] at c2
          by_cases b : dR w gap X Y i j = dR w gap X Y (i + 1) j + gap
          · exact b
          · rw [if_neg b] at c2; omega
      · obtain rfl : j = Y.length := by omega
        rw [dR_endr _ _ _ _ _ (by omega), dR_endr _ _ _ _ _ (by omega), show ((X.length : Int) - (i : Int)) = ((X.length : Int) - ((i + 1 : Nat) : Int)) + 1 by omega, Int.add_mul, Int.one_mul]
    · obtain ⟨e, h2⟩ := pL_second w gap X Y i j hij c1 c2 i j
      refine Or.inr (Or.inr ⟨h2, e, ?_⟩)
      by_cases h1 : i < X.length
      · have hd := dR_step w gap X Y i j h1 h2
        rw [codeP_in _ _ _ _ _ _ h1 h2] at c1 c2
        by_cases a : dR w gap X Y i j = dR w gap X Y (i + 1) (j + 1) + w X[i] Y[j]
        · rw [if_pos a] at c1; exact absurd rfl c1
        · rw [if_neg a] at c2
          by_cases b : dR w gap X Y i j = dR w gap X Y (i + 1) j + gap
          · rw [if_pos b] at c2; exact absurd rfl c2
          · omega
      · obtain rfl : i = X.length := by omega
        rw [dR_endl _ _ _ _ _ (by omega), dR_endl _ _ _ _ _ (by omega), show ((Y.length : Int) - (j : Int)) = ((Y.length : Int) - ((j + 1 : Nat) : Int)) + 1 by omega, Int.add_mul, Int.one_mul]
theorem pL_right (X Y : List α) : ∀ (d i j : Nat), (X.length - i) + (Y.length - j) ≤ d → i ≤ X.length → j ≤ Y.length → rightL X.length Y.length (pL w gap (X.drop i) (Y.drop j) i j) (i : Int) (j : Int) = true := by
  intro d
  induction d with
  | zero =>
    intro i j hd hi hj; rw [pL_done _ _ _ _ _ _ (by omega) (by omega), rightL]; exact decide_eq_true ⟨by omega, by omega⟩
  | succ d IH =>
    intro i j hd hi hj; have ci : ((i : Int) + 1) = ((i + 1 : Nat) : Int) := by omega
    have cj : ((j : Int) + 1) = ((j + 1 : Nat) : Int) := by omega
    by_cases hij : i < X.length ∨ j < Y.length
    · rcases code_cases w gap X Y i j hi hj hij with ⟨⟨h1, h2⟩, e, _⟩ | ⟨h1, e, _⟩ | ⟨h2, e, _⟩
      · rw [e, rightL, if_pos ⟨rfl, rfl, by omega, by omega⟩, ci, cj]
        exact IH (i + 1) (j + 1) (by omega) (by omega) (by omega)
      · rw [e, rightL, if_neg (fun h => by have := h.2.1; dsimp only at this; omega), if_pos ⟨rfl, rfl, by omega⟩, ci]
        exact IH (i + 1) j (by omega) (by omega) (by omega)
      · rw [e, rightL, if_neg (fun h => by have := h.1; dsimp only at this; omega), if_neg (fun h => by have := h.1; dsimp only at this; omega), if_pos ⟨rfl, rfl, by omega⟩, cj]
        exact IH i (j + 1) (by omega) (by omega) (by omega)
    · rw [pL_done _ _ _ _ _ _ (by omega) (by omega), rightL]
      exact decide_eq_true ⟨by omega, by omega⟩
end
theorem pL_cost (X Y : List ByteArray) (g n f o : Int) : ∀ (d i j : Nat), (X.length - i) + (Y.length - j) ≤ d → i ≤ X.length → j ≤ Y.length → costL (gridP X Y n f o) g (pL (wO n f o) g (X.drop i) (Y.drop j) i j) = dR (wO n f o) g X Y i j := by
  intro d
  induction d with
  | zero =>
    intro i j hd hi hj; rw [pL_done _ _ _ _ _ _ (by omega) (by omega), costL]; unfold dR; rw [List.drop_of_length_le (by omega), List.drop_of_length_le (by omega), dL_nil]
    simp
  | succ d IH =>
    intro i j hd hi hj
    by_cases hij : i < X.length ∨ j < Y.length
    · rcases code_cases (wO n f o) g X Y i j hi hj hij with ⟨⟨h1, h2⟩, e, q⟩ | ⟨h1, e, q⟩ | ⟨h2, e, q⟩
      · rw [e, costL, IH (i + 1) (j + 1) (by omega) (by omega) (by omega), q]
        unfold costP; rw [if_neg (by dsimp only; omega)]; dsimp only; rw [Int.toNat_natCast, Int.toNat_natCast, grid_at X Y n f o i j h1 h2, Int.add_comm]
      · rw [e, costL, IH (i + 1) j (by omega) (by omega) (by omega), q]
        unfold costP; rw [if_pos (by dsimp only; omega), Int.add_comm]
      · rw [e, costL, IH i (j + 1) (by omega) (by omega) (by omega), q]
        unfold costP; rw [if_pos (by dsimp only; omega), Int.add_comm]
    · rw [pL_done _ _ _ _ _ _ (by omega) (by omega), costL]
      unfold dR; rw [List.drop_of_length_le (by omega), List.drop_of_length_le (by omega), dL_nil]
      simp
theorem pL_all (X Y : List ByteArray) (g n f o : Int) : rightL X.length Y.length (pL (wO n f o) g X Y 0 0) 0 0 = true ∧ costL (gridP X Y n f o) g (pL (wO n f o) g X Y 0 0) = dL (wO n f o) g X Y :=
  ⟨pL_right (wO n f o) g X Y (X.length + Y.length) 0 0 (by omega) (Nat.zero_le _) (Nat.zero_le _), pL_cost X Y g n f o (X.length + Y.length) 0 0 (by omega) (Nat.zero_le _) (Nat.zero_le _)⟩
def the_ : ByteArray := ⟨#[116, 104, 101]⟩
def cat_ : ByteArray := ⟨#[99, 97, 116]⟩
def old_ : ByteArray := ⟨#[111, 108, 100]⟩
theorem aw10_w : wO 1 3 0 the_ the_ = 0 ∧ wO 1 3 0 the_ old_ = 3 ∧ wO 1 3 0 the_ cat_ = 3 ∧ wO 1 3 0 cat_ the_ = 3 ∧ wO 1 3 0 cat_ old_ = 3 ∧ wO 1 3 0 cat_ cat_ = 0 := by decide +kernel
theorem aw10_long : ¬ longL [the_, cat_] 0 ∧ ¬ longL [the_, old_, cat_] 0 := by decide +kernel
theorem aw10_path : pL (wO 1 3 0) 2 [the_, cat_] [the_, old_, cat_] 0 0 = [⟨0, 0⟩, ⟨-1, 1⟩, ⟨1, 2⟩] ∧ dL (wO 1 3 0) 2 [the_, cat_] [the_, old_, cat_] = 2 := by
  obtain ⟨h1, h2, h3, h4, h5, h6⟩ := aw10_w
  constructor
  · simp [pL, dL_cons, dL_nil, dL_nil', h1, h2, h3, h4, h5, h6, Int.min_def]
  · simp [dL_cons, dL_nil, dL_nil', h1, h2, h3, h4, h5, h6, Int.min_def]
theorem awake10 : Ev (fun k => siglumlaw10_awake.f k) true := by
  have hs1 : smallL [the_, cat_] := by intro s h; simp at h; rcases h with rfl | rfl <;> decide
  have hs2 : smallL [the_, old_, cat_] := by intro s h; simp at h; rcases h with rfl | rfl | rfl <;> decide
  have e : alignR [the_, cat_] [the_, old_, cat_] 2 1 3 0 = ([⟨0, 0⟩, ⟨-1, 1⟩, ⟨1, 2⟩], 2, 0) := by
    have hg : gridR [the_, cat_] [the_, old_, cat_] 2 1 3 0 = (gridP [the_, cat_] [the_, old_, cat_] 1 3 0, 0) := by
      unfold gridR; rw [if_pos (by decide), if_neg (fun h => h.elim aw10_long.1 aw10_long.2)]
    unfold alignR; rw [hg, if_pos rfl, aw10_path.1, aw10_path.2]
  have := align_eq [the_, cat_] [the_, old_, cat_] hs1 hs2 2 1 3 0; rw [e] at this; exact ev_bind (g := fun k => pair_Align.f k [the_, cat_] [the_, old_, cat_] 2 1 3 0) this (Ev.now _)
end Go.Proofs.YtcpbalnbgmjhjaaDoor.Pure
/-
  PairAligns: the program's alignment is the document's, pair by pair, and so is its price.
-/
namespace Go.Proofs.YtcpbalnbgmjhjaaDoor.Pure
open Go.RowKit Go.Proofs.YtcpbalnbgmjhjaaDoor.Q Go.Proofs.YtcpbalnbgmjhjaaDoorW.PrintWords Go.Proofs.YtcpbalnbgmjhjaaDoorW.PrintLast Go.Proofs.YtcpbalnbgmjhjaaDoorW.PrintMore
theorem pairs_same (L : List S61) (hL : L.length < 4611686018427387904) : Ev (fun k => siglumref10_Same.f k L L) true := by
  have key : ∀ (d x : Nat), x + d = L.length → Ev (fun k => siglumref10_Same.l0 k L L (x : Int)) true := by
    intro d
    induction d with
    | zero =>
      intro x hd; exact Ev.step (f := fun _ => some true) (fun k => by rw [siglumref10_Same.l0, if_neg (by omega)]) (Ev.now _)
    | succ d IH =>
      intro x hd; exact Ev.step (fun k => by rw [siglumref10_Same.l0, if_pos (by omega), if_pos (by omega), if_pos (by omega), if_neg (by simp), wsucc x (by omega)]) (IH (x + 1) (by omega))
  exact Ev.congr (fun k => by unfold siglumref10_Same.f; rw [if_pos rfl]; rfl) (key L.length 0 (by omega))
theorem pL_len (X Y : List ByteArray) (g n f o : Int) : (pL (wO n f o) g X Y 0 0).length ≤ X.length + Y.length := by
  have := (rightL_in X.length Y.length _ 0 0 (Nat.zero_le _) (Nat.zero_le _) (pL_all X Y g n f o).1).1
  omega
theorem PairAligns (a b : List ByteArray) (g n f o : Int) (_ : (∀ x ∈ a, x.size ≤ maxLen) ∧ a.length ≤ maxLen) (_ : (∀ x ∈ b, x.size ≤ maxLen) ∧ b.length ≤ maxLen) (_ : (Lit.int .i64 g).wf = true ∧ (Lit.int .i64 n).wf = true ∧ (Lit.int .i64 f).wf = true ∧ (Lit.int .i64 o).wf = true) (hb : ((a.map fun y => (y.size + 1)).sum + 1) + ((b.map fun y => (y.size + 1)).sum + 1) + (1 + 1 + 1 + 1 + 1) ≤ 1048576) : ∃ k, siglumlaw10_PairAligns.f k a b g n f o = some true := by
  have ha : smallL a := smallSum a (by omega); have hb' : smallL b := smallSum b (by omega); refine Ev.rounds (ev_bind (f := fun k t => if t = true then (siglumref09_Light.f k a b).bind fun u => if u = true then (pair_Align.f k a b g n f o).bind fun p => (siglumref10_Align.f k a b g n f o).bind fun q => if p.2.1 = q.2.1 then (if p.2.2 = q.2.2 then (siglumref10_Same.f k p.1 q.1).bind fun z => some z else some false) else some false else some true else some false) awake10 (Ev.congr (fun k => by rw [if_pos rfl]) ?_)); obtain ⟨r, hr⟩ := light_any a b ha hb'; refine ev_bind hr ?_
  cases r with
  | false => exact Ev.congr (fun k => by rw [if_neg (by decide)]) (Ev.now _)
  | true =>
    refine Ev.congr (fun k => by rw [if_pos rfl]) (ev_bind (align_eq a b ha hb' g n f o) ?_); refine ev_bind (refalign_eq a b ha hb' g n f o) ?_; refine Ev.congr (fun k => by rw [if_pos rfl, if_pos rfl]) (ev_bind (pairs_same _ ?_) (Ev.now _)); unfold alignR
    by_cases h : (gridR a b g n f o).2 = 0
    · obtain ⟨_, _, l1, l2⟩ := gridR_ok h
      rw [if_pos h]; have := pL_len a b g n f o; dsimp only
      omega
    · rw [if_neg h]
      dsimp only
      simp
end Go.Proofs.YtcpbalnbgmjhjaaDoor.Pure
