import Derived.Test.YtbpinnanfanaaaaDoorV23
import Derived.Test.YtbpinnanfanaaaaDoorV25
import Derived.Test.YtbpinnanfanaaaaDoorV212
import Derived.Test.YtbpinnanfanaaaaDoorV220
import Derived.Test.YtbpinnanfanaaaaDoorV210
import Derived.Test.YtbpinnanfanaaaaDoorV222
import Derived.Test.YtbpinnanfanaaaaDoorV217
import Derived.Test.YtbpinnanfanaaaaDoorV224
import Derived.Test.YtbpinnanfanaaaaDoorV219
import Derived.Test.YtbpinnanfanaaaaDoorV218
namespace Go.Proofs.YtbpinnanfanaaaaDoor.L
open Go.RowKit Go.Proofs.YtbpinnanfanaaaaDoor.Mi Go.Proofs.YtbpinnanfanaaaaDoorW.PrintWords Go.Proofs.YtbpinnanfanaaaaDoorW.PrintLast Go.Proofs.YtbpinnanfanaaaaDoorW.PrintMore
attribute [local go_sem] min2_int min_two min_three
set_option linter.unusedVariables false
set_option linter.unusedSimpArgs false
def siglumlaw11_SlimLeast.f (k : Nat) (l0 : List ByteArray) (l1 : List ByteArray) (a2_0 : Int) (a2_1 : Int) (a2_2 : Int) (a2_3 : Int) : Option (Bool) := (siglumlaw11_awake.f k).bind fun tU2 => (if tU2 = true then ((siglumref09_Light.f k l0 l1).bind fun tU3 => (if tU3 = true then ((slim_Least.f k l0 l1 a2_0 a2_1 a2_2 a2_3).bind fun btU4 => ((siglumref11_Least.f k l0 l1 a2_0 a2_1 a2_2 a2_3).bind fun btU6 => (if btU4.1 = btU6.1 then (some (btU4.2 == btU6.2)) else (some false)))) else (some true))) else (some false))
set_option maxHeartbeats 8000000 in
set_option maxRecDepth 100000 in
theorem siglumlaw11_SlimLeast.calls (k : Nat) (A0 : Option Addr) (c0 : Nat) (l0 : List ByteArray) (A1 : Option Addr) (c1 : Nat) (l1 : List ByteArray) (a2_0 : Int) (a2_1 : Int) (a2_2 : Int) (a2_3 : Int) (r : Bool) (w : World) (hr0 : Kd.C Kd.string w A0 l0.length l0) (hc0 : l0.length ≤ c0) (hr1 : Kd.C Kd.string w A1 l1.length l1) (hc1 : l1.length ≤ c1) (hT : Utf.Tabs2 w) (h : siglumlaw11_SlimLeast.f k l0 l1 a2_0 a2_1 a2_2 a2_3 = some r) :
 Calls Tryd.prog 3 #[.slice A0 l0.length c0, .slice A1 l1.length c1, .agg #[.int .i64 a2_0, .int .i64 a2_1, .int .i64 a2_2, .int .i64 a2_3]] w fun e w' => e = .returned (.bool r) ∧ Below w.heap.size w w' := by
 have hu24 := Tryd.underlying24; have HR0 := Aside0.mk hr0; have HC0 := Aside0.mk hc0; clear hr0 hc0; have HR1 := Aside0.mk hr1; have HC1 := Aside0.mk hc1; clear hr1 hc1; have HT := Aside0.mk hT; clear hT; have HB := Aside0.mk (Below.refl w.heap.size w); have H := h; clear h; unfold siglumlaw11_SlimLeast.f at H; replace H := ob H; obtain ⟨tU2, A4, H⟩ := H; (try dsimp only at H)
 by_cases c5 : tU2 = true
 ·subst c5; rw [if_pos rfl] at H; replace H := ob H; obtain ⟨tU3, A6, H⟩ := H; (try dsimp only at H)
  by_cases c7 : tU3 = true
  ·subst c7; rw [if_pos rfl] at H; replace H := ob H; obtain ⟨⟨tU4, tU5⟩, A8, H⟩ := H; (try dsimp only at H); replace H := ob H; obtain ⟨⟨tU6, tU7⟩, A9, H⟩ := H; (try dsimp only at H)
   by_cases c10 : tU4 = tU6
   ·rw [if_pos c10] at H; have c10b0 := beq_iff_eq.mpr c10; have c10b1 := bne_eq_false_iff_eq.mpr c10; clear c10; obtain rfl := Option.some.inj H; go_enter Tryd.func3, Tryd.ntmps3; go_wp2_with (first | ((with_reducible refine gd 5 ?_); refine bz 5 #[.int .i64 a2_0, .int .i64 a2_1, .int .i64 a2_2, .int .i64 a2_3] 24 ?_; clear HB; intro gbU1 w11 BKU1 GWU1 HB; have GEU1 := GWU1) | ((with_reducible refine gc 7 ?_); refine gl 11 Tryd.func7 #[] ?_; (with_reducible refine (siglumlaw11_awake.calls k  true _ ?side1 A4.out).mono ?_); (case side1 => exact Utf.tabs_step2 HT.out bel); rintro e w12 ⟨rfl, hb⟩; refine ⟨_, rfl, ?_⟩; replace BKU1 := bb BKU1 hb; replace HB := bs hb; (try clear hb)) | ((with_reducible refine gc 8 ?_); refine gl 15 Tryd.func8 #[.slice A0 l0.length c0, .slice A1 l1.length c1] ?_; (with_reducible refine (siglumref09_Light.calls k _ _ l0 _ _ l1 true _ ?side1 ?side2 ?side3 ?side4 A6.out).mono ?_); (case side1 => exact cb HR0 HB); (case side2 => exact HC0.out); (case side3 => exact cb HR1 HB); (case side4 => exact HC1.out); rintro e w13 ⟨rfl, hb⟩; refine ⟨_, rfl, ?_⟩; replace BKU1 := bb BKU1 hb; replace HB := bs hb; (try clear hb); obtain ⟨z14_0, z14_1, z14_2, z14_3, f14_0, f14_1, f14_2, f14_3⟩ := cz4 BKU1) | ((with_reducible refine gc 9 ?_); refine gl 21 Tryd.func9 #[.slice A0 l0.length c0, .slice A1 l1.length c1, .agg #[.int .i64 a2_0, .int .i64 a2_1, .int .i64 a2_2, .int .i64 a2_3]] ?_; (with_reducible refine (slim_Least.calls k _ _ l0 _ _ l1 a2_0 a2_1 a2_2 a2_3 tU4 tU5 _ ?side1 ?side2 ?side3 ?side4 ?side5 A8.out).mono ?_); (case side1 => exact cb HR0 HB); (case side2 => exact HC0.out); (case side3 => exact cb HR1 HB); (case side4 => exact HC1.out); (case side5 => exact Utf.tabs_step2 HT.out bel); rintro e w15 ⟨rfl, hb⟩; refine ⟨_, rfl, ?_⟩; replace BKU1 := bb BKU1 hb; replace HB := bs hb; (try clear hb); obtain ⟨z16_0, z16_1, z16_2, z16_3, f16_0, f16_1, f16_2, f16_3⟩ := cz4 BKU1) | ((with_reducible refine gc 10 ?_); refine gl 28 Tryd.func10 #[.slice A0 l0.length c0, .slice A1 l1.length c1, .agg #[.int .i64 a2_0, .int .i64 a2_1, .int .i64 a2_2, .int .i64 a2_3]] ?_; (with_reducible refine (siglumref11_Least.calls k _ _ l0 _ _ l1 a2_0 a2_1 a2_2 a2_3 tU6 tU7 _ ?side1 ?side2 ?side3 ?side4 A9.out).mono ?_); (case side1 => exact cb HR0 HB); (case side2 => exact HC0.out); (case side3 => exact cb HR1 HB); (case side4 => exact HC1.out); rintro e w17 ⟨rfl, hb⟩; refine ⟨_, rfl, ?_⟩; replace BKU1 := bb BKU1 hb; replace HB := bs hb; (try clear hb))); go_ret; exact ⟨fi, bel⟩
   ·rw [if_neg c10] at H; have c10b0 := beq_eq_false_iff_ne.mpr c10; have c10b1 := bne_iff_ne.mpr c10; obtain rfl := Option.some.inj H; go_enter Tryd.func3, Tryd.ntmps3; go_wp2_with (first | ((with_reducible refine gd 5 ?_); refine bz 5 #[.int .i64 a2_0, .int .i64 a2_1, .int .i64 a2_2, .int .i64 a2_3] 24 ?_; clear HB; intro gbU1 w18 BKU1 GWU1 HB; have GEU1 := GWU1) | ((with_reducible refine gc 7 ?_); refine gl 11 Tryd.func7 #[] ?_; (with_reducible refine (siglumlaw11_awake.calls k  true _ ?side1 A4.out).mono ?_); (case side1 => exact Utf.tabs_step2 HT.out bel); rintro e w19 ⟨rfl, hb⟩; refine ⟨_, rfl, ?_⟩; replace BKU1 := bb BKU1 hb; replace HB := bs hb; (try clear hb)) | ((with_reducible refine gc 8 ?_); refine gl 15 Tryd.func8 #[.slice A0 l0.length c0, .slice A1 l1.length c1] ?_; (with_reducible refine (siglumref09_Light.calls k _ _ l0 _ _ l1 true _ ?side1 ?side2 ?side3 ?side4 A6.out).mono ?_); (case side1 => exact cb HR0 HB); (case side2 => exact HC0.out); (case side3 => exact cb HR1 HB); (case side4 => exact HC1.out); rintro e w20 ⟨rfl, hb⟩; refine ⟨_, rfl, ?_⟩; replace BKU1 := bb BKU1 hb; replace HB := bs hb; (try clear hb); obtain ⟨z21_0, z21_1, z21_2, z21_3, f21_0, f21_1, f21_2, f21_3⟩ := cz4 BKU1) | ((with_reducible refine gc 9 ?_); refine gl 21 Tryd.func9 #[.slice A0 l0.length c0, .slice A1 l1.length c1, .agg #[.int .i64 a2_0, .int .i64 a2_1, .int .i64 a2_2, .int .i64 a2_3]] ?_; (with_reducible refine (slim_Least.calls k _ _ l0 _ _ l1 a2_0 a2_1 a2_2 a2_3 tU4 tU5 _ ?side1 ?side2 ?side3 ?side4 ?side5 A8.out).mono ?_); (case side1 => exact cb HR0 HB); (case side2 => exact HC0.out); (case side3 => exact cb HR1 HB); (case side4 => exact HC1.out); (case side5 => exact Utf.tabs_step2 HT.out bel); rintro e w22 ⟨rfl, hb⟩; refine ⟨_, rfl, ?_⟩; replace BKU1 := bb BKU1 hb; replace HB := bs hb; (try clear hb); obtain ⟨z23_0, z23_1, z23_2, z23_3, f23_0, f23_1, f23_2, f23_3⟩ := cz4 BKU1) | ((with_reducible refine gc 10 ?_); refine gl 28 Tryd.func10 #[.slice A0 l0.length c0, .slice A1 l1.length c1, .agg #[.int .i64 a2_0, .int .i64 a2_1, .int .i64 a2_2, .int .i64 a2_3]] ?_; (with_reducible refine (siglumref11_Least.calls k _ _ l0 _ _ l1 a2_0 a2_1 a2_2 a2_3 tU6 tU7 _ ?side1 ?side2 ?side3 ?side4 A9.out).mono ?_); (case side1 => exact cb HR0 HB); (case side2 => exact HC0.out); (case side3 => exact cb HR1 HB); (case side4 => exact HC1.out); rintro e w24 ⟨rfl, hb⟩; refine ⟨_, rfl, ?_⟩; replace BKU1 := bb BKU1 hb; replace HB := bs hb; (try clear hb))); go_ret; exact ⟨fi, bel⟩
  ·replace c7 := Bool.eq_false_iff.mpr c7; subst c7; rw [if_neg nf] at H; obtain rfl := Option.some.inj H; go_enter Tryd.func3, Tryd.ntmps3; go_wp2_with (first | ((with_reducible refine gd 5 ?_); refine bz 5 #[.int .i64 a2_0, .int .i64 a2_1, .int .i64 a2_2, .int .i64 a2_3] 24 ?_; clear HB; intro gbU1 w25 BKU1 GWU1 HB; have GEU1 := GWU1) | ((with_reducible refine gc 7 ?_); refine gl 11 Tryd.func7 #[] ?_; (with_reducible refine (siglumlaw11_awake.calls k  true _ ?side1 A4.out).mono ?_); (case side1 => exact Utf.tabs_step2 HT.out bel); rintro e w26 ⟨rfl, hb⟩; refine ⟨_, rfl, ?_⟩; replace BKU1 := bb BKU1 hb; replace HB := bs hb; (try clear hb)) | ((with_reducible refine gc 8 ?_); refine gl 15 Tryd.func8 #[.slice A0 l0.length c0, .slice A1 l1.length c1] ?_; (with_reducible refine (siglumref09_Light.calls k _ _ l0 _ _ l1 false _ ?side1 ?side2 ?side3 ?side4 A6.out).mono ?_); (case side1 => exact cb HR0 HB); (case side2 => exact HC0.out); (case side3 => exact cb HR1 HB); (case side4 => exact HC1.out); rintro e w27 ⟨rfl, hb⟩; refine ⟨_, rfl, ?_⟩; replace BKU1 := bb BKU1 hb; replace HB := bs hb; (try clear hb))); go_ret; exact ⟨fi, bel⟩
 ·replace c5 := Bool.eq_false_iff.mpr c5; subst c5; rw [if_neg nf] at H; obtain rfl := Option.some.inj H; go_enter Tryd.func3, Tryd.ntmps3; go_wp2_with (first | ((with_reducible refine gd 5 ?_); refine bz 5 #[.int .i64 a2_0, .int .i64 a2_1, .int .i64 a2_2, .int .i64 a2_3] 24 ?_; clear HB; intro gbU1 w28 BKU1 GWU1 HB; have GEU1 := GWU1) | ((with_reducible refine gc 7 ?_); refine gl 11 Tryd.func7 #[] ?_; (with_reducible refine (siglumlaw11_awake.calls k  false _ ?side1 A4.out).mono ?_); (case side1 => exact Utf.tabs_step2 HT.out bel); rintro e w29 ⟨rfl, hb⟩; refine ⟨_, rfl, ?_⟩; replace BKU1 := bb BKU1 hb; replace HB := bs hb; (try clear hb))); go_ret; exact ⟨fi, bel⟩
end Go.Proofs.YtbpinnanfanaaaaDoor.L
namespace Go.Proofs.YtbpinnanfanaaaaDoor.L
open Go.RowKit Go.Proofs.YtbpinnanfanaaaaDoorW.PrintWords Go.Proofs.YtbpinnanfanaaaaDoorW.PrintLast Go.Proofs.YtbpinnanfanaaaaDoorW.PrintMore
attribute [local go_sem] min2_int min_two min_three
set_option linter.unusedVariables false
set_option linter.unusedSimpArgs false
mutual
def pair_Align.l0 : Nat → List (List Int) → Int → Int → List (List Int) → Int → Int → Int → Int → Int → Int → Option ((List (S59)) × Int × Int)
 | 0, _, _, _, _, _, _, _, _, _, _ => none
 | k + 1, x9, x11, x12, x13, x44, x45, xU2U0, xU2U1, xU2U2, xU2U3 => if x45 < x44 then (if 0 ≤ (wrap64 (x12 + 1)) then (if (wrap64 (x12 + 1) : Int).toNat ≤ 281474976710656 then (if 0 ≤ x45 then (if x45 < (x13.length : Int) then ((some (x13.set (x45 : Int).toNat (List.replicate (wrap64 (x12 + 1) : Int).toNat 0) : List (List Int))).bind fun yU12 => (if 0 ≤ x12 then (if x12 < ((rd_L13 yU12 x45).length : Int) then (pair_Align.l0 k x9 x11 x12 (yU12.set (x45 : Int).toNat ((rd_L13 yU12 x45).set (x12 : Int).toNat 2)) x44 (wrap64 (x45 + 1)) xU2U0 xU2U1 xU2U2 xU2U3) else (none)) else (none))) else (none)) else (none)) else (none)) else (none)) else (if 0 ≤ (wrap64 (x12 + 1)) then (if (wrap64 (x12 + 1) : Int).toNat ≤ 35184372088832 then (pair_Align.l1 k x9 x11 x12 x13 (List.replicate (wrap64 (x12 + 1) : Int).toNat 0) (List.replicate (wrap64 (x12 + 1) : Int).toNat 0) x12 0 xU2U0 xU2U1 xU2U2 xU2U3) else (none)) else (none))
def pair_Align.l1 : Nat → List (List Int) → Int → Int → List (List Int) → List Int → List Int → Int → Int → Int → Int → Int → Int → Option ((List (S59)) × Int × Int)
 | 0, _, _, _, _, _, _, _, _, _, _, _, _ => none
 | k + 1, x9, x11, x12, x13, x15, x16, x67, x68, xU2U0, xU2U1, xU2U2, xU2U3 => if x68 < x67 then (if 0 ≤ x11 then (if x11 < (x13.length : Int) then (if 0 ≤ x68 then (if x68 < ((rd_L13 x13 x11).length : Int) then (if x68 < (x15.length : Int) then (pair_Align.l1 k x9 x11 x12 (x13.set (x11 : Int).toNat ((rd_L13 x13 x11).set (x68 : Int).toNat 3)) (x15.set (x68 : Int).toNat (wrap64 ((wrap64 (x12 - x68)) * xU2U0))) x16 x67 (wrap64 (x68 + 1)) xU2U0 xU2U1 xU2U2 xU2U3) else (none)) else (none)) else (none)) else (none)) else (none)) else (pair_Align.l2 k x9 x11 x12 x13 x15 x16 (wrap64 (x11 - 1)) xU2U0 xU2U1 xU2U2 xU2U3)
def pair_Align.l2 : Nat → List (List Int) → Int → Int → List (List Int) → List Int → List Int → Int → Int → Int → Int → Int → Option ((List (S59)) × Int × Int)
 | 0, _, _, _, _, _, _, _, _, _, _, _ => none
 | k + 1, x9, x11, x12, x13, x15, x16, x18, xU2U0, xU2U1, xU2U2, xU2U3 => if x18 ≥ 0 then (if 0 ≤ x12 then (if x12 < (x16.length : Int) then (pair_Align.l3 k x9 x11 x12 x13 x15 (x16.set (x12 : Int).toNat (wrap64 ((wrap64 (x11 - x18)) * xU2U0))) x18 (wrap64 (x12 - 1)) xU2U0 xU2U1 xU2U2 xU2U3) else (none)) else (none)) else (if 0 < (x15.length : Int) then (pair_Align.l4 k x11 x12 x13 (rd x15 0) ([] : List (S59)) 0 0) else (none))
def pair_Align.l3 : Nat → List (List Int) → Int → Int → List (List Int) → List Int → List Int → Int → Int → Int → Int → Int → Int → Option ((List (S59)) × Int × Int)
 | 0, _, _, _, _, _, _, _, _, _, _, _, _ => none
 | k + 1, x9, x11, x12, x13, x15, x16, x18, x19, xU2U0, xU2U1, xU2U2, xU2U3 => if x19 ≥ 0 then (if 0 ≤ x18 then (if x18 < (x13.length : Int) then (if 0 ≤ (wrap64 (x19 + 1)) then (if (wrap64 (x19 + 1)) < (x15.length : Int) then (if x18 < (x9.length : Int) then (if 0 ≤ x19 then (if x19 < ((rd_L11 x9 x18).length : Int) then (if x19 < (x16.length : Int) then ((some (x16.set (x19 : Int).toNat (wrap64 ((rd x15 (wrap64 (x19 + 1))) + (rd (rd_L11 x9 x18) x19))) : List Int)).bind fun yU33 => (if x19 < ((rd_L13 x13 x18).length : Int) then ((some (x13.set (x18 : Int).toNat ((rd_L13 x13 x18).set (x19 : Int).toNat 1) : List (List Int))).bind fun yU36 => (if x19 < (x15.length : Int) then (if (wrap64 ((rd x15 x19) + xU2U0)) < (rd yU33 x19) then ((some (yU33.set (x19 : Int).toNat (wrap64 ((rd x15 x19) + xU2U0)) : List Int)).bind fun yU40 => (if x19 < ((rd_L13 yU36 x18).length : Int) then ((some (yU36.set (x18 : Int).toNat ((rd_L13 yU36 x18).set (x19 : Int).toNat 2) : List (List Int))).bind fun yU43 => (if (wrap64 (x19 + 1)) < (x16.length : Int) then (if (wrap64 ((rd yU40 (wrap64 (x19 + 1))) + xU2U0)) < (rd yU40 x19) then (if x19 < ((rd_L13 yU43 x18).length : Int) then (pair_Align.l3 k x9 x11 x12 (yU43.set (x18 : Int).toNat ((rd_L13 yU43 x18).set (x19 : Int).toNat 3)) x15 (yU40.set (x19 : Int).toNat (wrap64 ((rd yU40 (wrap64 (x19 + 1))) + xU2U0))) x18 (wrap64 (x19 - 1)) xU2U0 xU2U1 xU2U2 xU2U3) else (none)) else (pair_Align.l3 k x9 x11 x12 yU43 x15 yU40 x18 (wrap64 (x19 - 1)) xU2U0 xU2U1 xU2U2 xU2U3)) else (none))) else (none))) else (if (wrap64 (x19 + 1)) < (x16.length : Int) then (if (wrap64 ((rd yU33 (wrap64 (x19 + 1))) + xU2U0)) < (rd yU33 x19) then (if x19 < ((rd_L13 yU36 x18).length : Int) then (pair_Align.l3 k x9 x11 x12 (yU36.set (x18 : Int).toNat ((rd_L13 yU36 x18).set (x19 : Int).toNat 3)) x15 (yU33.set (x19 : Int).toNat (wrap64 ((rd yU33 (wrap64 (x19 + 1))) + xU2U0))) x18 (wrap64 (x19 - 1)) xU2U0 xU2U1 xU2U2 xU2U3) else (none)) else (pair_Align.l3 k x9 x11 x12 yU36 x15 yU33 x18 (wrap64 (x19 - 1)) xU2U0 xU2U1 xU2U2 xU2U3)) else (none))) else (none))) else (none))) else (none)) else (none)) else (none)) else (none)) else (none)) else (none)) else (none)) else (none)) else (pair_Align.l2 k x9 x11 x12 x13 x16 x15 (wrap64 (x18 - 1)) xU2U0 xU2U1 xU2U2 xU2U3)
def pair_Align.l4 : Nat → Int → Int → List (List Int) → Int → List (S59) → Int → Int → Option ((List (S59)) × Int × Int)
 | 0, _, _, _, _, _, _, _ => none
 | k + 1, x11, x12, x13, x22, x23, x24, x25 => if x24 = x11 then (pair_Align.j5 k x11 x12 x13 x22 x23 x24 x25 (x25 == x12)) else (pair_Align.j5 k x11 x12 x13 x22 x23 x24 x25 false)
def pair_Align.j5 : Nat → Int → Int → List (List Int) → Int → List (S59) → Int → Int → Bool → Option ((List (S59)) × Int × Int)
 | 0, _, _, _, _, _, _, _, _ => none
 | k + 1, x11, x12, x13, x22, x23, x24, x25, x189 => if x189 = true then (some (x23, x22, 0)) else (if 0 ≤ x24 then (if x24 < (x13.length : Int) then (if 0 ≤ x25 then (if x25 < ((rd_L13 x13 x24).length : Int) then (if (rd (rd_L13 x13 x24) x25) = 1 then (if x23.length < 8796093022208 then (pair_Align.l4 k x11 x12 x13 x22 (x23 ++ [(⟨x24, x25⟩ : S59)]) (wrap64 (x24 + 1)) (wrap64 (x25 + 1))) else (none)) else (if (rd (rd_L13 x13 x24) x25) = 2 then (if x23.length < 8796093022208 then (pair_Align.l4 k x11 x12 x13 x22 (x23 ++ [(⟨x24, (-1)⟩ : S59)]) (wrap64 (x24 + 1)) x25) else (none)) else (if x23.length < 8796093022208 then (pair_Align.l4 k x11 x12 x13 x22 (x23 ++ [(⟨(-1), x25⟩ : S59)]) x24 (wrap64 (x25 + 1))) else (none)))) else (none)) else (none)) else (none)) else (none))
end
def pair_Align.f (k : Nat) (l0 : List ByteArray) (l1 : List ByteArray) (a2_0 : Int) (a2_1 : Int) (a2_2 : Int) (a2_3 : Int) : Option ((List (S59)) × Int × Int) := (cost_Grid.f k l0 l1 a2_0 a2_1 a2_2 a2_3).bind fun btU2 => (if btU2.2 = 0 then (if 0 ≤ (wrap64 ((l0.length : Int) + 1)) then (if (wrap64 ((l0.length : Int) + 1) : Int).toNat ≤ 11728124029610 then ((some (List.replicate (wrap64 ((l0.length : Int) + 1) : Int).toNat [] : List (List Int))).bind fun yU6 => (pair_Align.l0 k btU2.1 (l0.length : Int) (l1.length : Int) yU6 (yU6.length : Int) 0 a2_0 a2_1 a2_2 a2_3)) else (none)) else (none)) else (some (([] : List (S59)), 0, btU2.2)))
def pair_Align.T27 : Bool × List (List Nat × List Nat) := (true,[([],[]),([],[]),([],[]),([],[]),([2,3],[2,3]),([4],[4]),([],[]),([],[]),([],[]),([8],[8]),([7,9],[7,9]),([10],[10]),([],[]),([],[]),([12,13],[12,13]),([14],[14]),([],[]),([15,16],[15,16]),([17],[17]),([11,18],[11,18]),([0,1,0,1,5,7,8,9,10,11,12,13,14,15,16,17,18,19],[0,1]),([20,19,0,1,5,7,8,9,10,11,12,13,14,15,16,17,18,19],[19,20]),([5,6,0,1,2,3,4,5,6,7,8,9,10,11,12,13,14,15,16,17,18,19,20,21],[5,6]),([22,21,0,1,2,3,4,5,6,7,8,9,10,11,12,13,14,15,16,17,18,19,20,21],[22])])
def pair_Align.B27 : List Nat := [0,0,0,0,12,28,0,0,0,256,896,1920,0,0,12288,28672,0,126976,258048,524160,1048511,2097087,4194303,8388607]
def pair_Align.T28 : Bool × List (List Nat × List Nat) := (true,[([],[]),([],[]),([0,1],[0,1]),([2],[2]),([],[]),([4],[4]),([3,5],[3,5]),([6,0,1,2,3,4,5,6],[6])])
def pair_Align.B28 : List Nat := [0,0,3,7,0,16,63,127]
def pair_Align.T31 : Bool × List (List Nat × List Nat) := (true,[([],[]),([],[]),([1],[1]),([0,2],[0,2]),([3],[3]),([],[]),([5],[5]),([4,6],[4,6]),([7,0,1,2,3,4,5,6,7],[7])])
def pair_Align.B31 : List Nat := [0,0,2,7,15,0,32,127,255]
end Go.Proofs.YtbpinnanfanaaaaDoor.L
/-
  The program's alignment of two lists of words, in plain numbers: its table of ways, its price, its walk.
-/
namespace Go.Proofs.YtbpinnanfanaaaaDoor.Pure
open Go.RowKit Go.Proofs.YtbpinnanfanaaaaDoor.L Go.Proofs.YtbpinnanfanaaaaDoorW.PrintWords Go.Proofs.YtbpinnanfanaaaaDoorW.PrintLast Go.Proofs.YtbpinnanfanaaaaDoorW.PrintMore
section
variable {α : Type} (w : α → α → Int) (gap : Int)
def pL : List α → List α → Nat → Nat → List S59
  | [], [], _, _ => []
  | [], _ :: ys, i, j => ⟨-1, (j : Int)⟩ :: pL [] ys i (j + 1)
  | _ :: xs, [], i, j => ⟨(i : Int), -1⟩ :: pL xs [] (i + 1) j
  | x :: xs, y :: ys, i, j =>
    if dL w gap (x :: xs) (y :: ys) = dL w gap xs ys + w x y then ⟨(i : Int), (j : Int)⟩ :: pL xs ys (i + 1) (j + 1)
    else if dL w gap (x :: xs) (y :: ys) = dL w gap xs (y :: ys) + gap then ⟨(i : Int), -1⟩ :: pL xs (y :: ys) (i + 1) j
    else ⟨-1, (j : Int)⟩ :: pL (x :: xs) ys i (j + 1)
termination_by xs ys => xs.length + ys.length
def codeP (X Y : List α) (p q : Nat) : Int := if h : p < X.length ∧ q < Y.length then
  (if dR w gap X Y p q = dR w gap X Y (p + 1) (q + 1) + w (X[p]'h.1) (Y[q]'h.2) then 1 else if dR w gap X Y p q = dR w gap X Y (p + 1) q + gap then 2 else 3) else if p < X.length then 2 else 3
theorem codeP_in (X Y : List α) (p q : Nat) (hp : p < X.length) (hq : q < Y.length) : codeP w gap X Y p q = (if dR w gap X Y p q = dR w gap X Y (p + 1) (q + 1) + w X[p] Y[q] then 1 else if dR w gap X Y p q = dR w gap X Y (p + 1) q + gap then 2 else 3) := by
  unfold codeP; rw [dif_pos ⟨hp, hq⟩]
theorem codeP_right (X Y : List α) (p q : Nat) (hp : p < X.length) (hq : ¬ q < Y.length) : codeP w gap X Y p q = 2 := by
  unfold codeP; rw [dif_neg (fun h => hq h.2), if_pos hp]
theorem codeP_below (X Y : List α) (p q : Nat) (hp : ¬ p < X.length) : codeP w gap X Y p q = 3 := by
  unfold codeP; rw [dif_neg (fun h => hp h.1), if_neg hp]
theorem pL_done (X Y : List α) (i j : Nat) (hi : ¬ i < X.length) (hj : ¬ j < Y.length) (a b : Nat) : pL w gap (X.drop i) (Y.drop j) a b = [] := by
  rw [List.drop_of_length_le (by omega), List.drop_of_length_le (by omega), pL]
theorem pL_both (X Y : List α) (i j : Nat) (hc : codeP w gap X Y i j = 1) (a b : Nat) : pL w gap (X.drop i) (Y.drop j) a b = ⟨(a : Int), (b : Int)⟩ :: pL w gap (X.drop (i + 1)) (Y.drop (j + 1)) (a + 1) (b + 1) ∧ i < X.length ∧ j < Y.length := by
  by_cases hi : i < X.length
  · by_cases hj : j < Y.length
    · rw [codeP_in _ _ _ _ _ _ hi hj] at hc
      refine ⟨?_, hi, hj⟩; rw [List.drop_eq_getElem_cons hi, List.drop_eq_getElem_cons hj, pL, ← List.drop_eq_getElem_cons hi, ← List.drop_eq_getElem_cons hj]
      by_cases e : dR w gap X Y i j = dR w gap X Y (i + 1) (j + 1) + w X[i] Y[j]
      · rw [if_pos (show dL w gap (X.drop i) (Y.drop j) = dL w gap (X.drop (i + 1)) (Y.drop (j + 1)) + w X[i] Y[j] from e)]
      · rw [if_neg e] at hc; split at hc <;> omega
    · rw [codeP_right _ _ _ _ _ _ hi hj] at hc; omega
  · rw [codeP_below _ _ _ _ _ _ hi] at hc; omega
theorem pL_first (X Y : List α) (i j : Nat) (hc : codeP w gap X Y i j = 2) (a b : Nat) : pL w gap (X.drop i) (Y.drop j) a b = ⟨(a : Int), -1⟩ :: pL w gap (X.drop (i + 1)) (Y.drop j) (a + 1) b ∧ i < X.length := by
  by_cases hi : i < X.length
  · refine ⟨?_, hi⟩
    by_cases hj : j < Y.length
    · rw [codeP_in _ _ _ _ _ _ hi hj] at hc
      rw [List.drop_eq_getElem_cons hi, List.drop_eq_getElem_cons hj, pL, ← List.drop_eq_getElem_cons hi, ← List.drop_eq_getElem_cons hj]
      by_cases e : dR w gap X Y i j = dR w gap X Y (i + 1) (j + 1) + w X[i] Y[j]
      · rw [if_pos e] at hc; omega
      · rw [if_neg e] at hc
        by_cases e2 : dR w gap X Y i j = dR w gap X Y (i + 1) j + gap
        · rw [if_neg (show ¬ dL w gap (X.drop i) (Y.drop j) = dL w gap (X.drop (i + 1)) (Y.drop (j + 1)) + w X[i] Y[j] from e), if_pos (show dL w gap (X.drop i) (Y.drop j) = dL w gap (X.drop (i + 1)) (Y.drop j) + gap from e2)]
        · rw [if_neg e2] at hc; omega
    · rw [List.drop_eq_getElem_cons hi, List.drop_of_length_le (l := Y) (by omega), pL]
  · rw [codeP_below _ _ _ _ _ _ hi] at hc; omega
theorem pL_second (X Y : List α) (i j : Nat) (hij : i < X.length ∨ j < Y.length) (h1 : ¬ codeP w gap X Y i j = 1) (h2 : ¬ codeP w gap X Y i j = 2) (a b : Nat) : pL w gap (X.drop i) (Y.drop j) a b = ⟨-1, (b : Int)⟩ :: pL w gap (X.drop i) (Y.drop (j + 1)) a (b + 1) ∧ j < Y.length := by
  by_cases hi : i < X.length
  · by_cases hj : j < Y.length
    · refine ⟨?_, hj⟩
      rw [codeP_in _ _ _ _ _ _ hi hj] at h1 h2; rw [List.drop_eq_getElem_cons hi, List.drop_eq_getElem_cons hj, pL, ← List.drop_eq_getElem_cons hi, ← List.drop_eq_getElem_cons hj]
      by_cases e : dR w gap X Y i j = dR w gap X Y (i + 1) (j + 1) + w X[i] Y[j]
      · rw [if_pos e] at h1; exact absurd rfl h1
      · rw [if_neg e] at h2
        by_cases e2 : dR w gap X Y i j = dR w gap X Y (i + 1) j + gap
        · rw [if_pos e2] at h2; exact absurd rfl h2
        · rw [if_neg (show ¬ dL w gap (X.drop i) (Y.drop j) = dL w gap (X.drop (i + 1)) (Y.drop (j + 1)) + w X[i] Y[j] from e), if_neg (show ¬ dL w gap (X.drop i) (Y.drop j) = dL w gap (X.drop (i + 1)) (Y.drop j) + gap from e2)]
    · exact absurd (codeP_right _ _ _ _ _ _ hi hj) h2
  · have hj : j < Y.length := by omega
    refine ⟨?_, hj⟩; rw [List.drop_of_length_le (l := X) (by omega), List.drop_eq_getElem_cons hj, pL]
end
structure okW (X Y : List ByteArray) (g n f o : Int) (T : List (List Int)) (i j0 : Nat) : Prop where
  len : T.length = X.length + 1
  lens : ∀ p, p ≤ X.length → (T.getD p []).length = Y.length + 1
  right : ∀ p, p < X.length → at2 T p Y.length = 2
  below : ∀ q, q < Y.length → at2 T X.length q = 3
  here : ∀ p q, p < X.length → q < Y.length → (i < p ∨ (i = p ∧ j0 ≤ q)) → at2 T p q = codeP (wO n f o) g X Y p q
theorem okW.all {X Y : List ByteArray} {g n f o : Int} {T : List (List Int)} (h : okW X Y g n f o T 0 0) (p q : Nat) (hp : p ≤ X.length) (hq : q ≤ Y.length) (hpq : p < X.length ∨ q < Y.length) : at2 T p q = codeP (wO n f o) g X Y p q := by
  by_cases h1 : p < X.length
  · by_cases h2 : q < Y.length
    · exact h.here p q h1 h2 (by omega)
    · rw [codeP_right _ _ _ _ _ _ h1 h2, show q = Y.length by omega]; exact h.right p h1
  · rw [codeP_below _ _ _ _ _ _ h1, show p = X.length by omega]; exact h.below q (by omega)
section
variable (X Y : List ByteArray) (g n f o : Int) (hg : 1 ≤ g ∧ g ≤ 1000) (hn : 1 ≤ n ∧ n ≤ 1000) (hf : 1 ≤ f ∧ f ≤ 1000) (hX : X.length ≤ 1024) (hY : Y.length ≤ 1024)
include hX hY
include hg hn hf
end
def alignR (X Y : List ByteArray) (g n f o : Int) : List S59 × Int × Int := if (gridR X Y g n f o).2 = 0 then (pL (wO n f o) g X Y 0 0, dL (wO n f o) g X Y, 0) else ([], 0, (gridR X Y g n f o).2)
end Go.Proofs.YtbpinnanfanaaaaDoor.Pure
namespace Go.Proofs.YtbpinnanfanaaaaDoor.L
open Go.RowKit Go.Proofs.YtbpinnanfanaaaaDoorW.PrintWords Go.Proofs.YtbpinnanfanaaaaDoorW.PrintLast Go.Proofs.YtbpinnanfanaaaaDoorW.PrintMore
attribute [local go_sem] min2_int min_two min_three
set_option linter.unusedVariables false
set_option linter.unusedSimpArgs false
mutual
def pair_Right.l0 : Nat → Int → Int → Int → Int → List (S59) → Int → Int → Option (Bool)
  | 0, _, _, _, _, _, _, _ => none
  | k + 1, x0, x1, x7, x8, x11, x12, x13 => if x13 < x12 then (if 0 ≤ x13 then (if x13 < (x11.length : Int) then (if ((rd_T59 x11 x13).f0) = x7 then (if ((rd_T59 x11 x13).f1) = x8 then (if x7 < x0 then (pair_Right.j1 k x0 x1 x7 x8 x11 x12 x13 (decide (x8 < x1)) ((rd_T59 x11 x13).f0) ((rd_T59 x11 x13).f1)) else (pair_Right.j1 k x0 x1 x7 x8 x11 x12 x13 false ((rd_T59 x11 x13).f0) ((rd_T59 x11 x13).f1))) else (pair_Right.j1 k x0 x1 x7 x8 x11 x12 x13 false ((rd_T59 x11 x13).f0) ((rd_T59 x11 x13).f1))) else (pair_Right.j1 k x0 x1 x7 x8 x11 x12 x13 false ((rd_T59 x11 x13).f0) ((rd_T59 x11 x13).f1))) else (none)) else (none)) else (if x7 = x0 then (some (x8 == x1)) else (some false))
def pair_Right.j1 : Nat → Int → Int → Int → Int → List (S59) → Int → Int → Bool → Int → Int → Option (Bool)
  | 0, _, _, _, _, _, _, _, _, _, _ => none
  | k + 1, x0, x1, x7, x8, x11, x12, x13, x17, xU3U0, xU3U1 => if x17 = true then (pair_Right.l0 k x0 x1 (wrap64 (x7 + 1)) (wrap64 (x8 + 1)) x11 x12 (wrap64 (x13 + 1))) else (if xU3U0 = x7 then (if xU3U1 = (-1) then (pair_Right.j2 k x0 x1 x7 x8 x11 x12 x13 (decide (x7 < x0)) xU3U0 xU3U1) else (pair_Right.j2 k x0 x1 x7 x8 x11 x12 x13 false xU3U0 xU3U1)) else (pair_Right.j2 k x0 x1 x7 x8 x11 x12 x13 false xU3U0 xU3U1))
def pair_Right.j2 : Nat → Int → Int → Int → Int → List (S59) → Int → Int → Bool → Int → Int → Option (Bool)
  | 0, _, _, _, _, _, _, _, _, _, _ => none
  | k + 1, x0, x1, x7, x8, x11, x12, x13, x42, xU3U0, xU3U1 => if x42 = true then (pair_Right.l0 k x0 x1 (wrap64 (x7 + 1)) x8 x11 x12 (wrap64 (x13 + 1))) else (if xU3U0 = (-1) then (if xU3U1 = x8 then (if x8 < x1 then (pair_Right.l0 k x0 x1 x7 (wrap64 (x8 + 1)) x11 x12 (wrap64 (x13 + 1))) else (some false)) else (some false)) else (some false))
end
def pair_Right.f (k : Nat) (a0 : Int) (a1 : Int) (l2 : List (S59)) : Option (Bool) := pair_Right.l0 k a0 a1 0 0 l2 (l2.length : Int) 0
end Go.Proofs.YtbpinnanfanaaaaDoor.L
namespace Go.Proofs.YtbpinnanfanaaaaDoor.L
open Go.RowKit Go.Proofs.YtbpinnanfanaaaaDoorW.PrintWords Go.Proofs.YtbpinnanfanaaaaDoorW.PrintLast Go.Proofs.YtbpinnanfanaaaaDoorW.PrintMore
attribute [local go_sem] min2_int min_two min_three
set_option linter.unusedVariables false
set_option linter.unusedSimpArgs false
def pair_Price.l0 : Nat → List (List Int) → Int → List (S59) → Int → Int → Int → Int → Int → Int → Option (Int × Int)
 | 0, _, _, _, _, _, _, _, _, _ => none
 | k + 1, x10, x12, x34, x35, x36, xU2U0, xU2U1, xU2U2, xU2U3 => if x36 < x35 then (if 0 ≤ x36 then (if x36 < (x34.length : Int) then (if ((rd_T59 x34 x36).f0) < 0 then (pair_Price.l0 k x10 (wrap64 (x12 + xU2U0)) x34 x35 (wrap64 (x36 + 1)) xU2U0 xU2U1 xU2U2 xU2U3) else (if ((rd_T59 x34 x36).f1) < 0 then (pair_Price.l0 k x10 (wrap64 (x12 + xU2U0)) x34 x35 (wrap64 (x36 + 1)) xU2U0 xU2U1 xU2U2 xU2U3) else (if 0 ≤ ((rd_T59 x34 x36).f0) then (if ((rd_T59 x34 x36).f0) < (x10.length : Int) then (if 0 ≤ ((rd_T59 x34 x36).f1) then (if ((rd_T59 x34 x36).f1) < ((rd_L11 x10 ((rd_T59 x34 x36).f0)).length : Int) then (pair_Price.l0 k x10 (wrap64 (x12 + (rd (rd_L11 x10 ((rd_T59 x34 x36).f0)) ((rd_T59 x34 x36).f1)))) x34 x35 (wrap64 (x36 + 1)) xU2U0 xU2U1 xU2U2 xU2U3) else (none)) else (none)) else (none)) else (none)))) else (none)) else (none)) else (some (x12, 0))
def pair_Price.f (k : Nat) (l0 : List ByteArray) (l1 : List ByteArray) (l2 : List (S59)) (a3_0 : Int) (a3_1 : Int) (a3_2 : Int) (a3_3 : Int) : Option (Int × Int) := (cost_Grid.f k l0 l1 a3_0 a3_1 a3_2 a3_3).bind fun btU2 => (if btU2.2 = 0 then ((pair_Right.f k (l0.length : Int) (l1.length : Int) l2).bind fun tU6 => (if tU6 = true then (pair_Price.l0 k btU2.1 0 l2 (l2.length : Int) 0 a3_0 a3_1 a3_2 a3_3) else (some (0, 2)))) else (some (0, btU2.2)))
end Go.Proofs.YtbpinnanfanaaaaDoor.L
/-
  Is it an alignment, and what does it cost: the program's answers in plain numbers.
-/
namespace Go.Proofs.YtbpinnanfanaaaaDoor.Pure
open Go.RowKit Go.Proofs.YtbpinnanfanaaaaDoor.L Go.Proofs.YtbpinnanfanaaaaDoorW.PrintWords Go.Proofs.YtbpinnanfanaaaaDoorW.PrintLast Go.Proofs.YtbpinnanfanaaaaDoorW.PrintMore
def rightL (n m : Int) : List S59 → Int → Int → Bool
  | [], i, j => decide (i = n ∧ j = m)
  | p :: l, i, j =>
    if p.f0 = i ∧ p.f1 = j ∧ i < n ∧ j < m then rightL n m l (i + 1) (j + 1)
    else if p.f0 = i ∧ p.f1 = -1 ∧ i < n then rightL n m l (i + 1) j
    else if p.f0 = -1 ∧ p.f1 = j ∧ j < m then rightL n m l i (j + 1) else false
def costP (T : List (List Int)) (g : Int) (p : S59) : Int := if p.f0 < 0 ∨ p.f1 < 0 then g else at2 T p.f0.toNat p.f1.toNat
def costL (T : List (List Int)) (g : Int) : List S59 → Int
  | [] => 0
  | p :: l => costP T g p + costL T g l
section
variable (X Y : List ByteArray) (g n f o : Int) (hg : 1 ≤ g ∧ g ≤ 1000) (hn : 1 ≤ n ∧ n ≤ 1000) (hf : 1 ≤ f ∧ f ≤ 1000) (hX : X.length ≤ 1024) (hY : Y.length ≤ 1024)
include hg hn hf
end
def priceR (X Y : List ByteArray) (L : List S59) (g n f o : Int) : Int × Int := if (gridR X Y g n f o).2 = 0 then (if rightL X.length Y.length L 0 0 = true then (costL (gridP X Y n f o) g L, 0) else (0, 2)) else (0, (gridR X Y g n f o).2)
end Go.Proofs.YtbpinnanfanaaaaDoor.Pure
namespace Go.Proofs.YtbpinnanfanaaaaDoor.L
open Go.RowKit Go.Proofs.YtbpinnanfanaaaaDoorW.PrintWords Go.Proofs.YtbpinnanfanaaaaDoorW.PrintLast Go.Proofs.YtbpinnanfanaaaaDoorW.PrintMore
attribute [local go_sem] min2_int min_two min_three
set_option linter.unusedVariables false
set_option linter.unusedSimpArgs false
mutual
def siglumref10_Right.j0 : Nat → Int → Int → List (S59) → Bool → Option (Bool)
  | 0, _, _, _, _ => none
  | k + 1, x0, x1, x2, x16 => if x16 = true then (some false) else (siglumref10_Right.l0 k x0 x1 x2 0 0 0)
def siglumref10_Right.l0 : Nat → Int → Int → List (S59) → Int → Int → Int → Option (Bool)
  | 0, _, _, _, _, _, _ => none
  | k + 1, x0, x1, x2, x7, x8, x9 => if x9 < (x2.length : Int) then (if 0 ≤ x9 then (if ((rd_T59 x2 x9).f0) = (-1) then (siglumref10_Right.j2 k x0 x1 x2 x7 x8 x9 (((rd_T59 x2 x9).f1) == (-1)) ((rd_T59 x2 x9).f0) ((rd_T59 x2 x9).f1)) else (siglumref10_Right.j2 k x0 x1 x2 x7 x8 x9 false ((rd_T59 x2 x9).f0) ((rd_T59 x2 x9).f1))) else (none)) else (if x7 = x0 then (some (x8 == x1)) else (some false))
def siglumref10_Right.j2 : Nat → Int → Int → List (S59) → Int → Int → Int → Bool → Int → Int → Option (Bool)
  | 0, _, _, _, _, _, _, _, _, _ => none
  | k + 1, x0, x1, x2, x7, x8, x9, x34, xU3U0, xU3U1 => if x34 = true then (some false) else (if xU3U0 = (-1) then (siglumref10_Right.j3 k x0 x1 x2 x7 x8 x9 xU3U0 xU3U1) else (if xU3U0 = x7 then (if x7 ≥ x0 then (some false) else (siglumref10_Right.j3 k x0 x1 x2 (wrap64 (x7 + 1)) x8 x9 xU3U0 xU3U1)) else (some false)))
def siglumref10_Right.j3 : Nat → Int → Int → List (S59) → Int → Int → Int → Int → Int → Option (Bool)
  | 0, _, _, _, _, _, _, _, _ => none
  | k + 1, x0, x1, x2, x7, x8, x9, xU3U0, xU3U1 => if xU3U1 = (-1) then (siglumref10_Right.l0 k x0 x1 x2 x7 x8 (wrap64 (x9 + 1))) else (if xU3U1 = x8 then (if x8 ≥ x1 then (some false) else (siglumref10_Right.l0 k x0 x1 x2 x7 (wrap64 (x8 + 1)) (wrap64 (x9 + 1)))) else (some false))
end
def siglumref10_Right.f (k : Nat) (a0 : Int) (a1 : Int) (l2 : List (S59)) : Option (Bool) := if a0 < 0 then (siglumref10_Right.j0 k a0 a1 l2 true) else (siglumref10_Right.j0 k a0 a1 l2 (decide (a1 < 0)))
end Go.Proofs.YtbpinnanfanaaaaDoor.L
namespace Go.Proofs.YtbpinnanfanaaaaDoor.L
open Go.RowKit Go.Proofs.YtbpinnanfanaaaaDoorW.PrintWords Go.Proofs.YtbpinnanfanaaaaDoorW.PrintLast Go.Proofs.YtbpinnanfanaaaaDoorW.PrintMore
attribute [local go_sem] min2_int min_two min_three
set_option linter.unusedVariables false
set_option linter.unusedSimpArgs false
def siglumref10_Price.l0 : Nat → List (S59) → List (List Int) → Int → Int → Int → Int → Int → Int → Option (Int × Int)
  | 0, _, _, _, _, _, _, _, _ => none
  | k + 1, x2, x10, x12, x13, xU2U0, xU2U1, xU2U2, xU2U3 => if x13 < (x2.length : Int) then (if 0 ≤ x13 then (if ((rd_T59 x2 x13).f0) = (-1) then (siglumref10_Price.l0 k x2 x10 (wrap64 (x12 + xU2U0)) (wrap64 (x13 + 1)) xU2U0 xU2U1 xU2U2 xU2U3) else (if ((rd_T59 x2 x13).f1) = (-1) then (siglumref10_Price.l0 k x2 x10 (wrap64 (x12 + xU2U0)) (wrap64 (x13 + 1)) xU2U0 xU2U1 xU2U2 xU2U3) else (if 0 ≤ ((rd_T59 x2 x13).f0) then (if ((rd_T59 x2 x13).f0) < (x10.length : Int) then (if 0 ≤ ((rd_T59 x2 x13).f1) then (if ((rd_T59 x2 x13).f1) < ((rd_L11 x10 ((rd_T59 x2 x13).f0)).length : Int) then (siglumref10_Price.l0 k x2 x10 (wrap64 (x12 + (rd (rd_L11 x10 ((rd_T59 x2 x13).f0)) ((rd_T59 x2 x13).f1)))) (wrap64 (x13 + 1)) xU2U0 xU2U1 xU2U2 xU2U3) else (none)) else (none)) else (none)) else (none)))) else (none)) else (some (x12, 0))
def siglumref10_Price.f (k : Nat) (l0 : List ByteArray) (l1 : List ByteArray) (l2 : List (S59)) (a3_0 : Int) (a3_1 : Int) (a3_2 : Int) (a3_3 : Int) : Option (Int × Int) := (siglumref09_Grid.f k l0 l1 a3_0 a3_1 a3_2 a3_3).bind fun btU2 => (if btU2.2 = 0 then ((siglumref10_Right.f k (l0.length : Int) (l1.length : Int) l2).bind fun tU6 => (if tU6 = true then (siglumref10_Price.l0 k l2 btU2.1 0 0 a3_0 a3_1 a3_2 a3_3) else (some (0, 2)))) else (some (0, btU2.2)))
end Go.Proofs.YtbpinnanfanaaaaDoor.L
/-
  The document's answers about two lists of words, in plain numbers: the grid, the least prices, the alignment, the price.
-/
namespace Go.Proofs.YtbpinnanfanaaaaDoor.Pure
open Go.RowKit Go.Proofs.YtbpinnanfanaaaaDoor.L Go.Proofs.YtbpinnanfanaaaaDoorW.PrintWords Go.Proofs.YtbpinnanfanaaaaDoorW.PrintLast Go.Proofs.YtbpinnanfanaaaaDoorW.PrintMore
structure okD (X Y : List ByteArray) (g n f o : Int) (T : List (List Int)) (i j0 : Nat) : Prop where
  len : T.length = X.length + 1
  lens : ∀ p, i ≤ p → p ≤ X.length → (T.getD p []).length = Y.length + 1
  here : ∀ p q, p ≤ X.length → q ≤ Y.length → (i < p ∨ (i = p ∧ j0 ≤ q)) → at2 T p q = dR (wO n f o) g X Y p q
def tabD (X Y : List ByteArray) (g n f o : Int) : List (List Int) := (List.range (X.length + 1)).map fun p => (List.range (Y.length + 1)).map fun q => dR (wO n f o) g X Y p q
theorem tabD_row (X Y : List ByteArray) (g n f o : Int) (p : Nat) (hp : p ≤ X.length) : (tabD X Y g n f o).getD p [] = (List.range (Y.length + 1)).map fun q => dR (wO n f o) g X Y p q := by
  unfold tabD; rw [getD_get _ _ (by rw [List.length_map, List.length_range]; omega), List.getElem_map, List.getElem_range]
theorem tabD_ok (X Y : List ByteArray) (g n f o : Int) : (tabD X Y g n f o).length = X.length + 1 ∧ (∀ p, p ≤ X.length → ((tabD X Y g n f o).getD p []).length = Y.length + 1) ∧ ∀ p q, p ≤ X.length → q ≤ Y.length → at2 (tabD X Y g n f o) p q = dR (wO n f o) g X Y p q := by
  refine ⟨by unfold tabD; rw [List.length_map, List.length_range], fun p hp => by rw [tabD_row _ _ _ _ _ _ _ hp, List.length_map, List.length_range], fun p q hp hq => ?_⟩; unfold at2; rw [tabD_row _ _ _ _ _ _ _ hp, getD_get _ _ (by rw [List.length_map, List.length_range]; omega), List.getElem_map, List.getElem_range]
theorem tabD_of (X Y : List ByteArray) (g n f o : Int) (T : List (List Int)) (h1 : T.length = X.length + 1) (h2 : ∀ p, p ≤ X.length → (T.getD p []).length = Y.length + 1) (h3 : ∀ p q, p ≤ X.length → q ≤ Y.length → at2 T p q = dR (wO n f o) g X Y p q) : T = tabD X Y g n f o := by
  obtain ⟨a, b, c⟩ := tabD_ok X Y g n f o; refine List.ext_getElem (by omega) fun p p1 p2 => ?_
  rw [← getD_get T p p1 [], ← getD_get _ p p2 []]; refine List.ext_getElem (by rw [h2 p (by omega), b p (by omega)]) fun q q1 q2 => ?_
  have e1 := h3 p q (by omega) (by have := h2 p (by omega); omega); have e2 := c p q (by omega) (by have := h2 p (by omega); omega); unfold at2 at e1 e2; rw [getD_get _ _ q1] at e1; rw [getD_get _ _ q2] at e2; rw [e1, e2]
section
variable (X Y : List ByteArray) (g n f o : Int) (hg : 1 ≤ g ∧ g ≤ 1000) (hn : 1 ≤ n ∧ n ≤ 1000) (hf : 1 ≤ f ∧ f ≤ 1000) (hX : X.length ≤ 1024) (hY : Y.length ≤ 1024)
include hX hY hg hn hf
theorem rests_l1 (i : Nat) (hi : i ≤ X.length) (R : List (List Int)) (ih : ∀ T, okD X Y g n f o T i 0 → Ev (fun k => siglumref10_Rests.l0 k (gridP X Y n f o) (X.length : Int) (Y.length : Int) g T (wrap64 ((i : Int) - 1))) R) :
    ∀ (J : Nat) (T : List (List Int)) (x : Int), J ≤ Y.length + 1 → x = (J : Int) - 1 → okD X Y g n f o T i J →
    Ev (fun k => siglumref10_Rests.l1 k (gridP X Y n f o) (X.length : Int) (Y.length : Int) g T (i : Int) x) R := by
  intro J
  induction J with
  | zero =>
    intro T x hJ hx hT; exact Ev.step (fun k => by rw [siglumref10_Rests.l1, if_neg (by omega)]) (ih T hT)
  | succ j IH =>
    intro T x hJ hx hT; obtain rfl : x = (j : Int) := by omega
    have hgw : ∀ x y, 0 ≤ wO n f o x y := fun x y => (wO_range n f o hn.1 hf x y).1
    have rij := dR_range (wO n f o) g ⟨by omega, hg.2⟩ hgw X Y hX hY i j; have eT := hT.len; have eL : (rd_L11 T (i : Int)).length = Y.length + 1 := hT.lens i (Nat.le_refl _) hi
    have fin : Ev (fun k => siglumref10_Rests.l1 k (gridP X Y n f o) (X.length : Int) (Y.length : Int) g (setT T i j (dR (wO n f o) g X Y i j)) (i : Int) (wrap64 ((j : Int) - 1))) R := by
      have u := upd_set T i j (dR (wO n f o) g X Y i j) (by omega) (by have := hT.lens i (Nat.le_refl _) hi; omega); refine IH _ _ (by omega) (ws _ (by omega) (by omega)) ⟨u.len.trans hT.len, fun p h1 h2 => (u.lens p).trans (hT.lens p h1 h2), fun p q hp hq h => ?_⟩
      by_cases e : p = i ∧ q = j
      · obtain ⟨rfl, rfl⟩ := e
        exact u.here
      · rw [u.else_ _ _ e]
        exact hT.here p q hp hq (by omega)
    have s1 : ∀ v, T.set i ((rd_L11 T (i : Int)).set j v) = setT T i j v := fun v => rfl
    by_cases hin : i = X.length
    · have he := dR_endl (wO n f o) g X Y j (by omega)
      rw [← hin] at he; refine Ev.step (fun k => ?_) fin; rw [siglumref10_Rests.l1, if_pos (by omega), if_pos (by omega), if_pos (by omega), if_pos (by omega), if_pos (by omega), if_pos (by omega), ws ((Y.length : Int) - (j : Int)) (by omega) (by omega), ← he, ws _ (by omega) (by omega)]; simp only [Int.toNat_natCast]; rw [s1]
    · by_cases hjm : j = Y.length
      · have he := dR_endr (wO n f o) g X Y i (by omega)
        rw [← hjm] at he; refine Ev.step (fun k => ?_) fin; rw [siglumref10_Rests.l1, if_pos (by omega), if_neg (by omega), if_pos (by omega), if_pos (by omega), if_pos (by omega), if_pos (by omega), if_pos (by omega), ws ((X.length : Int) - (i : Int)) (by omega) (by omega), ← he, ws _ (by omega) (by omega)]; simp only [Int.toNat_natCast]; rw [s1]
      · have hi' : i < X.length := by omega
        have hj' : j < Y.length := by omega
        have r11 := dR_range (wO n f o) g ⟨by omega, hg.2⟩ hgw X Y hX hY (i + 1) (j + 1); have r10 := dR_range (wO n f o) g ⟨by omega, hg.2⟩ hgw X Y hX hY (i + 1) j; have r01 := dR_range (wO n f o) g ⟨by omega, hg.2⟩ hgw X Y hX hY i (j + 1); have rw_ := wO_range n f o hn.1 hf X[i] Y[j]; have hD := dR_step (wO n f o) g X Y i j hi' hj'; have e1 : rd (rd_L11 T ((i + 1 : Nat) : Int)) ((j + 1 : Nat) : Int) = dR (wO n f o) g X Y (i + 1) (j + 1) := hT.here (i + 1) (j + 1) (by omega) (by omega) (by omega); have e2 : rd (rd_L11 (gridP X Y n f o) (i : Int)) (j : Int) = wO n f o X[i] Y[j] := grid_at X Y n f o i j hi' hj'; have e2l : (rd_L11 (gridP X Y n f o) (i : Int)).length = Y.length := grid_rlen X Y n f o i hi'; have e3 : rd (rd_L11 T ((i + 1 : Nat) : Int)) (j : Int) = dR (wO n f o) g X Y (i + 1) j := hT.here (i + 1) j (by omega) (by omega) (by omega); have e4 : rd (rd_L11 T (i : Int)) ((j + 1 : Nat) : Int) = dR (wO n f o) g X Y i (j + 1) := hT.here i (j + 1) (by omega) (by omega) (by omega); have eL1 : (rd_L11 T ((i + 1 : Nat) : Int)).length = Y.length + 1 := hT.lens (i + 1) (by omega) (by omega); have eG := grid_len X Y n f o; refine Ev.step (fun k => ?_) fin; rw [siglumref10_Rests.l1, if_pos (by omega), if_neg (by omega), if_neg (by omega), wsucc i (by omega), wsucc j (by omega), if_pos (by omega), if_pos (by omega), if_pos (by omega), if_pos (by omega), if_pos (by omega), if_pos (by omega), if_pos (by omega), if_pos (by omega), if_pos (by omega), if_pos (by omega), if_pos (by omega), if_pos (by omega), e1, e2, e3, e4]; generalize dR (wO n f o) g X Y (i + 1) (j + 1) = D11 at r11 hD; generalize dR (wO n f o) g X Y (i + 1) j = D10 at r10 hD; generalize dR (wO n f o) g X Y i (j + 1) = D01 at r01 hD; generalize wO n f o X[i] Y[j] = W at rw_ hD; rw [ws (D11 + W) (by omega) (by omega), ws (D10 + g) (by omega) (by omega), ws (D01 + g) (by omega) (by omega), mn_eq, mn_eq, ← hD]; simp only [Int.toNat_natCast]; rw [s1]
theorem rests_l0 : ∀ (I : Nat) (T : List (List Int)) (x : Int), I ≤ X.length + 1 → x = (I : Int) - 1 → T.length = X.length + 1 → (∀ p, I ≤ p → p ≤ X.length → (T.getD p []).length = Y.length + 1) → (∀ p q, I ≤ p → p ≤ X.length → q ≤ Y.length → at2 T p q = dR (wO n f o) g X Y p q) →
    Ev (fun k => siglumref10_Rests.l0 k (gridP X Y n f o) (X.length : Int) (Y.length : Int) g T x) (tabD X Y g n f o) := by
  intro I
  induction I with
  | zero =>
    intro T x hI hx h1 h2 h3; rw [← tabD_of X Y g n f o T h1 (fun p hp => h2 p (Nat.zero_le _) hp) (fun p q hp hq => h3 p q (Nat.zero_le _) hp hq)]; exact Ev.step (f := fun _ => some T) (fun k => by rw [siglumref10_Rests.l0, if_neg (by omega)]) (Ev.now _)
  | succ i IH =>
    intro T x hI hx h1 h2 h3; obtain rfl : x = (i : Int) := by omega
    refine Ev.step (f := fun k => siglumref10_Rests.l1 k (gridP X Y n f o) (X.length : Int) (Y.length : Int) g (T.set i (List.replicate (Y.length + 1) 0)) (i : Int) (Y.length : Int)) (fun k => by
      rw [siglumref10_Rests.l0, if_pos (by omega), wsucc Y.length (by omega), if_pos (by omega), if_pos (by omega), if_pos (by omega), if_pos (by omega), Int.toNat_natCast, Int.toNat_natCast]) ?_
    refine rests_l1 X Y g n f o hg hn hf hX hY i (by omega) _ (fun T' h => IH T' _ (by omega) (ws _ (by omega) (by omega)) h.len (fun p a b => h.lens p a b) (fun p q a b c => h.here p q b c (by omega))) (Y.length + 1) _ _ (Nat.le_refl _) (by omega) ⟨by rw [List.length_set]; exact h1, fun p a b => ?_, fun p q a b c => ?_⟩
    · by_cases e : i = p
      · subst e; rw [getD_set_same _ _ (by omega), List.length_replicate]
      · rw [getD_set_ne _ _ _ e]; exact h2 p (by omega) b
    · unfold at2
      rw [getD_set_ne _ _ _ (by omega)]; exact h3 p q (by omega) a b
theorem rests_eq : Ev (fun k => siglumref10_Rests.f k (gridP X Y n f o) (X.length : Int) (Y.length : Int) g) (tabD X Y g n f o) := by
  refine Ev.congr (f := fun k => siglumref10_Rests.l0 k (gridP X Y n f o) (X.length : Int) (Y.length : Int) g (List.replicate (X.length + 1) []) (X.length : Int)) (fun k => by
    unfold siglumref10_Rests.f; rw [wsucc X.length (by omega), if_pos (by omega), if_pos (by omega), Int.toNat_natCast]) ?_
  exact rests_l0 X Y g n f o hg hn hf hX hY (X.length + 1) _ _ (Nat.le_refl _) (by omega) (by rw [List.length_replicate]) (fun p a b => by omega) (fun p q a b c => by omega)
theorem walk_loop : ∀ (d i j : Nat) (acc : List S59), (X.length - i) + (Y.length - j) ≤ d → i ≤ X.length → j ≤ Y.length → acc.length + (X.length - i) + (Y.length - j) ≤ 2048 →
    Ev (fun k => siglumref10_Walk.l0 k (gridP X Y n f o) (X.length : Int) (Y.length : Int) g (tabD X Y g n f o) acc (i : Int) (j : Int)) (acc ++ pL (wO n f o) g (X.drop i) (Y.drop j) i j, dL (wO n f o) g X Y) := by
  have hT := tabD_ok X Y g n f o
  have e00 : rd (rd_L11 (tabD X Y g n f o) 0) 0 = dL (wO n f o) g X Y := by
    have := hT.2.2 0 0 (Nat.zero_le _) (Nat.zero_le _); unfold dR at this; exact this
  have hl0 : (rd_L11 (tabD X Y g n f o) 0).length = Y.length + 1 := hT.2.1 0 (Nat.zero_le _); have eT := hT.1; have eG := grid_len X Y n f o; have hgw : ∀ x y, 0 ≤ wO n f o x y := fun x y => (wO_range n f o hn.1 hf x y).1
  intro d
  induction d with
  | zero =>
    intro i j acc hd hi hj ha
    refine Ev.step (f := fun k => siglumref10_Walk.j1 k (gridP X Y n f o) (X.length : Int) (Y.length : Int) g (tabD X Y g n f o) acc (i : Int) (j : Int) false) (fun k => by
      rw [siglumref10_Walk.l0, if_neg (by omega), decide_eq_false (by omega)]) ?_
    exact Ev.step (f := fun _ => some (acc ++ pL (wO n f o) g (X.drop i) (Y.drop j) i j, dL (wO n f o) g X Y)) (fun k => by
      rw [siglumref10_Walk.j1, if_neg (by decide), if_pos (by omega), if_pos (by omega), e00, pL_done _ _ _ _ _ _ (by omega) (by omega), List.append_nil]) (Ev.now _)
  | succ d IH =>
    intro i j acc hd hi hj ha
    by_cases hend : i = X.length ∧ j = Y.length
    · refine Ev.step (f := fun k => siglumref10_Walk.j1 k (gridP X Y n f o) (X.length : Int) (Y.length : Int) g (tabD X Y g n f o) acc (i : Int) (j : Int) false) (fun k => by
        rw [siglumref10_Walk.l0, if_neg (by omega), decide_eq_false (by omega)]) ?_
      exact Ev.step (f := fun _ => some (acc ++ pL (wO n f o) g (X.drop i) (Y.drop j) i j, dL (wO n f o) g X Y)) (fun k => by
        rw [siglumref10_Walk.j1, if_neg (by decide), if_pos (by omega), if_pos (by omega), e00, pL_done _ _ _ _ _ _ (by omega) (by omega), List.append_nil]) (Ev.now _)
    · have hij : i < X.length ∨ j < Y.length := by omega
      refine Ev.step (f := fun k => siglumref10_Walk.j1 k (gridP X Y n f o) (X.length : Int) (Y.length : Int) g (tabD X Y g n f o) acc (i : Int) (j : Int) true) (fun k => by
        rw [siglumref10_Walk.l0]
        by_cases h1 : (i : Int) < (X.length : Int)
        · rw [if_pos h1]
        · rw [if_neg h1, decide_eq_true (by omega)]) ?_
      have el : (rd_L11 (tabD X Y g n f o) (i : Int)).length = Y.length + 1 := hT.2.1 i hi; have ev : rd (rd_L11 (tabD X Y g n f o) (i : Int)) (j : Int) = dR (wO n f o) g X Y i j := hT.2.2 i j hi hj; have rij := dR_range (wO n f o) g ⟨by omega, hg.2⟩ hgw X Y hX hY i j
      have second : ¬ codeP (wO n f o) g X Y i j = 1 → Ev (fun k => siglumref10_Walk.j2 k (gridP X Y n f o) (X.length : Int) (Y.length : Int) g (tabD X Y g n f o) acc (i : Int) (j : Int) false) (acc ++ pL (wO n f o) g (X.drop i) (Y.drop j) i j, dL (wO n f o) g X Y) := by
        intro c1
        by_cases c2 : codeP (wO n f o) g X Y i j = 2
        · obtain ⟨e3, h1⟩ := pL_first (wO n f o) g X Y i j c2 i j
          have el1 : (rd_L11 (tabD X Y g n f o) ((i + 1 : Nat) : Int)).length = Y.length + 1 := hT.2.1 (i + 1) (by omega); have ev1 : rd (rd_L11 (tabD X Y g n f o) ((i + 1 : Nat) : Int)) (j : Int) = dR (wO n f o) g X Y (i + 1) j := hT.2.2 (i + 1) j (by omega) hj; have r1 := dR_range (wO n f o) g ⟨by omega, hg.2⟩ hgw X Y hX hY (i + 1) j
          have eq : dR (wO n f o) g X Y i j = dR (wO n f o) g X Y (i + 1) j + g := by
            by_cases hj' : j < Y.length
            · rw [codeP_in _ _ _ _ _ _ h1 hj'] at c2
              by_cases a : dR (wO n f o) g X Y i j = dR (wO n f o) g X Y (i + 1) (j + 1) + wO n f o X[i] Y[j]
              · rw [if_pos a] at c2; omega
              · rw [if_neg a] at c2
                by_cases b : dR (wO n f o) g X Y i j = dR (wO n f o) g X Y (i + 1) j + g
                · exact b
                · rw [if_neg b] at c2; omega
            · obtain rfl : j = Y.length := by omega
              rw [dR_endr _ _ _ _ _ (by omega), dR_endr _ _ _ _ _ (by omega), show ((X.length : Int) - (i : Int)) = ((X.length : Int) - ((i + 1 : Nat) : Int)) + 1 by omega, Int.add_mul, Int.one_mul]
          refine Ev.step (f := fun k => siglumref10_Walk.l0 k (gridP X Y n f o) (X.length : Int) (Y.length : Int) g (tabD X Y g n f o) (acc ++ [⟨(i : Int), -1⟩]) ((i + 1 : Nat) : Int) (j : Int)) (fun k => by
            rw [siglumref10_Walk.j2, if_neg (by decide), if_pos (by omega), wsucc i (by omega), if_pos (by omega), if_pos (by omega), if_pos (by omega), if_pos (by omega), if_pos (by omega), if_pos (by omega), if_pos (by omega), ev, ev1, ws (dR (wO n f o) g X Y (i + 1) j + g) (by omega) (by omega), if_pos eq, if_pos (by omega)]) ?_
          have := IH (i + 1) j (acc ++ [⟨(i : Int), -1⟩]) (by omega) (by omega) (by omega) (by rw [List.length_append]; simp only [List.length_cons, List.length_nil]; omega); rw [e3]
          rwa [List.append_assoc] at this
        · obtain ⟨e3, h1⟩ := pL_second (wO n f o) g X Y i j hij c1 c2 i j
          have fin : Ev (fun k => siglumref10_Walk.l0 k (gridP X Y n f o) (X.length : Int) (Y.length : Int) g (tabD X Y g n f o) (acc ++ [⟨-1, (j : Int)⟩]) (i : Int) ((j + 1 : Nat) : Int)) (acc ++ pL (wO n f o) g (X.drop i) (Y.drop j) i j, dL (wO n f o) g X Y) := by
            have := IH i (j + 1) (acc ++ [⟨-1, (j : Int)⟩]) (by omega) (by omega) (by omega) (by rw [List.length_append]; simp only [List.length_cons, List.length_nil]; omega); rw [e3]
            rwa [List.append_assoc] at this
          by_cases hi' : i < X.length
          · have el1 : (rd_L11 (tabD X Y g n f o) ((i + 1 : Nat) : Int)).length = Y.length + 1 := hT.2.1 (i + 1) (by omega)
            have ev1 : rd (rd_L11 (tabD X Y g n f o) ((i + 1 : Nat) : Int)) (j : Int) = dR (wO n f o) g X Y (i + 1) j := hT.2.2 (i + 1) j (by omega) hj; have r1 := dR_range (wO n f o) g ⟨by omega, hg.2⟩ hgw X Y hX hY (i + 1) j
            have neq : ¬ dR (wO n f o) g X Y i j = dR (wO n f o) g X Y (i + 1) j + g := by
              intro b; rw [codeP_in _ _ _ _ _ _ hi' h1] at c1 c2
              by_cases a : dR (wO n f o) g X Y i j = dR (wO n f o) g X Y (i + 1) (j + 1) + wO n f o X[i] Y[j]
              · rw [if_pos a] at c1; exact c1 rfl
              · rw [if_neg a, if_pos b] at c2; exact c2 rfl
            refine Ev.step (fun k => ?_) fin; rw [siglumref10_Walk.j2, if_neg (by decide), if_pos (by omega), wsucc i (by omega), if_pos (by omega), if_pos (by omega), if_pos (by omega), if_pos (by omega), if_pos (by omega), if_pos (by omega), if_pos (by omega), ev, ev1, ws (dR (wO n f o) g X Y (i + 1) j + g) (by omega) (by omega), if_neg neq, if_pos (by omega), wsucc j (by omega)]
          · refine Ev.step (fun k => ?_) fin
            rw [siglumref10_Walk.j2, if_neg (by decide), if_neg (by omega), if_pos (by omega), wsucc j (by omega)]
      by_cases hin : i < X.length ∧ j < Y.length
      · obtain ⟨hi', hj'⟩ := hin
        have el1 : (rd_L11 (tabD X Y g n f o) ((i + 1 : Nat) : Int)).length = Y.length + 1 := hT.2.1 (i + 1) (by omega); have ev1 : rd (rd_L11 (tabD X Y g n f o) ((i + 1 : Nat) : Int)) ((j + 1 : Nat) : Int) = dR (wO n f o) g X Y (i + 1) (j + 1) := hT.2.2 (i + 1) (j + 1) (by omega) (by omega); have r1 := dR_range (wO n f o) g ⟨by omega, hg.2⟩ hgw X Y hX hY (i + 1) (j + 1); have e2 : rd (rd_L11 (gridP X Y n f o) (i : Int)) (j : Int) = wO n f o X[i] Y[j] := grid_at X Y n f o i j hi' hj'; have e2l : (rd_L11 (gridP X Y n f o) (i : Int)).length = Y.length := grid_rlen X Y n f o i hi'; have rw_ := wO_range n f o hn.1 hf X[i] Y[j]
        refine Ev.step (f := fun k => siglumref10_Walk.j2 k (gridP X Y n f o) (X.length : Int) (Y.length : Int) g (tabD X Y g n f o) acc (i : Int) (j : Int) (dR (wO n f o) g X Y i j == dR (wO n f o) g X Y (i + 1) (j + 1) + wO n f o X[i] Y[j])) (fun k => by
          rw [siglumref10_Walk.j1, if_pos rfl, if_pos (by omega), if_pos (by omega), wsucc i (by omega), wsucc j (by omega), if_pos (by omega), if_pos (by omega), if_pos (by omega), if_pos (by omega), if_pos (by omega), if_pos (by omega), if_pos (by omega), if_pos (by omega), if_pos (by omega), if_pos (by omega), ev, ev1, e2, ws (dR (wO n f o) g X Y (i + 1) (j + 1) + wO n f o X[i] Y[j]) (by omega) (by omega)]) ?_
        by_cases c1 : codeP (wO n f o) g X Y i j = 1
        · obtain ⟨e3, _, _⟩ := pL_both (wO n f o) g X Y i j c1 i j
          rw [codeP_in _ _ _ _ _ _ hi' hj'] at c1
          have a : dR (wO n f o) g X Y i j = dR (wO n f o) g X Y (i + 1) (j + 1) + wO n f o X[i] Y[j] := by
            by_cases a : dR (wO n f o) g X Y i j = dR (wO n f o) g X Y (i + 1) (j + 1) + wO n f o X[i] Y[j]
            · exact a
            · rw [if_neg a] at c1; split at c1 <;> omega
          rw [beq_iff_eq.2 a]
          refine Ev.step (f := fun k => siglumref10_Walk.l0 k (gridP X Y n f o) (X.length : Int) (Y.length : Int) g (tabD X Y g n f o) (acc ++ [⟨(i : Int), (j : Int)⟩]) ((i + 1 : Nat) : Int) ((j + 1 : Nat) : Int)) (fun k => by
            rw [siglumref10_Walk.j2, if_pos rfl, if_pos (by omega), wsucc i (by omega), wsucc j (by omega)]) ?_
          have := IH (i + 1) (j + 1) (acc ++ [⟨(i : Int), (j : Int)⟩]) (by omega) (by omega) (by omega) (by rw [List.length_append]; simp only [List.length_cons, List.length_nil]; omega); rw [e3]
          rwa [List.append_assoc] at this
        · have a : ¬ dR (wO n f o) g X Y i j = dR (wO n f o) g X Y (i + 1) (j + 1) + wO n f o X[i] Y[j] := by
            intro a; rw [codeP_in _ _ _ _ _ _ hi' hj', if_pos a] at c1; exact c1 rfl
          rw [beq_eq_false_iff_ne.2 a]; exact second c1
      · refine Ev.step (f := fun k => siglumref10_Walk.j2 k (gridP X Y n f o) (X.length : Int) (Y.length : Int) g (tabD X Y g n f o) acc (i : Int) (j : Int) false) (fun k => by
          rw [siglumref10_Walk.j1, if_pos rfl]
          by_cases h1 : (i : Int) < (X.length : Int)
          · rw [if_pos h1, if_neg (by omega)]
          · rw [if_neg h1]) (second ?_)
        unfold codeP; rw [dif_neg hin]
        split <;> omega
end
theorem refalign_eq (X Y : List ByteArray) (hX : smallL X) (hY : smallL Y) (g n f o : Int) : Ev (fun k => siglumref10_Align.f k X Y g n f o) (alignR X Y g n f o) := by
  unfold alignR; refine ev_bind (refgrid_eq X Y hX hY g n f o) ?_
  by_cases h : (gridR X Y g n f o).2 = 0
  · obtain ⟨e, hs, l1, l2⟩ := gridR_ok h
    unfold scaleOk at hs; rw [if_pos h, e]
    have hw : Ev (fun k => siglumref10_Walk.f k (gridP X Y n f o) (X.length : Int) (Y.length : Int) g) (pL (wO n f o) g X Y 0 0, dL (wO n f o) g X Y) :=
      ev_bind (f := fun k t => siglumref10_Walk.l0 k (gridP X Y n f o) (X.length : Int) (Y.length : Int) g t [] 0 0) (rests_eq X Y g n f o hs.1 hs.2.1 hs.2.2.1 l1 l2) (walk_loop X Y g n f o hs.1 hs.2.1 hs.2.2.1 l1 l2 (X.length + Y.length) 0 0 [] (by omega) (by omega) (by omega) (by simp only [List.length_nil]; omega))
    exact Ev.congr (fun k => by rw [if_pos rfl]) (ev_bind hw (Ev.now _))
  · rw [if_neg h]
    exact Ev.congr (fun k => by rw [if_neg h]) (Ev.now _)
end Go.Proofs.YtbpinnanfanaaaaDoor.Pure
/-
  SlimLeast: every least price is the document's.
-/
namespace Go.Proofs.YtbpinnanfanaaaaDoor.Pure
open Go.RowKit Go.Proofs.YtbpinnanfanaaaaDoor.L Go.Proofs.YtbpinnanfanaaaaDoorW.PrintWords Go.Proofs.YtbpinnanfanaaaaDoorW.PrintLast Go.Proofs.YtbpinnanfanaaaaDoorW.PrintMore
theorem least_align (X Y : List ByteArray) (g n f o : Int) : leastR X Y g n f o = ((alignR X Y g n f o).2.1, (alignR X Y g n f o).2.2) := by
  unfold leastR alignR
  by_cases h : (gridR X Y g n f o).2 = 0
  · obtain ⟨_, hs, _, _⟩ := gridR_ok h
    unfold scaleOk at hs; rw [if_pos h, if_pos h, dP_all (wO n f o) g (by omega) (fun x y => (wO_range n f o hs.2.1.1 hs.2.2.1 x y).1)]
  · rw [if_neg h, if_neg h]
theorem refleast_eq (X Y : List ByteArray) (hX : smallL X) (hY : smallL Y) (g n f o : Int) : Ev (fun k => siglumref11_Least.f k X Y g n f o) (leastR X Y g n f o) := by
  rw [least_align]; exact ev_bind (g := fun k => siglumref10_Align.f k X Y g n f o) (refalign_eq X Y hX hY g n f o) (Ev.now _)
theorem SlimLeast (A B : List ByteArray) (g n f o : Int) (_ : (∀ x ∈ A, x.size ≤ maxLen) ∧ A.length ≤ maxLen) (_ : (∀ x ∈ B, x.size ≤ maxLen) ∧ B.length ≤ maxLen) (_ : (Lit.int .i64 g).wf = true ∧ (Lit.int .i64 n).wf = true ∧ (Lit.int .i64 f).wf = true ∧ (Lit.int .i64 o).wf = true) (hb : ((A.map fun y => (y.size + 1)).sum + 1) + ((B.map fun y => (y.size + 1)).sum + 1) + (1 + 1 + 1 + 1 + 1) ≤ 1048576) : ∃ k, siglumlaw11_SlimLeast.f k A B g n f o = some true := by
  have hA : smallL A := smallSumS A (by omega); have hB : smallL B := smallSumS B (by omega); refine Ev.rounds (ev_bind (f := fun k t => if t = true then (siglumref09_Light.f k A B).bind fun u => if u = true then (slim_Least.f k A B g n f o).bind fun p => (siglumref11_Least.f k A B g n f o).bind fun q => if p.1 = q.1 then some (p.2 == q.2) else some false else some true else some false) awake11 (Ev.congr (fun k => by rw [if_pos rfl]) ?_)); obtain ⟨r, hr⟩ := light_any A B hA hB; refine ev_bind hr ?_
  cases r with
  | false => exact Ev.congr (fun k => by rw [if_neg (by decide)]) (Ev.now _)
  | true => exact Ev.congr (fun k => by rw [if_pos rfl]) (ev_bind (f := fun k p => (siglumref11_Least.f k A B g n f o).bind fun q => if p.1 = q.1 then some (p.2 == q.2) else some false) (least_eq A B hA hB g n f o) (ev_bind (f := fun _ q => if (leastR A B g n f o).1 = q.1 then some ((leastR A B g n f o).2 == q.2) else some false) (refleast_eq A B hA hB g n f o) (Ev.congr (f := fun _ => some true) (fun k => by rw [if_pos rfl, beq_self_eq_true]) (Ev.now _))))
end Go.Proofs.YtbpinnanfanaaaaDoor.Pure
