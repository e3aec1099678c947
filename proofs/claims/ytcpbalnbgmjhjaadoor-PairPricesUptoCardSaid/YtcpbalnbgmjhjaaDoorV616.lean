import Derived.Test.YtcpbalnbgmjhjaaDoorV63
import Derived.Test.YtcpbalnbgmjhjaaDoorV65
import Derived.Test.YtcpbalnbgmjhjaaDoorV614
import Derived.Test.YtcpbalnbgmjhjaaDoorV615
import Derived.Test.YtcpbalnbgmjhjaaDoorV612
import Derived.Laws.BitsLemmas
import Derived.Lib.MapLaws
import Derived.Lib.RuneBytes
import Derived.Laws.BytesArg
import Derived.Test.YtcpbalnbgmjhjaaDoorV613
namespace Go.Proofs.YtcpbalnbgmjhjaaDoor.Q
open Go.RowKit Go.Proofs.YtcpbalnbgmjhjaaDoor.Mi Go.Proofs.YtcpbalnbgmjhjaaDoorW.PrintWords Go.Proofs.YtcpbalnbgmjhjaaDoorW.PrintLast Go.Proofs.YtcpbalnbgmjhjaaDoorW.PrintMore
attribute [local go_sem] min2_int min_two min_three
set_option linter.unusedVariables false
set_option linter.unusedSimpArgs false
def siglumref08_Of.f (k : Nat) (a0 : ByteArray) (a1 : ByteArray) : Option (Int × Int) := (siglumref08_cells.f k a0 a1).bind fun btU1 => (if btU1.2.2 = true then ((siglumref08_rests.f k btU1.1 btU1.2.1).bind fun tU8 => (if 0 < (tU8.length : Int) then (if 0 < ((rd_L11 tU8 0).length : Int) then (some (rd (rd_L11 tU8 0) 0, 0)) else (none)) else (none))) else (some (0, 1)))
set_option maxHeartbeats 8000000 in
set_option maxRecDepth 100000 in
theorem siglumref08_Of.calls (k : Nat) (a0 : ByteArray) (a1 : ByteArray) (r1 : Int) (r2 : Int) (w : World) (h : siglumref08_Of.f k a0 a1 = some (r1, r2)) :
 Calls Tryd.prog 39 #[.string a0, .string a1] w fun e w' => e = .returned (.tuple #[.int .i64 r1, .int .i64 r2]) ∧ Below w.heap.size w w' := by
 have HB := Aside0.mk (Below.refl w.heap.size w); have H := h; clear h; unfold siglumref08_Of.f at H; replace H := ob H; obtain ⟨⟨tU1, tU2, tU3⟩, A3, H⟩ := H; (try dsimp only at H)
 by_cases c4 : tU3 = true
 ·subst c4; rw [if_pos rfl] at H; replace H := ob H; obtain ⟨tU8, A5, H⟩ := H; (try dsimp only at H); replace H := it H; obtain ⟨c6, H⟩ := H; have c6b0 := decide_eq_true c6; have c6b1 : decide (0 < tU8.length) = true := decide_eq_true (by omega); clear c6; replace H := it H; obtain ⟨c7, H⟩ := H; have c7b0 := decide_eq_true c7; have c7b1 : decide (0 < (rd_L11 tU8 0).length) = true := decide_eq_true (by omega); clear c7; simp only [Option.some.injEq, Prod.mk.injEq] at H; obtain ⟨rfl, rfl⟩ := H; go_enter Tryd.func39, Tryd.ntmps39; go_wp2_with (first | ((with_reducible refine gc 55 ?_); refine gl 12 Tryd.func55 #[.string a0, .string a1] ?_; (with_reducible refine (siglumref08_cells.calls k a0 a1 tU1 tU2 true _ A3.out).mono ?_); rintro e w8 ⟨vU4, vU6, rfl, ho0, ho1, hb⟩; refine ⟨_, rfl, ?_⟩; have HOU5 := Aside0.mk (Kd.R_lower ho0 (below_size bel)); have HOU7 := Aside0.mk (Kd.R_lower ho1 (below_size bel)); replace HB := bs hb; (try clear hb); (try clear ho0); (try clear ho1); obtain ⟨Ao9, co9, eo9⟩ := Kd.R_slice HOU5.out; subst eo9; obtain ⟨Ao10, co10, eo10⟩ := Kd.R_slice HOU7.out; subst eo10) | ((with_reducible refine gc 56 ?_); refine gl 20 Tryd.func56 #[.slice Ao9 tU1.length co9, .slice Ao10 tU2.length co10] ?_; (with_reducible refine (siglumref08_rests.calls k _ _ tU1 _ _ tU2 tU8 _ ?side1 ?side2 ?side3 ?side4 A5.out).mono ?_); (case side1 => repeat (first | exact (Kd.R_reads' HOU5.out).2.2 | (with_reducible refine Kd.C_alloc ?_ _) | (with_reducible refine Kd.C_drewN ?_ _) | (with_reducible refine Kd.C_drew ?_))); (case side2 => exact (Kd.R_reads' HOU5.out).2.1); (case side3 => repeat (first | exact (Kd.R_reads' HOU7.out).2.2 | (with_reducible refine Kd.C_alloc ?_ _) | (with_reducible refine Kd.C_drewN ?_ _) | (with_reducible refine Kd.C_drew ?_))); (case side4 => exact (Kd.R_reads' HOU7.out).2.1); rintro e w11 ⟨vU9, rfl, ho0, hb⟩; refine ⟨_, rfl, ?_⟩; replace HOU5 := Aside0.mk (Kd.R_below (rl HOU5) hb); replace HOU7 := Aside0.mk (Kd.R_below (rl HOU7) hb); have HOU10 := Aside0.mk (Kd.S_lower ho0 (below_size bel)); replace HB := bs hb; (try clear hb); (try clear ho0); obtain ⟨Ao12, co12, eo12⟩ := Kd.S_slice HOU10.out; subst eo12; have pU11 : 0 ≤ (0 : Int) := (by omega); have qU11 : 0 < (tU8.length : Int) := oda; obtain ⟨adU11, AU11_0, cU11_0, eU11, hxU11_0, hlU11_0, hiU11_0⟩ := at_L11 (Kd.S_reads' HOU10.out).2.2 0 pU11 qU11; cases eU11; obtain ⟨ceU11, hceU11, hMeU11, hccU11⟩ := Kd.S_get HOU10.out [] 0 pU11 (by first | exact qU11 | exact oda | (have e_ := (Kd.S_reads' HOU10.out).1; omega)); obtain ⟨veU11_0, rfl, geU11_0⟩ := hMeU11; have hvU11_0 := hccU11 0 _ rfl; rw [Nat.add_zero, show ((Kd.slice 3 (Kd.int .i64))).sz = 1 from rfl, Nat.mul_one] at hvU11_0; replace hvU11_0 := Option.some.inj (hvU11_0.symm.trans hxU11_0); rw [hvU11_0] at geU11_0; have HLU11_0 := Aside0.mk (show Kd.R (Kd.int .i64) 3 _ _ _ _ (rd_L11 tU8 0) from geU11_0); clear hvU11_0 geU11_0; clear hccU11 hceU11; have qiU11 : (0 < tU8.length) = True := eq_true (by omega); (try rw [show ((0 : Int)).toNat = 0 from rfl] at hxU11_0); (try rw [Addr.add_zero'] at hxU11_0); have HRU11_0 := Aside0.mk hiU11_0; have HCU11_0 := Aside0.mk hlU11_0; clear hiU11_0 hlU11_0; replace pU11 := eq_true pU11; replace qU11 := eq_true qU11; have pU12 : 0 ≤ (0 : Int) := (by omega); have qU12 : 0 < ((rd_L11 tU8 0).length : Int) := oda; obtain ⟨adU12, eU12, hxU12_0⟩ := Kd.at_int (cl HRU11_0) 0 pU12 qU12; cases eU12; have qiU12 : (0 < (rd_L11 tU8 0).length) = True := eq_true (by omega); (try rw [show ((0 : Int)).toNat = 0 from rfl] at hxU12_0); (try rw [Addr.add_zero'] at hxU12_0); replace pU12 := eq_true pU12; replace qU12 := eq_true qU12))
  go_ret2; exact ⟨fi, bel⟩
 ·replace c4 := Bool.eq_false_iff.mpr c4; subst c4; rw [if_neg nf] at H; simp only [Option.some.injEq, Prod.mk.injEq] at H; obtain ⟨rfl, rfl⟩ := H; go_enter Tryd.func39, Tryd.ntmps39; go_wp2_with (first | ((with_reducible refine gc 55 ?_); refine gl 12 Tryd.func55 #[.string a0, .string a1] ?_; (with_reducible refine (siglumref08_cells.calls k a0 a1 tU1 tU2 false _ A3.out).mono ?_); rintro e w13 ⟨vU4, vU6, rfl, ho0, ho1, hb⟩; refine ⟨_, rfl, ?_⟩; have HOU5 := Aside0.mk (Kd.R_lower ho0 (below_size bel)); have HOU7 := Aside0.mk (Kd.R_lower ho1 (below_size bel)); replace HB := bs hb; (try clear hb); (try clear ho0); (try clear ho1))); go_ret2; exact ⟨fi, bel⟩
def siglumref09_Words.j0 : Nat → ByteArray → ByteArray → ByteArray → ByteArray → Bool → Int → Int → Int → Int → Option (Int × Int)
 | 0, _, _, _, _, _, _, _, _, _ => none
 | k + 1, x0, x1, x8, x10, x38, xU2U0, xU2U1, xU2U2, xU2U3 => if x38 = true then (some (0, 1)) else (if x8.toList = x10.toList then (some (0, 0)) else (if x0.toList = ([226, 151, 140] : List UInt8) then (some (mn xU2U1 xU2U2, 0)) else (if x1.toList = ([226, 151, 140] : List UInt8) then (some (mn xU2U1 xU2U2, 0)) else ((siglumref08_Of.f k x8 x10).bind fun btU9 => (some (mn xU2U2 (wrap64 (xU2U1 * btU9.1)), 0))))))
def siglumref09_Words.f (k : Nat) (a0 : ByteArray) (a1 : ByteArray) (a2_0 : Int) (a2_1 : Int) (a2_2 : Int) (a2_3 : Int) : Option (Int × Int) := (siglumref09_Check.f a2_0 a2_1 a2_2 a2_3).bind fun tU2 => (if tU2 = 0 then ((siglumref03_Text.f k a0 a2_3).bind fun btU3 => ((siglumref03_Text.f k a1 a2_3).bind fun btU5 => ((siglumref09_fits.f k btU3.1).bind fun tU7 => (if tU7 = true then ((siglumref09_fits.f k btU5.1).bind fun tU8 => (siglumref09_Words.j0 k a0 a1 btU3.1 btU5.1 (!tU8) a2_0 a2_1 a2_2 a2_3)) else (siglumref09_Words.j0 k a0 a1 btU3.1 btU5.1 true a2_0 a2_1 a2_2 a2_3))))) else (some (0, 90)))
set_option maxHeartbeats 8000000 in
set_option maxRecDepth 100000 in
theorem siglumref09_Words.calls (k : Nat) (a0 : ByteArray) (a1 : ByteArray) (a2_0 : Int) (a2_1 : Int) (a2_2 : Int) (a2_3 : Int) (r1 : Int) (r2 : Int) (w : World) (h : siglumref09_Words.f k a0 a1 a2_0 a2_1 a2_2 a2_3 = some (r1, r2)) :
 Calls Tryd.prog 17 #[.string a0, .string a1, .agg #[.int .i64 a2_0, .int .i64 a2_1, .int .i64 a2_2, .int .i64 a2_3]] w fun e w' => e = .returned (.tuple #[.int .i64 r1, .int .i64 r2]) ∧ Below w.heap.size w w' := by
 have hu23 := Tryd.underlying23; have HB := Aside0.mk (Below.refl w.heap.size w); have H := h; clear h; unfold siglumref09_Words.f at H; replace H := ob H; obtain ⟨tU2, A4, H⟩ := H; (try dsimp only at H)
 by_cases c5 : tU2 = 0
 ·rw [if_pos c5] at H; have c5b0 := beq_iff_eq.mpr c5; have c5b1 := bne_eq_false_iff_eq.mpr c5; clear c5; replace H := ob H; obtain ⟨⟨tU3, tU4⟩, A6, H⟩ := H; (try dsimp only at H); replace H := ob H; obtain ⟨⟨tU5, tU6⟩, A7, H⟩ := H; (try dsimp only at H); have HC8 := Aside0.mk H; clear H; go_enter Tryd.func17, Tryd.ntmps17
  go_upto_region 5 with (first | ((with_reducible refine gd 5 ?_); refine bz 5 #[.int .i64 a2_0, .int .i64 a2_1, .int .i64 a2_2, .int .i64 a2_3] 23 ?_; clear HB; intro gbU1 w9 BKU1 GWU1 HB; have GEU1 := GWU1; obtain ⟨z10_0, z10_1, z10_2, z10_3, f10_0, f10_1, f10_2, f10_3⟩ := cz4 BKU1) | ((with_reducible refine gc 19 ?_); refine gl 15 Tryd.func19 #[.agg #[.int .i64 a2_0, .int .i64 a2_1, .int .i64 a2_2, .int .i64 a2_3]] ?_; (with_reducible refine (siglumref09_Check.calls a2_0 a2_1 a2_2 a2_3 tU2 _ A4.out).mono ?_); rintro e w11 ⟨rfl, hb⟩; refine ⟨_, rfl, ?_⟩; replace BKU1 := bb BKU1 hb; replace HB := bs hb; (try clear hb); obtain ⟨z12_0, z12_1, z12_2, z12_3, f12_0, f12_1, f12_2, f12_3⟩ := cz4 BKU1) | ((with_reducible refine gc 37 ?_); refine gl 21 Tryd.func37 #[.string a0, .int .i64 a2_3] ?_; (with_reducible refine (siglumref03_Text.calls k a0 a2_3 tU3 tU4 _ A6.out).mono ?_); rintro e w13 ⟨rfl, hb⟩; refine ⟨_, rfl, ?_⟩; replace BKU1 := bb BKU1 hb; replace HB := bs hb; (try clear hb); obtain ⟨z14_0, z14_1, z14_2, z14_3, f14_0, f14_1, f14_2, f14_3⟩ := cz4 BKU1) | ((with_reducible refine gc 37 ?_); refine gl 28 Tryd.func37 #[.string a1, .int .i64 a2_3] ?_; (with_reducible refine (siglumref03_Text.calls k a1 a2_3 tU5 tU6 _ A7.out).mono ?_); rintro e w15 ⟨rfl, hb⟩; refine ⟨_, rfl, ?_⟩; replace BKU1 := bb BKU1 hb; replace HB := bs hb; (try clear hb)))
  (try simp only [Act.put,za,zb,zc])
  go_cut [38] (fun v38 wc => ∃ (kq : Nat) (x38_7 : Bool), v38 = .bool x38_7 ∧ Aside0 (siglumref09_Words.j0 kq a0 a1 tU3 tU5 x38_7 a2_0 a2_1 a2_2 a2_3 = some (r1, r2)) ∧ Aside0 (kq ≤ k) ∧ Aside0 (wc.heap[gbU1]? = some (.cells #[.int .i64 a2_0, .int .i64 a2_1, .int .i64 a2_2, .int .i64 a2_3] 23 (0, 0))) ∧ Aside0 (Below w.heap.size w wc))
  case first =>
   have H := HC8.out; clear HC8; replace H := ob H; obtain ⟨tU7, A16, H⟩ := H; (try dsimp only at H)
   by_cases c17 : tU7 = true
   ·subst c17; rw [if_pos rfl] at H; replace H := ob H; obtain ⟨tU8, A18, H⟩ := H; (try dsimp only at H); have H' := Aside0.mk H; clear H; go_wp2_with (first | ((with_reducible refine gc 38 ?_); refine gl 32 Tryd.func38 #[.string tU3] ?_; (with_reducible refine (siglumref09_fits.calls k tU3 true _ A16.out).mono ?_); rintro e w19 ⟨rfl, hb⟩; refine ⟨_, rfl, ?_⟩; replace BKU1 := bb BKU1 hb; replace HB := bs hb; (try clear hb)) | (go_at_call 38; (with_reducible refine (siglumref09_fits.calls k tU5 tU8 _ A18.out).mono ?_); rintro e w20 ⟨rfl, hb⟩; replace BKU1 := bb BKU1 hb; replace HB := bs hb; (try clear hb))); go_meet
    case rel => exact ⟨_, (!tU8), si, H', ⟨lk⟩, ⟨bl BKU1⟩, ⟨bel⟩⟩
   ·replace c17 := Bool.eq_false_iff.mpr c17; subst c17; rw [if_neg nf] at H; have H' := Aside0.mk H; clear H; go_wp2_with (first | ((with_reducible refine gc 38 ?_); refine gl 32 Tryd.func38 #[.string tU3] ?_; (with_reducible refine (siglumref09_fits.calls k tU3 false _ A16.out).mono ?_); rintro e w21 ⟨rfl, hb⟩; refine ⟨_, rfl, ?_⟩; replace BKU1 := bb BKU1 hb; replace HB := bs hb; (try clear hb))); go_meet
    case rel => exact ⟨_, (true), si, H', ⟨lk⟩, ⟨bl BKU1⟩, ⟨bel⟩⟩
  case rest =>
   clear HC8; (try clear c1); (try clear p2); (try clear c3); (try clear c5); (try clear c5b0 c5b1); (try clear c17); (try clear c19); (try clear z10_0 z10_1 z10_2 z10_3 f10_0 f10_1 f10_2 f10_3); (try clear z12_0 z12_1 z12_2 z12_3 f12_0 f12_1 f12_2 f12_3); (try clear z14_0 z14_1 z14_2 z14_3 f14_0 f14_1 f14_2 f14_3); obtain ⟨kq, x38_7, rfl, HA, HJ7, BKU1, HB⟩ := hcut
   cases kq with
   | zero => exact absurd HA.out (by simp [siglumref09_Words.j0])
   | succ kj7 =>
    have H := HA.out; clear HA; simp only [siglumref09_Words.j0] at H
    by_cases c22 : x38_7 = true
    ·subst c22; rw [if_pos rfl] at H; simp only [Option.some.injEq, Prod.mk.injEq] at H; obtain ⟨rfl, rfl⟩ := H; go_wp2; go_ret2; exact ⟨fi, bel⟩
    ·replace c22 := Bool.eq_false_iff.mpr c22; subst c22; rw [if_neg nf] at H
     by_cases c23 : tU3.toList = tU5.toList
     ·rw [if_pos c23] at H; have c23b0 := beq_iff_eq.mpr c23; have c23b1 := bne_eq_false_iff_eq.mpr c23; clear c23; simp only [Option.some.injEq, Prod.mk.injEq] at H; obtain ⟨rfl, rfl⟩ := H; go_wp2; go_ret2; exact ⟨fi, bel⟩
     ·rw [if_neg c23] at H; have c23b0 := beq_eq_false_iff_ne.mpr c23; have c23b1 := bne_iff_ne.mpr c23
      by_cases c24 : a0.toList = ([226, 151, 140] : List UInt8)
      ·rw [if_pos c24] at H; have c24b0 := beq_iff_eq.mpr c24; have c24b1 := bne_eq_false_iff_eq.mpr c24; clear c24; obtain ⟨ji25, hji25⟩ : ∃ j_ : Int, (mn a2_1 a2_2) = j_ := ⟨_, rfl⟩
       (first | rw [hji25] at H | simp only [hji25] at H); have hji25_ : (if a2_2 < a2_1 then a2_2 else a2_1) = ji25 := hji25; simp only [Option.some.injEq, Prod.mk.injEq] at H; obtain ⟨rfl, rfl⟩ := H; obtain ⟨z26_0, z26_1, z26_2, z26_3, f26_0, f26_1, f26_2, f26_3⟩ := cz4 BKU1; go_wp2; go_ret2; exact ⟨by first | rfl | (simp [errW_none, errW_some] <;> rfl) | (simp only [← hji25]; first | rfl | (simp [errW_none, errW_some] <;> rfl)) | (simp [*, errW_none, errW_some] <;> rfl), by exact bel⟩
      ·rw [if_neg c24] at H; have c24b0 := beq_eq_false_iff_ne.mpr c24; have c24b1 := bne_iff_ne.mpr c24
       by_cases c27 : a1.toList = ([226, 151, 140] : List UInt8)
       ·rw [if_pos c27] at H; have c27b0 := beq_iff_eq.mpr c27; have c27b1 := bne_eq_false_iff_eq.mpr c27; clear c27; obtain ⟨ji28, hji28⟩ : ∃ j_ : Int, (mn a2_1 a2_2) = j_ := ⟨_, rfl⟩
        (first | rw [hji28] at H | simp only [hji28] at H); have hji28_ : (if a2_2 < a2_1 then a2_2 else a2_1) = ji28 := hji28; simp only [Option.some.injEq, Prod.mk.injEq] at H; obtain ⟨rfl, rfl⟩ := H; obtain ⟨z29_0, z29_1, z29_2, z29_3, f29_0, f29_1, f29_2, f29_3⟩ := cz4 BKU1; go_wp2; go_ret2; exact ⟨by first | rfl | (simp [errW_none, errW_some] <;> rfl) | (simp only [← hji28]; first | rfl | (simp [errW_none, errW_some] <;> rfl)) | (simp [*, errW_none, errW_some] <;> rfl), by exact bel⟩
       ·rw [if_neg c27] at H; have c27b0 := beq_eq_false_iff_ne.mpr c27; have c27b1 := bne_iff_ne.mpr c27; replace H := ob H; obtain ⟨⟨tU9, tU10⟩, A30, H⟩ := H; (try dsimp only at H); obtain ⟨ji31, hji31⟩ : ∃ j_ : Int, (mn a2_2 (wrap64 (a2_1 * tU9))) = j_ := ⟨_, rfl⟩
        (first | rw [hji31] at H | simp only [hji31] at H); (try rw [hji31] at A30); have hji31_ : (if (wrap64 (a2_1 * tU9)) < a2_2 then (wrap64 (a2_1 * tU9)) else a2_2) = ji31 := hji31; simp only [Option.some.injEq, Prod.mk.injEq] at H; obtain ⟨rfl, rfl⟩ := H; go_wp2_with (first | ((with_reducible refine gc 39 ?_); refine gl 56 Tryd.func39 #[.string tU3, .string tU5] ?_; (with_reducible refine (siglumref08_Of.calls kj7 tU3 tU5 tU9 tU10 _ A30.out).mono ?_); rintro e w32 ⟨rfl, hb⟩; refine ⟨_, rfl, ?_⟩; replace BKU1 := bb BKU1 hb; replace HB := bs hb; (try clear hb); obtain ⟨z33_0, z33_1, z33_2, z33_3, f33_0, f33_1, f33_2, f33_3⟩ := cz4 BKU1)); go_ret2; exact ⟨by first | rfl | (simp [errW_none, errW_some] <;> rfl) | (simp only [← hji31]; first | rfl | (simp [errW_none, errW_some] <;> rfl)) | (simp [*, errW_none, errW_some] <;> rfl), by exact bel⟩
 ·rw [if_neg c5] at H; have c5b0 := beq_eq_false_iff_ne.mpr c5; have c5b1 := bne_iff_ne.mpr c5; simp only [Option.some.injEq, Prod.mk.injEq] at H; obtain ⟨rfl, rfl⟩ := H; go_enter Tryd.func17, Tryd.ntmps17; go_wp2_with (first | ((with_reducible refine gd 5 ?_); refine bz 5 #[.int .i64 a2_0, .int .i64 a2_1, .int .i64 a2_2, .int .i64 a2_3] 23 ?_; clear HB; intro gbU1 w34 BKU1 GWU1 HB; have GEU1 := GWU1; obtain ⟨z35_0, z35_1, z35_2, z35_3, f35_0, f35_1, f35_2, f35_3⟩ := cz4 BKU1) | ((with_reducible refine gc 19 ?_); refine gl 15 Tryd.func19 #[.agg #[.int .i64 a2_0, .int .i64 a2_1, .int .i64 a2_2, .int .i64 a2_3]] ?_; (with_reducible refine (siglumref09_Check.calls a2_0 a2_1 a2_2 a2_3 tU2 _ A4.out).mono ?_); rintro e w36 ⟨rfl, hb⟩; refine ⟨_, rfl, ?_⟩; replace BKU1 := bb BKU1 hb; replace HB := bs hb; (try clear hb))); go_ret2; exact ⟨fi, bel⟩
def siglumref09_long.l0 : Nat → List ByteArray → Int → Int → Int → Int → Int → Option (Bool)
 | 0, _, _, _, _, _, _ => none
 | k + 1, x0, x5, xU2U0, xU2U1, xU2U2, xU2U3 => if x5 < (x0.length : Int) then (if 0 ≤ x5 then ((siglumref03_Text.f k (rdOf ByteArray.empty x0 x5) xU2U3).bind fun btU3 => ((siglumref09_fits.f k btU3.1).bind fun tU5 => (if tU5 = true then (siglumref09_long.l0 k x0 (wrap64 (x5 + 1)) xU2U0 xU2U1 xU2U2 xU2U3) else (some true)))) else (none)) else (some false)
def siglumref09_long.f (k : Nat) (l0 : List ByteArray) (a1_0 : Int) (a1_1 : Int) (a1_2 : Int) (a1_3 : Int) : Option (Bool) := siglumref09_long.l0 k l0 0 a1_0 a1_1 a1_2 a1_3
def siglumref09_long.T4 : Bool × List (List Nat × List Nat) := (true,[([],[]),([],[]),([0,1],[0,1]),([2],[2]),([],[]),([4],[4]),([3,5],[3,5]),([6],[6]),([7],[7]),([7],[7]),([8,6,0,1,2,3,4,5,6,7,8],[8]),([9,10,0,1,2,3,4,5,6,7,8,9,10],[9])])
def siglumref09_long.B4 : List Nat := [0,0,3,7,0,16,63,127,255,255,511,2047]
theorem siglumref09_long.tab4 : rtab .any (opsOf Tryd.f42 4) = siglumref09_long.T4 := by kernel_rfl
theorem siglumref09_long.bits4 : waitsOk siglumref09_long.T4.2 siglumref09_long.B4 = true := by kernel_rfl
set_option maxHeartbeats 8000000 in
set_option maxRecDepth 100000 in
theorem siglumref09_long.calls (k : Nat) (A0 : Option Addr) (c0 : Nat) (l0 : List ByteArray) (a1_0 : Int) (a1_1 : Int) (a1_2 : Int) (a1_3 : Int) (r : Bool) (w : World) (hr0 : Kd.C Kd.string w A0 l0.length l0) (hc0 : l0.length ≤ c0) (h : siglumref09_long.f k l0 a1_0 a1_1 a1_2 a1_3 = some r) :
 Calls Tryd.prog 42 #[.slice A0 l0.length c0, .agg #[.int .i64 a1_0, .int .i64 a1_1, .int .i64 a1_2, .int .i64 a1_3]] w fun e w' => e = .returned (.bool r) ∧ Below w.heap.size w w' := by
 have hu23 := Tryd.underlying23; have HR0 := Aside0.mk hr0; have HC0 := Aside0.mk hc0; clear hr0 hc0; have HB := Aside0.mk (Below.refl w.heap.size w); have H := h; clear h; unfold siglumref09_long.f at H; have H' := Aside0.mk H; clear H; go_enter Tryd.func42, Tryd.ntmps42; go_wp2_with (first | ((with_reducible refine gd 3 ?_); refine bz 3 #[.int .i64 a1_0, .int .i64 a1_1, .int .i64 a1_2, .int .i64 a1_3] 23 ?_; clear HB; intro gbU1 w3 BKU1 GWU1 HB; have GEU1 := GWU1))
 go_loopg [5] k (fun kq v5 w' => ∃ (x5_1 : Int), v5 = .int .i64 x5_1 ∧ Aside0 (siglumref09_long.l0 kq l0 x5_1 a1_0 a1_1 a1_2 a1_3 = some r) ∧ Aside0 (kq ≤ k) ∧ Aside0 (w'.heap[gbU1]? = some (.cells #[.int .i64 a1_0, .int .i64 a1_1, .int .i64 a1_2, .int .i64 a1_3] 23 (0, 0))) ∧ Aside0 (Below w.heap.size w w'))
 case atStart => exact ⟨(0), si, H', ⟨Nat.le_refl _⟩, ⟨bl BKU1⟩, ⟨bel⟩⟩
 case round =>
  clear H'; (try clear p2); obtain ⟨x5_1, rfl, HA, HK1, BKU1, HB⟩ := hrel
  cases gk with
  | zero => exact absurd HA.out (by simp [siglumref09_long.l0])
  | succ k1 =>
   have H := HA.out; clear HA; simp only [siglumref09_long.l0] at H
   by_cases c4 : x5_1 < (l0.length : Int)
   ·rw [if_pos c4] at H; have c4b0 := decide_eq_true c4; clear c4; replace H := dt H; obtain ⟨c5b0, H⟩ := H; replace H := ob H; obtain ⟨⟨tU3, tU4⟩, A6, H⟩ := H; (try dsimp only at H); replace H := ob H; obtain ⟨tU5, A7, H⟩ := H; (try dsimp only at H)
    by_cases c8 : tU5 = true
    ·subst c8; rw [if_pos rfl] at H; have H' := Aside0.mk H; clear H
     try go_wp2
     replace BKU1 := Aside0.mk (blk_drew BKU1.out); replace HB := Aside0.mk (below_drew1 HB.out); have pU2 : 0 ≤ (x5_1 : Int) := oda; have qU2 : x5_1 < (l0.length : Int) := oda; obtain ⟨adU2, eU2, hxU2_0⟩ := Kd.at_string HR0.out x5_1 pU2 qU2; have hwU2_0 := hxU2_0; cases eU2; replace hxU2_0 := (HB.out.cell (World.block_lt_of_cell? w _ hxU2_0)).trans hxU2_0; replace pU2 := eq_true pU2; replace qU2 := eq_true qU2
     refine start_ (n := 12) (S := fun w' => w'.cell? ⟨gbU1, 0, none⟩ = some (.int .i64 a1_0) ∧ w'.cell? ⟨gbU1, 1, none⟩ = some (.int .i64 a1_1) ∧ w'.cell? ⟨gbU1, 2, none⟩ = some (.int .i64 a1_2) ∧ w'.cell? ⟨gbU1, 3, none⟩ = some (.int .i64 a1_3) ∧ w'.cell? (adU2.add (x5_1).toNat) = some (.string (rdOf ByteArray.empty l0 x5_1))) (ds := []) #[false,false,false,false,false,false,false,false,false,false,false,false] (by kernel_rfl) rfl rfl ⟨(blk_cell BKU1.out 0).trans rfl, (blk_cell BKU1.out 1).trans rfl, (blk_cell BKU1.out 2).trans rfl, (blk_cell BKU1.out 3).trans rfl, (ce HB hwU2_0)⟩ (fun hHeld => ?_); refine with_tabW siglumref09_long.tab4 siglumref09_long.bits4 (fun HT_ HW_ => ?_); generalize wr.drew = w9 at BKU1 HB hxU2_0 hHeld ⊢; refine pu 0 15 HT_ ?_; refine pu 1 16 HT_ ?_; refine pu 2 17 HT_ ?_; refine pu 4 19 HT_ ?_; refine ta 3 18 HT_ HW_ hHeld ?_; refine ta 5 20 HT_ HW_ hHeld ?_; refine on 6 21 HT_ (fun K hK => ?_); refine gs Tryd.func37 #[.string (rdOf ByteArray.empty l0 x5_1), .int .i64 a1_3] ?_
     with_reducible refine (siglumref03_Text.calls k1 (rdOf ByteArray.empty l0 x5_1) a1_3 tU3 tU4 _ A6.out).mono ?_
     rintro e w10 ⟨rfl, hb⟩; refine ⟨_, rfl, ?_⟩; replace BKU1 := bb BKU1 hb; replace HB := bs hb; (try clear hb); refine hK.out _ _ ⟨(blk_cell BKU1.out 0).trans rfl, (blk_cell BKU1.out 1).trans rfl, (blk_cell BKU1.out 2).trans rfl, (blk_cell BKU1.out 3).trans rfl, (ce HB hwU2_0)⟩ (fun hHeld => ?_); clear hK K; refine nm 21 ?_; refine pu 7 14 HT_ ?_; refine pu 8 22 HT_ ?_; refine pu 9 23 HT_ ?_; refine pu 10 6 HT_ ?_; refine pu 11 7 HT_ ?_; refine done_ (done_of HT_.out (by kernel_rfl)) ?_
     try go_wp2_with (first | ((with_reducible refine gc 38 ?_); refine gl 25 Tryd.func38 #[.string tU3] ?_; (with_reducible refine (siglumref09_fits.calls k1 tU3 true _ A7.out).mono ?_); rintro e w11 ⟨rfl, hb⟩; refine ⟨_, rfl, ?_⟩; replace BKU1 := bb BKU1 hb; replace HB := bs hb; (try clear hb)))
     go_roundg k1
     case measure => have := HK1.out; omega
     case rel => exact ⟨(wrap64 (x5_1 + 1)), si, H', ⟨by have := HK1.out; omega⟩, ⟨bl BKU1⟩, ⟨bel⟩⟩
    ·replace c8 := Bool.eq_false_iff.mpr c8; subst c8; rw [if_neg nf] at H; obtain rfl := Option.some.inj H
     try go_wp2
     replace BKU1 := Aside0.mk (blk_drew BKU1.out); replace HB := Aside0.mk (below_drew1 HB.out); have pU2 : 0 ≤ (x5_1 : Int) := oda; have qU2 : x5_1 < (l0.length : Int) := oda; obtain ⟨adU2, eU2, hxU2_0⟩ := Kd.at_string HR0.out x5_1 pU2 qU2; have hwU2_0 := hxU2_0; cases eU2; replace hxU2_0 := (HB.out.cell (World.block_lt_of_cell? w _ hxU2_0)).trans hxU2_0; replace pU2 := eq_true pU2; replace qU2 := eq_true qU2
     refine start_ (n := 12) (S := fun w' => w'.cell? ⟨gbU1, 0, none⟩ = some (.int .i64 a1_0) ∧ w'.cell? ⟨gbU1, 1, none⟩ = some (.int .i64 a1_1) ∧ w'.cell? ⟨gbU1, 2, none⟩ = some (.int .i64 a1_2) ∧ w'.cell? ⟨gbU1, 3, none⟩ = some (.int .i64 a1_3) ∧ w'.cell? (adU2.add (x5_1).toNat) = some (.string (rdOf ByteArray.empty l0 x5_1))) (ds := []) #[false,false,false,false,false,false,false,false,false,false,false,false] (by kernel_rfl) rfl rfl ⟨(blk_cell BKU1.out 0).trans rfl, (blk_cell BKU1.out 1).trans rfl, (blk_cell BKU1.out 2).trans rfl, (blk_cell BKU1.out 3).trans rfl, (ce HB hwU2_0)⟩ (fun hHeld => ?_); refine with_tabW siglumref09_long.tab4 siglumref09_long.bits4 (fun HT_ HW_ => ?_); generalize wr.drew = w12 at BKU1 HB hxU2_0 hHeld ⊢; refine pu 0 15 HT_ ?_; refine pu 1 16 HT_ ?_; refine pu 2 17 HT_ ?_; refine pu 4 19 HT_ ?_; refine ta 3 18 HT_ HW_ hHeld ?_; refine ta 5 20 HT_ HW_ hHeld ?_; refine on 6 21 HT_ (fun K hK => ?_); refine gs Tryd.func37 #[.string (rdOf ByteArray.empty l0 x5_1), .int .i64 a1_3] ?_
     with_reducible refine (siglumref03_Text.calls k1 (rdOf ByteArray.empty l0 x5_1) a1_3 tU3 tU4 _ A6.out).mono ?_
     rintro e w13 ⟨rfl, hb⟩; refine ⟨_, rfl, ?_⟩; replace BKU1 := bb BKU1 hb; replace HB := bs hb; (try clear hb); refine hK.out _ _ ⟨(blk_cell BKU1.out 0).trans rfl, (blk_cell BKU1.out 1).trans rfl, (blk_cell BKU1.out 2).trans rfl, (blk_cell BKU1.out 3).trans rfl, (ce HB hwU2_0)⟩ (fun hHeld => ?_); clear hK K; refine nm 21 ?_; refine pu 7 14 HT_ ?_; refine pu 8 22 HT_ ?_; refine pu 9 23 HT_ ?_; refine pu 10 6 HT_ ?_; refine pu 11 7 HT_ ?_; refine done_ (done_of HT_.out (by kernel_rfl)) ?_
     try go_wp2_with (first | ((with_reducible refine gc 38 ?_); refine gl 25 Tryd.func38 #[.string tU3] ?_; (with_reducible refine (siglumref09_fits.calls k1 tU3 false _ A7.out).mono ?_); rintro e w14 ⟨rfl, hb⟩; refine ⟨_, rfl, ?_⟩; replace BKU1 := bb BKU1 hb; replace HB := bs hb; (try clear hb)))
     go_ret; exact ⟨fi, bel⟩
   ·rw [if_neg c4] at H; have c4b0 : decide (x5_1 < (l0.length : Int)) = false := decide_eq_false c4; clear c4; obtain rfl := Option.some.inj H; go_wp2; go_ret; exact ⟨fi, bel⟩
end Go.Proofs.YtcpbalnbgmjhjaaDoor.Q
namespace Go.Proofs.YtcpbalnbgmjhjaaDoor.Q
open Go.RowKit Go.Proofs.YtcpbalnbgmjhjaaDoor.Mi Go.Proofs.YtcpbalnbgmjhjaaDoorW.PrintWords Go.Proofs.YtcpbalnbgmjhjaaDoorW.PrintLast Go.Proofs.YtcpbalnbgmjhjaaDoorW.PrintMore
attribute [local go_sem] min2_int min_two min_three
set_option linter.unusedVariables false
set_option linter.unusedSimpArgs false
mutual
def siglumref09_Grid.j0 : Nat → List ByteArray → List ByteArray → Bool → Int → Int → Int → Int → Option ((List (List Int)) × Int)
 | 0, _, _, _, _, _, _, _ => none
 | k + 1, x0, x1, x34, xU2U0, xU2U1, xU2U2, xU2U3 => if x34 = true then (some (([] : List (List Int)), 1)) else (siglumref09_Grid.l0 k x0 x1 ([] : List (List Int)) 0 xU2U0 xU2U1 xU2U2 xU2U3)
def siglumref09_Grid.l0 : Nat → List ByteArray → List ByteArray → List (List Int) → Int → Int → Int → Int → Int → Option ((List (List Int)) × Int)
 | 0, _, _, _, _, _, _, _, _ => none
 | k + 1, x0, x1, x8, x9, xU2U0, xU2U1, xU2U2, xU2U3 => if x9 < (x0.length : Int) then (siglumref09_Grid.l1 k x0 x1 x8 x9 ([] : List Int) 0 xU2U0 xU2U1 xU2U2 xU2U3) else (some (x8, 0))
def siglumref09_Grid.l1 : Nat → List ByteArray → List ByteArray → List (List Int) → Int → List Int → Int → Int → Int → Int → Int → Option ((List (List Int)) × Int)
 | 0, _, _, _, _, _, _, _, _, _, _ => none
 | k + 1, x0, x1, x8, x9, x10, x11, xU2U0, xU2U1, xU2U2, xU2U3 => if x11 < (x1.length : Int) then (if 0 ≤ x9 then (if x9 < (x0.length : Int) then (if 0 ≤ x11 then ((siglumref09_Words.f k (rdOf ByteArray.empty x0 x9) (rdOf ByteArray.empty x1 x11) xU2U0 xU2U1 xU2U2 xU2U3).bind fun btU7 => (if x10.length < 17592186044416 then (siglumref09_Grid.l1 k x0 x1 x8 x9 (x10 ++ [btU7.1]) (wrap64 (x11 + 1)) xU2U0 xU2U1 xU2U2 xU2U3) else (none))) else (none)) else (none)) else (none)) else (if x8.length < 5864062014805 then (siglumref09_Grid.l0 k x0 x1 (x8 ++ [x10]) (wrap64 (x9 + 1)) xU2U0 xU2U1 xU2U2 xU2U3) else (none))
end
def siglumref09_Grid.f (k : Nat) (l0 : List ByteArray) (l1 : List ByteArray) (a2_0 : Int) (a2_1 : Int) (a2_2 : Int) (a2_3 : Int) : Option ((List (List Int)) × Int) := (siglumref09_Check.f a2_0 a2_1 a2_2 a2_3).bind fun tU2 => (if tU2 = 0 then (if (l0.length : Int) > 1024 then (siglumref09_Grid.j0 k l0 l1 true a2_0 a2_1 a2_2 a2_3) else (if (l1.length : Int) > 1024 then (siglumref09_Grid.j0 k l0 l1 true a2_0 a2_1 a2_2 a2_3) else ((siglumref09_long.f k l0 a2_0 a2_1 a2_2 a2_3).bind fun tU3 => (if tU3 = true then (siglumref09_Grid.j0 k l0 l1 true a2_0 a2_1 a2_2 a2_3) else ((siglumref09_long.f k l1 a2_0 a2_1 a2_2 a2_3).bind fun tU4 => (siglumref09_Grid.j0 k l0 l1 tU4 a2_0 a2_1 a2_2 a2_3)))))) else (some (([] : List (List Int)), 90)))
def siglumref09_Grid.T13 : Bool × List (List Nat × List Nat) := (true,[([],[]),([],[]),([0,1],[0,1]),([2],[2]),([],[]),([],[]),([4,5],[4,5]),([6],[6]),([],[]),([3,7,8],[3,7,8]),([9],[9]),([10],[10]),([10],[10]),([11,9,0,1,2,3,4,5,6,7,8,9,10,11],[11]),([12,13,0,1,2,3,4,5,6,7,8,9,10,11,12,13],[12])])
def siglumref09_Grid.B13 : List Nat := [0,0,3,7,0,0,48,112,0,511,1023,2047,2047,4095,16383]
theorem siglumref09_Grid.tab13 : rtab .any (opsOf Tryd.f23 13) = siglumref09_Grid.T13 := by kernel_rfl
theorem siglumref09_Grid.bits13 : waitsOk siglumref09_Grid.T13.2 siglumref09_Grid.B13 = true := by kernel_rfl
set_option maxHeartbeats 8000000 in
set_option maxRecDepth 100000 in
theorem siglumref09_Grid.calls (k : Nat) (A0 : Option Addr) (c0 : Nat) (l0 : List ByteArray) (A1 : Option Addr) (c1 : Nat) (l1 : List ByteArray) (a2_0 : Int) (a2_1 : Int) (a2_2 : Int) (a2_3 : Int) (r1 : List (List Int)) (r2 : Int) (w : World) (hr0 : Kd.C Kd.string w A0 l0.length l0) (hc0 : l0.length ≤ c0) (hr1 : Kd.C Kd.string w A1 l1.length l1) (hc1 : l1.length ≤ c1) (h : siglumref09_Grid.f k l0 l1 a2_0 a2_1 a2_2 a2_3 = some (r1, r2)) :
 Calls Tryd.prog 23 #[.slice A0 l0.length c0, .slice A1 l1.length c1, .agg #[.int .i64 a2_0, .int .i64 a2_1, .int .i64 a2_2, .int .i64 a2_3]] w fun e w' => ∃ v0_ : Value, e = .returned (.tuple #[v0_, .int .i64 r2]) ∧ Kd.S (Kd.slice 3 (Kd.int .i64)) 45 w' w.heap.size (fun _ => True) v0_ r1 ∧ Below w.heap.size w w' := by
 have hu23 := Tryd.underlying23; have HR0 := Aside0.mk hr0; have HC0 := Aside0.mk hc0; clear hr0 hc0; have HR1 := Aside0.mk hr1; have HC1 := Aside0.mk hc1; clear hr1 hc1; have HB := Aside0.mk (Below.refl w.heap.size w); have H := h; clear h; unfold siglumref09_Grid.f at H; replace H := ob H; obtain ⟨tU2, A4, H⟩ := H; (try dsimp only at H)
 by_cases c5 : tU2 = 0
 ·rw [if_pos c5] at H; have c5b0 := beq_iff_eq.mpr c5; have c5b1 := bne_eq_false_iff_eq.mpr c5; clear c5; have HC6 := Aside0.mk H; clear H; go_enter Tryd.func23, Tryd.ntmps23
  go_upto_region 3 with (first | ((with_reducible refine gd 5 ?_); (try (refine gate_guard (by rfl) ?_; dsimp only)); refine bz 5 #[.int .i64 a2_0, .int .i64 a2_1, .int .i64 a2_2, .int .i64 a2_3] 23 ?_; clear HB; intro gbU1 w7 BKU1 GWU1 HB; have GEU1 := GWU1; obtain ⟨z8_0, z8_1, z8_2, z8_3, f8_0, f8_1, f8_2, f8_3⟩ := cz4 BKU1) | ((with_reducible refine gc 19 ?_); refine gl 15 Tryd.func19 #[.agg #[.int .i64 a2_0, .int .i64 a2_1, .int .i64 a2_2, .int .i64 a2_3]] ?_; (with_reducible refine (siglumref09_Check.calls a2_0 a2_1 a2_2 a2_3 tU2 _ A4.out).mono ?_); rintro e w9 ⟨rfl, hb⟩; refine ⟨_, rfl, ?_⟩; replace BKU1 := bb BKU1 hb; replace HB := bs hb; (try clear hb)))
  (try simp only [Act.put,za,zb,zc])
  go_cut [34] (fun v34 wc => ∃ (kq : Nat) (x34_5 : Bool), v34 = .bool x34_5 ∧ Aside0 (siglumref09_Grid.j0 kq l0 l1 x34_5 a2_0 a2_1 a2_2 a2_3 = some (r1, r2)) ∧ Aside0 (kq ≤ k) ∧ Aside0 (wc.heap[gbU1]? = some (.cells #[.int .i64 a2_0, .int .i64 a2_1, .int .i64 a2_2, .int .i64 a2_3] 23 (0, 0))) ∧ Aside0 (Below w.heap.size w wc))
  case first =>
   have H := HC6.out; clear HC6
   by_cases c10 : (l0.length : Int) > 1024
   ·rw [if_pos c10] at H; have c10b0 : decide (1024 < (l0.length : Int)) = true := decide_eq_true c10; have c10b1 : decide (1024 < l0.length) = true := decide_eq_true (by omega); clear c10; (first | rw [c10b0] | (simp only [i64_w, i32_w]; rw [c10b0]) | (have ce_ := c10b0; rw [List.beq_nil_eq] at ce_; rw [ce_]) | skip); have H' := Aside0.mk H; clear H; go_wp2; go_meet
    case rel => exact ⟨_, (true), si, H', ⟨lk⟩, ⟨bl BKU1⟩, ⟨bel⟩⟩
   ·rw [if_neg c10] at H; have c10b0 : decide (1024 < (l0.length : Int)) = false := decide_eq_false c10; have c10b1 : decide (1024 < l0.length) = false := decide_eq_false (by omega); clear c10; (first | rw [c10b0] | (simp only [i64_w, i32_w]; rw [c10b0]) | (have ce_ := c10b0; rw [List.beq_nil_eq] at ce_; rw [ce_]) | skip)
    by_cases c11 : (l1.length : Int) > 1024
    ·rw [if_pos c11] at H; have c11b0 : decide (1024 < (l1.length : Int)) = true := decide_eq_true c11; have c11b1 : decide (1024 < l1.length) = true := decide_eq_true (by omega); clear c11; have H' := Aside0.mk H; clear H; go_wp2; go_meet
     case rel => exact ⟨_, (true), si, H', ⟨lk⟩, ⟨bl BKU1⟩, ⟨bel⟩⟩
    ·rw [if_neg c11] at H; have c11b0 : decide (1024 < (l1.length : Int)) = false := decide_eq_false c11; have c11b1 : decide (1024 < l1.length) = false := decide_eq_false (by omega); clear c11; replace H := ob H; obtain ⟨tU3, A12, H⟩ := H; (try dsimp only at H)
     by_cases c13 : tU3 = true
     ·subst c13; rw [if_pos rfl] at H; have H' := Aside0.mk H; clear H; obtain ⟨z14_0, z14_1, z14_2, z14_3, f14_0, f14_1, f14_2, f14_3⟩ := cz4 BKU1; go_wp2_with (first | (go_at_call 42; (with_reducible refine (siglumref09_long.calls k _ _ l0 a2_0 a2_1 a2_2 a2_3 true _ ?side1 ?side2 A12.out).mono ?_); (case side1 => exact cb HR0 HB); (case side2 => exact HC0.out); rintro e w15 ⟨rfl, hb⟩; replace BKU1 := bb BKU1 hb; replace HB := bs hb; (try clear hb))); go_meet
      case rel => exact ⟨_, (true), si, H', ⟨lk⟩, ⟨bl BKU1⟩, ⟨bel⟩⟩
     ·replace c13 := Bool.eq_false_iff.mpr c13; subst c13; rw [if_neg nf] at H; replace H := ob H; obtain ⟨tU4, A16, H⟩ := H; (try dsimp only at H); have H' := Aside0.mk H; clear H; obtain ⟨z17_0, z17_1, z17_2, z17_3, f17_0, f17_1, f17_2, f17_3⟩ := cz4 BKU1; go_wp2_with (first | (go_at_call 42; (with_reducible refine (siglumref09_long.calls k _ _ l0 a2_0 a2_1 a2_2 a2_3 false _ ?side1 ?side2 A12.out).mono ?_); (case side1 => exact cb HR0 HB); (case side2 => exact HC0.out); rintro e w18 ⟨rfl, hb⟩; replace BKU1 := bb BKU1 hb; replace HB := bs hb; (try clear hb); obtain ⟨z19_0, z19_1, z19_2, z19_3, f19_0, f19_1, f19_2, f19_3⟩ := cz4 BKU1) | (go_at_call 42; (with_reducible refine (siglumref09_long.calls k _ _ l1 a2_0 a2_1 a2_2 a2_3 tU4 _ ?side1 ?side2 A16.out).mono ?_); (case side1 => exact cb HR1 HB); (case side2 => exact HC1.out); rintro e w20 ⟨rfl, hb⟩; replace BKU1 := bb BKU1 hb; replace HB := bs hb; (try clear hb))); go_meet
      case rel => exact ⟨_, (tU4), si, H', ⟨lk⟩, ⟨bl BKU1⟩, ⟨bel⟩⟩
  case rest =>
   clear HC6; (try clear c1); (try clear c2); (try clear p2); (try clear c5); (try clear c5b0 c5b1); (try clear c10); (try clear c10b0 c10b1); (try clear c11); (try clear c11b0 c11b1); (try clear c13); (try clear c19); (try clear z14_0 z14_1 z14_2 z14_3 f14_0 f14_1 f14_2 f14_3); (try clear z17_0 z17_1 z17_2 z17_3 f17_0 f17_1 f17_2 f17_3); (try clear z19_0 z19_1 z19_2 z19_3 f19_0 f19_1 f19_2 f19_3); (try clear z8_0 z8_1 z8_2 z8_3 f8_0 f8_1 f8_2 f8_3); obtain ⟨kq, x34_5, rfl, HA, HJ5, BKU1, HB⟩ := hcut
   cases kq with
   | zero => exact absurd HA.out (by simp [siglumref09_Grid.j0])
   | succ kj5 =>
    have H := HA.out; clear HA; simp only [siglumref09_Grid.j0] at H
    by_cases c21 : x34_5 = true
    ·subst c21; rw [if_pos rfl] at H; simp only [Option.some.injEq, Prod.mk.injEq] at H; obtain ⟨rfl, rfl⟩ := H; go_wp2; go_ret2; exact ⟨_, fi, by first | exact Kd.S_nil _ _ _ _ _ | exact Kd.N_nil _ _ _ _ _ | exact Kd.V_nil _ _ _ _ _ | exact Kd.Q_nil _ _ _ _ _ | exact Kd.R_nil _ _ _ _ _, by exact bel⟩
    ·replace c21 := Bool.eq_false_iff.mpr c21; subst c21; rw [if_neg nf] at H; have H' := Aside0.mk H; clear H; go_wp2
     go_loopg [8, 9] kj5 (fun kq v8 v9 w' => ∃ (x8_2 : List (List Int)) (x9_2 : Int), v9 = .int .i64 x9_2 ∧ Aside0 (siglumref09_Grid.l0 kq l0 l1 x8_2 x9_2 a2_0 a2_1 a2_2 a2_3 = some (r1, r2)) ∧ Aside0 (kq ≤ kj5) ∧ Aside0 (Kd.S (Kd.slice 3 (Kd.int .i64)) 45 w' w.heap.size (fun _ => True) v8 x8_2) ∧ Aside0 (w'.heap[gbU1]? = some (.cells #[.int .i64 a2_0, .int .i64 a2_1, .int .i64 a2_2, .int .i64 a2_3] 23 (0, 0))) ∧ Aside0 (Below w.heap.size w w'))
     case atStart => exact ⟨(([] : List (List Int))), (0), si, H', ⟨Nat.le_refl _⟩, ⟨by first | exact Kd.S_nil _ _ _ _ _ | exact Kd.N_nil _ _ _ _ _ | exact Kd.V_nil _ _ _ _ _ | exact Kd.Q_nil _ _ _ _ _ | exact Kd.R_nil _ _ _ _ _⟩, ⟨bl BKU1⟩, ⟨bel⟩⟩
     case round =>
      clear H'; (try clear c1); (try clear c2); (try clear p2); (try clear c5); (try clear c5b0 c5b1); (try clear c10); (try clear c10b0 c10b1); (try clear c11); (try clear c11b0 c11b1); (try clear c13); (try clear c19); (try clear c21); (try clear z14_0 z14_1 z14_2 z14_3 f14_0 f14_1 f14_2 f14_3); (try clear z17_0 z17_1 z17_2 z17_3 f17_0 f17_1 f17_2 f17_3); (try clear z19_0 z19_1 z19_2 z19_3 f19_0 f19_1 f19_2 f19_3); (try clear z8_0 z8_1 z8_2 z8_3 f8_0 f8_1 f8_2 f8_3); obtain ⟨x8_2, x9_2, rfl, HA, HK2, HO_8, BKU1, HB⟩ := hrel
      cases gk with
      | zero => exact absurd HA.out (by simp [siglumref09_Grid.l0])
      | succ k2 =>
       have H := HA.out; clear HA; simp only [siglumref09_Grid.l0] at H
       by_cases c22 : x9_2 < (l0.length : Int)
       ·rw [if_pos c22] at H; have c22b0 := decide_eq_true c22; clear c22; have H' := Aside0.mk H; clear H; go_wp2
        go_loopg [10, 11] k2 (fun kq v10 v11 w' => ∃ (x10_3 : List Int) (x11_3 : Int), v11 = .int .i64 x11_3 ∧ Aside0 (siglumref09_Grid.l1 kq l0 l1 x8_2 x9_2 x10_3 x11_3 a2_0 a2_1 a2_2 a2_3 = some (r1, r2)) ∧ Aside0 (kq ≤ k2) ∧ Aside0 (Kd.S (Kd.slice 3 (Kd.int .i64)) 45 w' w.heap.size (fun k_ => some k_ ≠ (v10 : Value).ownBlock) u8 x8_2) ∧ Aside0 (Kd.R (Kd.int .i64) 3 w' w.heap.size (fun _ => True) v10 x10_3) ∧ Aside0 (w'.heap[gbU1]? = some (.cells #[.int .i64 a2_0, .int .i64 a2_1, .int .i64 a2_2, .int .i64 a2_3] 23 (0, 0))) ∧ Aside0 (Below w.heap.size w w'))
        case atStart => exact ⟨(([] : List Int)), (0), si, H', ⟨Nat.le_refl _⟩, ⟨by (with_reducible repeat (first | apply Kd.S_alloc | apply Kd.S_drewN | apply Kd.S_drew)); exact Kd.S_mono HO_8.out (fun _ hk => (by simp [Value.ownBlock]))⟩, ⟨by first | exact Kd.R_nil _ _ _ _ _ | exact Kd.N_nil _ _ _ _ _ | exact Kd.V_nil _ _ _ _ _ | exact Kd.Q_nil _ _ _ _ _ | exact Kd.S_nil _ _ _ _ _⟩, ⟨bl BKU1⟩, ⟨bel⟩⟩
        case round =>
         clear H'; (try clear c1); (try clear c2); (try clear p2); (try clear c5); (try clear c5b0 c5b1); (try clear c10); (try clear c10b0 c10b1); (try clear c11); (try clear c11b0 c11b1); (try clear c13); (try clear c19); (try clear c21); (try clear c22); (try clear c22b0); (try clear z14_0 z14_1 z14_2 z14_3 f14_0 f14_1 f14_2 f14_3); (try clear z17_0 z17_1 z17_2 z17_3 f17_0 f17_1 f17_2 f17_3); (try clear z19_0 z19_1 z19_2 z19_3 f19_0 f19_1 f19_2 f19_3); (try clear z8_0 z8_1 z8_2 z8_3 f8_0 f8_1 f8_2 f8_3); obtain ⟨x10_3, x11_3, rfl, HA, HK3, HO_8, HO_10, BKU1, HB⟩ := hrel
         cases gk with
         | zero => exact absurd HA.out (by simp [siglumref09_Grid.l1])
         | succ k3 =>
          have H := HA.out; clear HA; simp only [siglumref09_Grid.l1] at H
          by_cases c23 : x11_3 < (l1.length : Int)
          ·rw [if_pos c23] at H; have c23b0 := decide_eq_true c23; clear c23; replace H := dt H; obtain ⟨c24b0, H⟩ := H; replace H := dt H; obtain ⟨c25b0, H⟩ := H; replace H := dt H; obtain ⟨c26b0, H⟩ := H; replace H := ob H; obtain ⟨⟨tU7, tU8⟩, A27, H⟩ := H; (try dsimp only at H); replace H := it H; obtain ⟨c28, H⟩ := H; have LMc28 := Aside0.mk c28; clear c28; obtain ⟨yU9, hyU9⟩ : ∃ y_ : List Int, y_ = (x10_3 ++ [tU7]) := ⟨_, rfl⟩
           (try rw [← hyU9] at H); (try rw [Option.bind_some] at H); (try dsimp only at H); have NyU9 := Aside0.mk hyU9; clear hyU9; have H' := Aside0.mk H; clear H
           try go_wp2
           replace HO_8 := Aside0.mk (Kd.S_drew HO_8.out); replace HO_10 := Aside0.mk (Kd.R_drew HO_10.out); replace BKU1 := Aside0.mk (blk_drew BKU1.out); replace HB := Aside0.mk (below_drew1 HB.out); have pU5 : 0 ≤ (x9_2 : Int) := oda; have qU5 : x9_2 < (l0.length : Int) := oda; obtain ⟨adU5, eU5, hxU5_0⟩ := Kd.at_string HR0.out x9_2 pU5 qU5; have hwU5_0 := hxU5_0; cases eU5; replace hxU5_0 := (HB.out.cell (World.block_lt_of_cell? w _ hxU5_0)).trans hxU5_0; replace pU5 := eq_true pU5; replace qU5 := eq_true qU5; have pU6 : 0 ≤ (x11_3 : Int) := oda; have qU6 : x11_3 < (l1.length : Int) := oda; obtain ⟨adU6, eU6, hxU6_0⟩ := Kd.at_string HR1.out x11_3 pU6 qU6; have hwU6_0 := hxU6_0; cases eU6; replace hxU6_0 := (HB.out.cell (World.block_lt_of_cell? w _ hxU6_0)).trans hxU6_0; replace pU6 := eq_true pU6; replace qU6 := eq_true qU6
           refine start_ (n := 15) (S := fun w' => w'.cell? ⟨gbU1, 0, none⟩ = some (.int .i64 a2_0) ∧ w'.cell? ⟨gbU1, 1, none⟩ = some (.int .i64 a2_1) ∧ w'.cell? ⟨gbU1, 2, none⟩ = some (.int .i64 a2_2) ∧ w'.cell? ⟨gbU1, 3, none⟩ = some (.int .i64 a2_3) ∧ w'.cell? (adU5.add (x9_2).toNat) = some (.string (rdOf ByteArray.empty l0 x9_2)) ∧ w'.cell? (adU6.add (x11_3).toNat) = some (.string (rdOf ByteArray.empty l1 x11_3))) (ds := []) #[false,false,false,false,false,false,false,false,false,false,false,false,false,false,false] (by kernel_rfl) rfl rfl ⟨(blk_cell BKU1.out 0).trans rfl, (blk_cell BKU1.out 1).trans rfl, (blk_cell BKU1.out 2).trans rfl, (blk_cell BKU1.out 3).trans rfl, (ce HB hwU5_0), (ce HB hwU6_0)⟩ (fun hHeld => ?_); refine with_tabW siglumref09_Grid.tab13 siglumref09_Grid.bits13 (fun HT_ HW_ => ?_); generalize wr.drew = w29 at HO_8 HO_10 BKU1 HB hxU5_0 hxU6_0 hHeld ⊢; refine pu 0 48 HT_ ?_; refine pu 1 49 HT_ ?_; refine pu 2 50 HT_ ?_; refine pu 4 52 HT_ ?_; refine pu 5 53 HT_ ?_; refine pu 6 54 HT_ ?_; refine ta 3 51 HT_ HW_ hHeld ?_; refine ta 7 55 HT_ HW_ hHeld ?_; refine ta 8 56 HT_ HW_ hHeld ?_; refine on 9 57 HT_ (fun K hK => ?_); refine gs Tryd.func17 #[.string (rdOf ByteArray.empty l0 x9_2), .string (rdOf ByteArray.empty l1 x11_3), .agg #[.int .i64 a2_0, .int .i64 a2_1, .int .i64 a2_2, .int .i64 a2_3]] ?_
           with_reducible refine (siglumref09_Words.calls k3 (rdOf ByteArray.empty l0 x9_2) (rdOf ByteArray.empty l1 x11_3) a2_0 a2_1 a2_2 a2_3 tU7 tU8 _ A27.out).mono ?_
           rintro e w30 ⟨rfl, hb⟩; refine ⟨_, rfl, ?_⟩; replace HO_8 := Aside0.mk (Kd.S_below (sl HO_8) hb); replace HO_10 := Aside0.mk (Kd.R_below (rl HO_10) hb); replace BKU1 := bb BKU1 hb; replace HB := bs hb; (try clear hb); refine hK.out _ _ ⟨(blk_cell BKU1.out 0).trans rfl, (blk_cell BKU1.out 1).trans rfl, (blk_cell BKU1.out 2).trans rfl, (blk_cell BKU1.out 3).trans rfl, (ce HB hwU5_0), (ce HB hwU6_0)⟩ (fun hHeld => ?_); clear hK K; refine nm 57 ?_; refine pu 10 47 HT_ ?_; refine pu 11 58 HT_ ?_; refine pu 12 59 HT_ ?_; refine pu 13 12 HT_ ?_; refine pu 14 13 HT_ ?_; refine done_ (done_of HT_.out (by kernel_rfl)) ?_
           try go_wp2_with (first | ((with_reducible refine gate_builtin (b := .append) (xs := #[.tmp 60, .tmp 62]) rfl ?_); (try (refine gate_guard (by rfl) ?_; dsimp only)); at_builtin; refine Kd.R_append (Kd.int .i64) (w0 := w) w.heap.size rfl (.tmp 60) (.tmp 62) 45 3 (.int .i64 0) 8 rfl Tryd.underlying45 info3 rfl (by decide) (by omega) u10 x10_3 tU7 [.int .i64 tU7] (fun _ => True) (fun _ => False) rfl rfl ?aP (fun _ hk => hk.elim) ?aF ?aO ?aB ?aS ?aL ?_; (case aP => exact rfl); (case aB => exact bel); (case aF => exact (fun _ _ => trivial)); (case aO => exact (rl HO_10)); (case aS => exact (below_size bel)); (case aL => have := LMc28.out; omega); intro vU10 w31 ho hb hg hat; rw [← NyU9.out] at ho; replace HO_8 := Aside0.mk (Kd.S_after (ok := (fun _ => True)) (by (with_reducible repeat (first | apply Kd.S_alloc | apply Kd.S_drewN | apply Kd.S_drew)); exact Kd.S_mono HO_8.out (fun _ hk => ⟨trivial, hk⟩)) hg hat); replace BKU1 := Aside0.mk (blk_grown (g := gbU1) (o := .cells #[.int .i64 a2_0, .int .i64 a2_1, .int .i64 a2_2, .int .i64 a2_3] 23 (0, 0)) (bl BKU1) hg (Kd.R_ne HO_10.out BKU1.out (by decide))); replace HB := Aside0.mk (hb); have HOU11 := Aside0.mk (ho); clear HO_10; clear ho hb hg hat))
           go_roundg k3
           case measure => have := HJ5.out; have := HK2.out; have := HK3.out; omega
           case rel => exact ⟨(yU9), (wrap64 (x11_3 + 1)), si, H', ⟨by have := HJ5.out; have := HK2.out; have := HK3.out; omega⟩, ⟨by (with_reducible repeat (first | apply Kd.S_alloc | apply Kd.S_drewN | apply Kd.S_drew)); exact Kd.S_mono HO_8.out (fun _ hk => hk.2)⟩, ⟨rl HOU11⟩, ⟨bl BKU1⟩, ⟨bel⟩⟩
          ·rw [if_neg c23] at H; have c23b0 : decide (x11_3 < (l1.length : Int)) = false := decide_eq_false c23; clear c23; replace H := it H; obtain ⟨c32, H⟩ := H; have LMc32 := Aside0.mk c32; clear c32; obtain ⟨yU12, hyU12⟩ : ∃ y_ : List (List Int), y_ = (x8_2 ++ [x10_3]) := ⟨_, rfl⟩
           (try rw [← hyU12] at H); (try rw [Option.bind_some] at H); (try dsimp only at H); have NyU12 := Aside0.mk hyU12; clear hyU12; have H' := Aside0.mk H; clear H; obtain ⟨Ao34, co34, eo34⟩ := Kd.R_slice HO_10.out; subst eo34; go_wp2_with (first | ((with_reducible refine gate_builtin (b := .append) (xs := #[.tmp 64, .tmp 66]) rfl ?_); (try (refine gate_guard (by rfl) ?_; dsimp only)); at_builtin; refine Kd.S_append (Kd.slice 3 (Kd.int .i64)) (w0 := w) w.heap.size rfl (.tmp 64) (.tmp 66) 40 45 (.slice none 0 0) 24 rfl Tryd.underlying40 info45 rfl (by decide) (by omega) u8 x8_2 x10_3 [.slice Ao34 x10_3.length co34] (fun _ => True) (fun k_ => some k_ = (.slice Ao34 x10_3.length co34 : Value).ownBlock) rfl rfl ?aP (fun k_ hk_ => ((Kd.R_mono (ok' := fun k_ => ((fun _ => True)) k_ ∧ some k_ ≠ (u8 : Value).ownBlock) (Kd.R_apart' (HO_10.out) (Kd.S_typed HO_8.out) (by decide)) (fun k_ hk => ⟨trivial, hk.2⟩))).1 k_ hk_.symm) ?aF ?aO ?aB ?aS ?aL ?_; (case aP => exact Kd.M_row (Kd.R_mono (Kd.R_tight rfl (Kd.R_mono (ok' := fun k_ => ((fun _ => True)) k_ ∧ some k_ ≠ (u8 : Value).ownBlock) (Kd.R_apart' (HO_10.out) (Kd.S_typed HO_8.out) (by decide)) (fun k_ hk => ⟨trivial, hk.2⟩))) (fun _ h_ => h_))); (case aB => exact bel); (case aF => exact (fun _ _ => trivial)); (case aO => exact (by (with_reducible repeat (first | apply Kd.S_alloc | apply Kd.S_drewN | apply Kd.S_drew)); exact Kd.S_mono HO_8.out (fun k_ hk => ⟨trivial, fun e_ => hk e_⟩))); (case aS => exact (below_size bel)); (case aL => have := LMc32.out; omega); intro vU13 w33 ho hb hg hat; rw [← NyU12.out] at ho; replace BKU1 := Aside0.mk (blk_grown (g := gbU1) (o := .cells #[.int .i64 a2_0, .int .i64 a2_1, .int .i64 a2_2, .int .i64 a2_3] 23 (0, 0)) (bl BKU1) hg (Kd.S_ne HO_8.out BKU1.out (by decide))); replace HB := Aside0.mk (hb); have HOU14 := Aside0.mk (ho); clear HO_8 HO_10; clear ho hb hg hat)); go_roundg k3
           case measure => have := HJ5.out; have := HK2.out; have := HK3.out; omega
           case rel => exact ⟨(yU12), (wrap64 (x9_2 + 1)), si, H', ⟨by have := HJ5.out; have := HK2.out; have := HK3.out; omega⟩, ⟨sl HOU14⟩, ⟨bl BKU1⟩, ⟨bel⟩⟩
       ·rw [if_neg c22] at H; have c22b0 : decide (x9_2 < (l0.length : Int)) = false := decide_eq_false c22; clear c22; simp only [Option.some.injEq, Prod.mk.injEq] at H; obtain ⟨rfl, rfl⟩ := H; go_wp2; go_ret2; exact ⟨_, fi, by (with_reducible repeat (first | apply Kd.S_alloc | apply Kd.S_drewN | apply Kd.S_drew)); exact HO_8.out, by exact bel⟩
 ·rw [if_neg c5] at H; have c5b0 := beq_eq_false_iff_ne.mpr c5; have c5b1 := bne_iff_ne.mpr c5; simp only [Option.some.injEq, Prod.mk.injEq] at H; obtain ⟨rfl, rfl⟩ := H; go_enter Tryd.func23, Tryd.ntmps23; go_wp2_with (first | ((with_reducible refine gd 5 ?_); (try (refine gate_guard (by rfl) ?_; dsimp only)); refine bz 5 #[.int .i64 a2_0, .int .i64 a2_1, .int .i64 a2_2, .int .i64 a2_3] 23 ?_; clear HB; intro gbU1 w35 BKU1 GWU1 HB; have GEU1 := GWU1; obtain ⟨z36_0, z36_1, z36_2, z36_3, f36_0, f36_1, f36_2, f36_3⟩ := cz4 BKU1) | ((with_reducible refine gc 19 ?_); refine gl 15 Tryd.func19 #[.agg #[.int .i64 a2_0, .int .i64 a2_1, .int .i64 a2_2, .int .i64 a2_3]] ?_; (with_reducible refine (siglumref09_Check.calls a2_0 a2_1 a2_2 a2_3 tU2 _ A4.out).mono ?_); rintro e w37 ⟨rfl, hb⟩; refine ⟨_, rfl, ?_⟩; replace BKU1 := bb BKU1 hb; replace HB := bs hb; (try clear hb))); go_ret2; exact ⟨_, fi, by first | exact Kd.S_nil _ _ _ _ _ | exact Kd.N_nil _ _ _ _ _ | exact Kd.V_nil _ _ _ _ _ | exact Kd.Q_nil _ _ _ _ _ | exact Kd.R_nil _ _ _ _ _, by exact bel⟩
end Go.Proofs.YtcpbalnbgmjhjaaDoor.Q
/-
  The document's cells, byte by byte, are the model's decoding: the same list of cells.
-/
namespace Go.Proofs.YtcpbalnbgmjhjaaDoor.Q
open Go.RowKit Go.Proofs.YtcpbalnbgmjhjaaDoorW.PrintWords Go.Proofs.YtcpbalnbgmjhjaaDoorW.PrintLast
namespace Pl
theorem wrap_small (x : Int) (h : 0 ≤ x) (h2 : x < 9223372036854775808) : wrap64 x = x := by
  unfold wrap64
  omega
theorem wrap32_small (x : Int) (h : 0 ≤ x) (h2 : x < 2147483648) : wrap32 x = x := by
  unfold wrap32
  omega
theorem bt_nat (s : ByteArray) (i : Nat) (h : i < s.size) : bt s (i : Int) = ((s.get! i).toNat : Int) := by
  unfold bt; rw [dif_pos (by simpa using h), Utf.get_lt s i h]
  simp
theorem between_some (a lo hi : Int) : siglumref01_between.f a lo hi = some (decide (lo ≤ a ∧ a ≤ hi)) := by
  unfold siglumref01_between.f
  by_cases h : lo ≤ a <;> simp [h]
def want (b : Int) : Int := if b < 128 then 1 else if 194 ≤ b ∧ b ≤ 223 then 2 else if 224 ≤ b ∧ b ≤ 239 then 3 else if 240 ≤ b ∧ b ≤ 244 then 4 else 0
theorem wants_some (b : Int) : siglumref01_wants.f b = some (want b) := by
  unfold siglumref01_wants.f want; simp only [between_some, Option.bind_some, decide_eq_true_eq]
  split
  · rfl
  · split
    · rfl
    · split
      · rfl
      · split <;> rfl
def sec (a b : Int) : Prop := if a = 224 then 160 ≤ b ∧ b ≤ 191 else if a = 237 then 128 ≤ b ∧ b ≤ 159 else if a = 240 then 144 ≤ b ∧ b ≤ 191 else if a = 244 then 128 ≤ b ∧ b ≤ 143 else 128 ≤ b ∧ b ≤ 191
instance (a b : Int) : Decidable (sec a b) := by unfold sec; infer_instance
theorem sec_iff (a b : Int) : sec a b ↔ (128 ≤ b ∧ b ≤ 191 ∧ (a = 224 → 160 ≤ b) ∧ (a = 237 → b ≤ 159) ∧ (a = 240 → 144 ≤ b) ∧ (a = 244 → b ≤ 143)) := by
  unfold sec
  repeat' split
  all_goals omega
theorem second_some (a b : Int) : siglumref01_second.f a b = some (decide (sec a b)) := by
  unfold siglumref01_second.f sec; simp only [between_some, Option.bind_some]
  split
  · rfl
  · split
    · rfl
    · split
      · rfl
      · split <;> rfl
theorem fits_stop (k : Nat) (s : ByteArray) (i n x : Int) (h : ¬ (x < n ∧ wrap64 (i + x) < (s.size : Int))) : siglumref01_fits.l0 (k + 2) s i n x = some x := by
  rw [siglumref01_fits.l0]
  by_cases h1 : x < n
  · rw [if_pos h1, decide_eq_false (fun h2 => h ⟨h1, h2⟩), siglumref01_fits.j1, if_neg (by decide)]
  · rw [if_neg h1, siglumref01_fits.j1, if_neg (by decide)]
theorem fits_one (k : Nat) (s : ByteArray) (i n : Int) (h0 : 0 ≤ i) (hn : 1 < n) (hi : i + 1 < (s.size : Int)) (hs : s.size ≤ 4294967296) :
    siglumref01_fits.l0 (k + 2) s i n 1 = if sec (bt s i) (bt s (i + 1)) then siglumref01_fits.l0 k s i n 2 else some 1 := by
  have hw : wrap64 (i + 1) = i + 1 := wrap_small _ (by omega) (by omega); rw [siglumref01_fits.l0, if_pos hn, hw, decide_eq_true hi, siglumref01_fits.j1, if_pos rfl, hw, if_pos (by omega), if_pos hi, if_pos rfl, if_pos h0, if_pos (by omega), second_some]; simp only [Option.bind_some, decide_eq_true_eq]; rw [show wrap64 (1 + 1) = 2 from by unfold wrap64; omega]
  by_cases h : sec (bt s i) (bt s (i + 1))
  · rw [if_pos h, if_pos h, if_neg (by decide)]
  · rw [if_neg h, if_neg h]
theorem fits_more (k : Nat) (s : ByteArray) (i n x : Int) (h0 : 0 ≤ i) (h1 : 1 < x) (hx : x < 5) (hn : x < n) (hi : i + x < (s.size : Int)) (hs : s.size ≤ 4294967296) :
    siglumref01_fits.l0 (k + 2) s i n x = if 128 ≤ bt s (i + x) ∧ bt s (i + x) ≤ 191 then siglumref01_fits.l0 k s i n (x + 1) else some x := by
  have hw : wrap64 (i + x) = i + x := wrap_small _ (by omega) (by omega); have hw2 : wrap64 (x + 1) = x + 1 := wrap_small _ (by omega) (by omega); rw [siglumref01_fits.l0, if_pos hn, hw, decide_eq_true hi, siglumref01_fits.j1, if_pos rfl, hw, if_pos (by omega), if_pos hi, if_neg (by omega), if_pos (by omega), between_some, hw2]; simp only [Option.bind_some, decide_eq_true_eq]
def fitN (s : ByteArray) (i w : Int) : Int :=
  if 1 < w ∧ i + 1 < s.size ∧ sec (bt s i) (bt s (i + 1)) then
    (if 2 < w ∧ i + 2 < s.size ∧ (128 ≤ bt s (i + 2) ∧ bt s (i + 2) ≤ 191) then
      (if 3 < w ∧ i + 3 < s.size ∧ (128 ≤ bt s (i + 3) ∧ bt s (i + 3) ≤ 191) then 4 else 3) else 2) else 1
theorem fits_eq (k : Nat) (s : ByteArray) (i : Nat) (hi : i < s.size) (hs : s.size ≤ 4294967296) (hw : want (bt s i) ≠ 0) :
    siglumref01_fits.f (k + 10) s i = some (fitN s i (want (bt s i))) := by
  have hwr : want (bt s i) ≤ 4 := by unfold want; repeat' split <;> omega
  unfold siglumref01_fits.f; rw [if_pos (by omega), if_pos (by omega), wants_some]; simp only [Option.bind_some]; rw [if_neg hw]; generalize want (bt s i) = W at hwr hw ⊢; have w1 : wrap64 ((i : Int) + 1) = (i : Int) + 1 := wrap_small _ (by omega) (by omega); have w2 : wrap64 ((i : Int) + 2) = (i : Int) + 2 := wrap_small _ (by omega) (by omega); have w3 : wrap64 ((i : Int) + 3) = (i : Int) + 3 := wrap_small _ (by omega) (by omega); unfold fitN
  by_cases a1 : 1 < W ∧ (i : Int) + 1 < s.size
  · rw [fits_one (k + 8) s i W (by omega) a1.1 a1.2 hs]
    by_cases a2 : sec (bt s i) (bt s ((i : Int) + 1))
    · rw [if_pos a2, if_pos ⟨a1.1, a1.2, a2⟩]
      by_cases a3 : 2 < W ∧ (i : Int) + 2 < s.size
      · rw [fits_more (k + 6) s i W 2 (by omega) (by omega) (by omega) a3.1 a3.2 hs]
        by_cases a4 : 128 ≤ bt s ((i : Int) + 2) ∧ bt s ((i : Int) + 2) ≤ 191
        · rw [if_pos a4, if_pos (c := 2 < W ∧ (i : Int) + 2 < s.size ∧ (128 ≤ bt s ((i : Int) + 2) ∧ bt s ((i : Int) + 2) ≤ 191)) ⟨a3.1, a3.2, a4⟩, show (2 : Int) + 1 = 3 from rfl]
          by_cases a5 : 3 < W ∧ (i : Int) + 3 < s.size
          · rw [fits_more (k + 4) s i W 3 (by omega) (by omega) (by omega) a5.1 a5.2 hs]
            by_cases a6 : 128 ≤ bt s ((i : Int) + 3) ∧ bt s ((i : Int) + 3) ≤ 191
            · rw [if_pos a6, if_pos (c := 3 < W ∧ (i : Int) + 3 < s.size ∧ (128 ≤ bt s ((i : Int) + 3) ∧ bt s ((i : Int) + 3) ≤ 191)) ⟨a5.1, a5.2, a6⟩, show (3 : Int) + 1 = 4 from rfl]
              rw [fits_stop (k + 2) s i W 4 (by omega)]
            · rw [if_neg a6, if_neg (c := 3 < W ∧ (i : Int) + 3 < s.size ∧ (128 ≤ bt s ((i : Int) + 3) ∧ bt s ((i : Int) + 3) ≤ 191)) (fun e => a6 e.2.2)]
          · rw [fits_stop (k + 4) s i W 3 (by rw [w3]; exact a5), if_neg (c := 3 < W ∧ (i : Int) + 3 < s.size ∧ (128 ≤ bt s ((i : Int) + 3) ∧ bt s ((i : Int) + 3) ≤ 191)) (fun e => a5 ⟨e.1, e.2.1⟩)]
        · rw [if_neg a4, if_neg (c := 2 < W ∧ (i : Int) + 2 < s.size ∧ (128 ≤ bt s ((i : Int) + 2) ∧ bt s ((i : Int) + 2) ≤ 191)) (fun e => a4 e.2.2)]
      · rw [fits_stop (k + 6) s i W 2 (by rw [w2]; exact a3), if_neg (c := 2 < W ∧ (i : Int) + 2 < s.size ∧ (128 ≤ bt s ((i : Int) + 2) ∧ bt s ((i : Int) + 2) ≤ 191)) (fun e => a3 ⟨e.1, e.2.1⟩)]
    · rw [if_neg a2, if_neg (c := 1 < W ∧ (i : Int) + 1 < s.size ∧ sec (bt s i) (bt s ((i : Int) + 1))) (fun e => a2 e.2.2)]
  · rw [fits_stop (k + 8) s i W 1 (by rw [w1]; exact a1), if_neg (c := 1 < W ∧ (i : Int) + 1 < s.size ∧ sec (bt s i) (bt s ((i : Int) + 1))) (fun e => a1 ⟨e.1, e.2.1⟩)]
theorem two (x y : Int) (hx : 0 ≤ x) (hx2 : x < 256) (hy : 0 ≤ y) (hy2 : y < 256) :
    Go.bits .or .i32 (wrap32 ((wrap32 (Go.bits .and .u8 x 31)) * 64)) (wrap32 (Go.bits .and .u8 y 63)) = x % 32 * 64 + y % 64 := by
  rw [u8_and31 x hx hx2, u8_and63 y hy hy2, wrap32_small (x % 32) (by omega) (by omega), wrap32_small (y % 64) (by omega) (by omega), wrap32_small (x % 32 * 64) (by omega) (by omega)]; exact i32_or6 _ _ (by omega) (by omega) (by omega) (by omega) (by omega)
theorem three (x y z : Int) (hx : 0 ≤ x) (hx2 : x < 256) (hy : 0 ≤ y) (hy2 : y < 256) (hz : 0 ≤ z) (hz2 : z < 256) :
    Go.bits .or .i32 (Go.bits .or .i32 (wrap32 ((wrap32 (Go.bits .and .u8 x 15)) * 4096)) (wrap32 ((wrap32 (Go.bits .and .u8 y 63)) * 64))) (wrap32 (Go.bits .and .u8 z 63)) = x % 16 * 4096 + y % 64 * 64 + z % 64 := by
  rw [u8_and15 x hx hx2, u8_and63 y hy hy2, u8_and63 z hz hz2, wrap32_small (x % 16) (by omega) (by omega), wrap32_small (y % 64) (by omega) (by omega), wrap32_small (z % 64) (by omega) (by omega), wrap32_small (x % 16 * 4096) (by omega) (by omega), wrap32_small (y % 64 * 64) (by omega) (by omega)]; rw [i32_or12 (x % 16 * 4096) (y % 64 * 64) (by omega) (by omega) (by omega) (by omega) (by omega)]; exact i32_or6 _ _ (by omega) (by omega) (by omega) (by omega) (by omega)
theorem four (x y z u : Int) (hx : 0 ≤ x) (hx2 : x < 256) (hy : 0 ≤ y) (hy2 : y < 256) (hz : 0 ≤ z) (hz2 : z < 256) (hu : 0 ≤ u) (hu2 : u < 256) :
    Go.bits .or .i32 (Go.bits .or .i32 (Go.bits .or .i32 (wrap32 ((wrap32 (Go.bits .and .u8 x 7)) * 262144)) (wrap32 ((wrap32 (Go.bits .and .u8 y 63)) * 4096))) (wrap32 ((wrap32 (Go.bits .and .u8 z 63)) * 64))) (wrap32 (Go.bits .and .u8 u 63)) = x % 8 * 262144 + y % 64 * 4096 + z % 64 * 64 + u % 64 := by
  rw [u8_and7 x hx hx2, u8_and63 y hy hy2, u8_and63 z hz hz2, u8_and63 u hu hu2, wrap32_small (x % 8) (by omega) (by omega), wrap32_small (y % 64) (by omega) (by omega), wrap32_small (z % 64) (by omega) (by omega), wrap32_small (u % 64) (by omega) (by omega), wrap32_small (x % 8 * 262144) (by omega) (by omega), wrap32_small (y % 64 * 4096) (by omega) (by omega), wrap32_small (z % 64 * 64) (by omega) (by omega)]; rw [i32_or18 (x % 8 * 262144) (y % 64 * 4096) (by omega) (by omega) (by omega) (by omega) (by omega), i32_or12 (x % 8 * 262144 + y % 64 * 4096) (z % 64 * 64) (by omega) (by omega) (by omega) (by omega) (by omega)]; exact i32_or6 _ _ (by omega) (by omega) (by omega) (by omega) (by omega)
def tup (c : S91) : Int × Int × Int × Bool × Int := (c.f0, c.f1, c.f2, c.f3, c.f4)
theorem gCell_bad (s : ByteArray) (i : Nat) (h : Utf8.decode s i = (65533, 1)) : tup (gCell s i) = ((i : Int), 1, 65533, true, bt s i) := by
  have hb : Utf.bad s i = true := (Utf.bad_iff s i).2 (by rw [h]; exact ⟨rfl, rfl⟩); unfold tup gCell; rw [hb, h]
  rfl
theorem gCell_good (s : ByteArray) (i r k : Nat) (h : Utf8.decode s i = (r, k)) (hn : ¬ (r = 65533 ∧ k = 1)) : tup (gCell s i) = ((i : Int), (k : Int), (r : Int), false, 0) := by
  have hb : Utf.bad s i = false := Bool.eq_false_iff.2 (fun e => hn (by have := (Utf.bad_iff s i).1 e; rw [h] at this; exact this)); unfold tup gCell; rw [hb, h]
  rfl
set_option maxHeartbeats 2000000 in
theorem cell_eq (k : Nat) (s : ByteArray) (i : Nat) (hi : i < s.size) (hs : s.size ≤ 4294967296) : siglumref01_cell.f (k + 11) s i = some (tup (gCell s i)) := by
  have b0 := Utf.byte_lt s i; have b1 := Utf.byte_lt s (i + 1); have b2 := Utf.byte_lt s (i + 2); have b3 := Utf.byte_lt s (i + 3); have e0 := bt_nat s i hi; have e1 : i + 1 < s.size → bt s ((i : Int) + 1) = ((s.get! (i + 1)).toNat : Int) := fun h => bt_nat s (i + 1) h
  have e2 : i + 2 < s.size → bt s ((i : Int) + 2) = ((s.get! (i + 2)).toNat : Int) := fun h => bt_nat s (i + 2) h
  have e3 : i + 3 < s.size → bt s ((i : Int) + 3) = ((s.get! (i + 3)).toNat : Int) := fun h => bt_nat s (i + 3) h
  have w1 : wrap64 ((i : Int) + 1) = (i : Int) + 1 := wrap_small _ (by omega) (by omega); have w2 : wrap64 ((i : Int) + 2) = (i : Int) + 2 := wrap_small _ (by omega) (by omega); have w3 : wrap64 ((i : Int) + 3) = (i : Int) + 3 := wrap_small _ (by omega) (by omega); have hd := Lib.decode_at s i
  have hbad : ∀ W, siglumref01_cell.j0 (k + 11) s i W true = some ((i : Int), 1, 65533, true, bt s i) := by
    intro W; rw [siglumref01_cell.j0, if_pos rfl, if_pos (by omega), if_pos (by omega)]
  unfold siglumref01_cell.f; rw [if_pos (by omega), if_pos (by omega), wants_some]; simp only [Option.bind_some]; obtain ⟨W, hW⟩ : ∃ W, want (bt s i) = W := ⟨_, rfl⟩
  have hr : (W = 0 ∨ W = 1 ∨ W = 2 ∨ W = 3 ∨ W = 4) := by rw [← hW]; unfold want; repeat' split <;> omega
  by_cases hw : W = 0
  · rw [hW, if_pos hw, hbad, gCell_bad]
    rw [hd]; rw [e0, hw] at hW; unfold want at hW; unfold Lib.decodeN
    repeat' split
    all_goals first | rfl | (exfalso; repeat' split at hW; all_goals omega)
  · rw [if_neg (by rw [hW]; exact hw), fits_eq (k + 1) s i hi hs (by rw [hW]; exact hw), hW]
    simp only [Option.bind_some]; generalize hB0 : (s.get! i).toNat = B0 at *
    generalize hB1 : (s.get! (i + 1)).toNat = B1 at *
    generalize hB2 : (s.get! (i + 2)).toNat = B2 at *
    generalize hB3 : (s.get! (i + 3)).toNat = B3 at *
    unfold fitN
    rcases hr with rfl | rfl | rfl | rfl | rfl
    · exact absurd rfl hw
    · rw [if_neg (by omega), decide_eq_false (by omega), siglumref01_cell.j0, if_neg (by decide), if_pos (by omega), if_pos (by omega), if_neg (by decide), if_neg (by decide), if_neg (by decide)]
      rw [e0] at hW ⊢; have hb : B0 < 128 := by unfold want at hW; repeat' split at hW; all_goals omega
      rw [wrap32_small _ (by omega) (by omega), gCell_good s i B0 1 (by rw [hd]; unfold Lib.decodeN; rw [if_pos hb]) (by omega)]
      rfl
    · have hb : 194 ≤ B0 ∧ B0 ≤ 223 := by rw [e0] at hW; unfold want at hW; repeat' split at hW; all_goals omega
      by_cases a1 : (1 : Int) < 2 ∧ (i : Int) + 1 < s.size ∧ sec (bt s i) (bt s ((i : Int) + 1))
      · rw [if_pos a1, if_neg (by omega), decide_eq_false (by omega), siglumref01_cell.j0, if_neg (by decide), if_pos (by omega), if_pos (by omega), if_pos rfl, w1, if_pos (by omega), if_pos (by omega)]
        have E1 := e1 (by omega); have A2 := a1.2.2; rw [e0, E1] at A2 ⊢; have A3 : 128 ≤ B1 ∧ B1 ≤ 191 := by rw [sec_iff] at A2; omega
        rw [two _ _ (by omega) (by omega) (by omega) (by omega), gCell_good s i (B0 % 32 * 64 + B1 % 64) 2 (by rw [hd]; unfold Lib.decodeN; rw [if_neg (by omega), if_pos (by omega), if_pos (by omega)]) (by omega)]
        simp
      · rw [if_neg a1, decide_eq_true (by omega), hbad, gCell_bad]
        rw [hd]
        have a2 : ¬ (i + 1 < s.size ∧ 128 ≤ B1 ∧ B1 ≤ 191) := fun e => a1 ⟨by omega, by omega, by
          rw [e0, e1 e.1]; rw [sec_iff]
          omega⟩
        unfold Lib.decodeN; rw [if_neg (by omega), if_neg (by omega), if_neg (by omega), if_neg (by omega)]
    · have hb : 224 ≤ B0 ∧ B0 ≤ 239 := by rw [e0] at hW; unfold want at hW; repeat' split at hW; all_goals omega
      by_cases a1 : (1 : Int) < 3 ∧ (i : Int) + 1 < s.size ∧ sec (bt s i) (bt s ((i : Int) + 1))
      · have E1 := e1 (by omega)
        have A2 := a1.2.2; rw [if_pos a1]; rw [e0, E1] at A2; have A3 : 128 ≤ B1 ∧ B1 ≤ 191 := by rw [sec_iff] at A2; omega
        by_cases a3 : (2 : Int) < 3 ∧ (i : Int) + 2 < s.size ∧ (128 ≤ bt s ((i : Int) + 2) ∧ bt s ((i : Int) + 2) ≤ 191)
        · rw [if_pos a3, if_neg (by omega), decide_eq_false (by omega), siglumref01_cell.j0, if_neg (by decide), if_pos (by omega), if_pos (by omega), if_neg (by decide), if_pos rfl, w1, w2, if_pos (by omega), if_pos (by omega), if_pos (by omega), if_pos (by omega)]
          have E2 := e2 (by omega); have A4 := a3.2.2; rw [E2] at A4
          have A5 : 2048 ≤ B0 % 16 * 4096 + B1 % 64 * 64 + B2 % 64 ∧ (B0 % 16 * 4096 + B1 % 64 * 64 + B2 % 64 < 55296 ∨ 57344 ≤ B0 % 16 * 4096 + B1 % 64 * 64 + B2 % 64) := by
            rw [sec_iff] at A2
            omega
          rw [e0, E1, E2, three _ _ _ (by omega) (by omega) (by omega) (by omega) (by omega) (by omega), gCell_good s i (B0 % 16 * 4096 + B1 % 64 * 64 + B2 % 64) 3 (by rw [hd]; unfold Lib.decodeN; rw [if_neg (by omega), if_neg (by omega), if_pos (by omega), if_pos (by omega)]) (by omega)]
          simp
        · rw [if_neg a3, decide_eq_true (by omega), hbad, gCell_bad]
          rw [hd]; have a4 : ¬ (i + 2 < s.size ∧ 128 ≤ B2 ∧ B2 ≤ 191) := fun e => a3 ⟨by omega, by omega, by rw [e2 e.1]; omega⟩
          unfold Lib.decodeN; rw [if_neg (by omega), if_neg (by omega), if_neg (by omega), if_neg (by omega)]
      · rw [if_neg a1, decide_eq_true (by omega), hbad, gCell_bad]
        rw [hd]; have a2 : i + 1 < s.size → ¬ sec (B0 : Int) (B1 : Int) := fun e h => a1 ⟨by omega, by omega, by rw [e0, e1 e]; exact h⟩
        rw [sec_iff] at a2; unfold Lib.decodeN; rw [if_neg (by omega), if_neg (by omega)]
        by_cases c1 : B0 / 16 = 14 ∧ (1 < s.size - i ∧ B1 / 64 = 2) ∧ (2 < s.size - i ∧ B2 / 64 = 2)
        · rw [if_pos c1, if_neg]
          intro c2; refine a2 (by omega) ?_
          omega
        · rw [if_neg c1, if_neg (by omega)]
    · have hb : 240 ≤ B0 ∧ B0 ≤ 244 := by rw [e0] at hW; unfold want at hW; repeat' split at hW; all_goals omega
      by_cases a1 : (1 : Int) < 4 ∧ (i : Int) + 1 < s.size ∧ sec (bt s i) (bt s ((i : Int) + 1))
      · have E1 := e1 (by omega)
        have A2 := a1.2.2; rw [if_pos a1]; rw [e0, E1] at A2; have A3 : 128 ≤ B1 ∧ B1 ≤ 191 := by rw [sec_iff] at A2; omega
        by_cases a3 : (2 : Int) < 4 ∧ (i : Int) + 2 < s.size ∧ (128 ≤ bt s ((i : Int) + 2) ∧ bt s ((i : Int) + 2) ≤ 191)
        · have E2 := e2 (by omega)
          have A4 := a3.2.2; rw [if_pos a3]; rw [E2] at A4
          by_cases a5 : (3 : Int) < 4 ∧ (i : Int) + 3 < s.size ∧ (128 ≤ bt s ((i : Int) + 3) ∧ bt s ((i : Int) + 3) ≤ 191)
          · rw [if_pos a5, decide_eq_false (by omega), siglumref01_cell.j0, if_neg (by decide), if_pos (by omega), if_pos (by omega), if_neg (by decide), if_neg (by decide), if_pos rfl, w1, w2, w3, if_pos (by omega), if_pos (by omega), if_pos (by omega), if_pos (by omega), if_pos (by omega), if_pos (by omega)]
            have E3 := e3 (by omega); have A6 := a5.2.2; rw [E3] at A6
            have A7 : 65536 ≤ B0 % 8 * 262144 + B1 % 64 * 4096 + B2 % 64 * 64 + B3 % 64 ∧ B0 % 8 * 262144 + B1 % 64 * 4096 + B2 % 64 * 64 + B3 % 64 ≤ 1114111 := by
              rw [sec_iff] at A2
              omega
            rw [e0, E1, E2, E3, four _ _ _ _ (by omega) (by omega) (by omega) (by omega) (by omega) (by omega) (by omega) (by omega), gCell_good s i (B0 % 8 * 262144 + B1 % 64 * 4096 + B2 % 64 * 64 + B3 % 64) 4 (by rw [hd]; unfold Lib.decodeN; rw [if_neg (by omega), if_neg (by omega), if_neg (by omega), if_pos (by omega), if_pos (by omega)]) (by omega)]
            simp
          · rw [if_neg a5, decide_eq_true (by omega), hbad, gCell_bad]
            rw [hd]; have a6 : ¬ (i + 3 < s.size ∧ 128 ≤ B3 ∧ B3 ≤ 191) := fun e => a5 ⟨by omega, by omega, by rw [e3 e.1]; omega⟩
            unfold Lib.decodeN; rw [if_neg (by omega), if_neg (by omega), if_neg (by omega), if_neg (by omega)]
        · rw [if_neg a3, decide_eq_true (by omega), hbad, gCell_bad]
          rw [hd]; have a4 : ¬ (i + 2 < s.size ∧ 128 ≤ B2 ∧ B2 ≤ 191) := fun e => a3 ⟨by omega, by omega, by rw [e2 e.1]; omega⟩
          unfold Lib.decodeN; rw [if_neg (by omega), if_neg (by omega), if_neg (by omega), if_neg (by omega)]
      · rw [if_neg a1, decide_eq_true (by omega), hbad, gCell_bad]
        rw [hd]; have a2 : i + 1 < s.size → ¬ sec (B0 : Int) (B1 : Int) := fun e h => a1 ⟨by omega, by omega, by rw [e0, e1 e]; exact h⟩
        rw [sec_iff] at a2; unfold Lib.decodeN; rw [if_neg (by omega), if_neg (by omega), if_neg (by omega)]
        by_cases c1 : B0 / 8 = 30 ∧ (1 < s.size - i ∧ B1 / 64 = 2) ∧ (2 < s.size - i ∧ B2 / 64 = 2) ∧ (3 < s.size - i ∧ B3 / 64 = 2)
        · rw [if_pos c1, if_neg]
          intro c2; refine a2 (by omega) ?_
          omega
        · rw [if_neg c1]
theorem cells_loop (s : ByteArray) (hs : s.size ≤ 4294967296) : ∀ (fuel pos k : Nat) (acc : List S91), s.size ≤ pos + fuel → pos ≤ s.size → acc.length ≤ pos → fuel + 12 ≤ k →
    siglumref01_Cells.l0 k s acc pos = some (acc ++ gCells s fuel pos)
  | fuel, pos, k, acc, h1, h2, h3, h4 => by
    obtain ⟨m, rfl⟩ : ∃ m, k = m + 11 + 1 := ⟨k - 12, by omega⟩
    rw [siglumref01_Cells.l0]
    by_cases hp : pos < s.size
    · obtain ⟨f, rfl⟩ : ∃ f, fuel = f + 1 := ⟨fuel - 1, by omega⟩
      rw [if_pos (by omega), cell_eq m s pos hp hs, Option.bind_some, if_pos (by omega), gCells_step s f pos hp]; have hw := Utf.width_pos s pos hp; have hl := Utf.width_le s pos hp
      have : wrap64 ((pos : Int) + (tup (gCell s pos)).2.1) = ((pos + (Utf8.decode s pos).2 : Nat) : Int) := by
        show wrap64 ((pos : Int) + ((Utf8.decode s pos).2 : Int)) = _
        rw [wrap_small _ (by omega) (by omega)]
        simp
      rw [this, cells_loop s hs f (pos + (Utf8.decode s pos).2) (m + 11) _ (by omega) hl (by simp; omega) (by omega)]
      simp [tup]
    · rw [if_neg (by omega), gCells_end s fuel pos hp, List.append_nil]
theorem cells_eq (k : Nat) (s : ByteArray) (hs : s.size ≤ 4294967296) (hk : s.size + 12 ≤ k) : siglumref01_Cells.f k s = some (gCells s s.size 0) := by
  unfold siglumref01_Cells.f; have := cells_loop s hs s.size 0 k [] (by omega) (by omega) (by simp) hk
  simpa using this
end Pl
end Go.Proofs.YtcpbalnbgmjhjaaDoor.Q
/-
  Plain facts on the model's Utf8.encode and Utf8.decode: encoding is the library's table; what was decoded from good bytes encodes to just those bytes.
-/
namespace Go.Proofs.YtcpbalnbgmjhjaaDoor.Utf
open Go.RowKit
theorem valid_iff (r : Int) : Utf8.valid r = true ↔ (0 ≤ r ∧ r < 55296) ∨ (57343 < r ∧ r ≤ 1114111) := by
  simp [Utf8.valid]
  omega
theorem encode_list (r : Int) : (Utf8.encode r).data.toList = Lib.encodeRune r := by
  unfold Utf8.encode Lib.encodeRune
  by_cases hv : Utf8.valid r = true
  · have h := (valid_iff r).1 hv
    simp only [hv, if_true]
    by_cases c1 : r.toNat < 128
    · rw [if_pos c1, Lib.encodeRuneZ_one (by omega) (by omega)]
      rfl
    · rw [if_neg c1]
      by_cases c2 : r.toNat < 2048
      · rw [if_pos c2, Lib.encodeRuneZ_two (by omega) (by omega)]
        simp only [List.map_cons, List.map_nil]; rw [show (192 + r / 64).toNat = 192 + r.toNat / 64 from by omega, show (128 + r % 64).toNat = 128 + r.toNat % 64 from by omega]
      · rw [if_neg c2]
        by_cases c3 : r.toNat < 65536
        · rw [if_pos c3, Lib.encodeRuneZ_three (by omega)]
          simp only [List.map_cons, List.map_nil]; rw [show (224 + r / 4096).toNat = 224 + r.toNat / 4096 from by omega, show (128 + r / 64 % 64).toNat = 128 + r.toNat / 64 % 64 from by omega, show (128 + r % 64).toNat = 128 + r.toNat % 64 from by omega]
        · rw [if_neg c3, Lib.encodeRuneZ_four (by omega) (by omega)]
          simp only [List.map_cons, List.map_nil]; rw [show (240 + r / 262144).toNat = 240 + r.toNat / 262144 from by omega, show (128 + r / 4096 % 64).toNat = 128 + r.toNat / 4096 % 64 from by omega, show (128 + r / 64 % 64).toNat = 128 + r.toNat / 64 % 64 from by omega, show (128 + r % 64).toNat = 128 + r.toNat % 64 from by omega]
  · have h : r < 0 ∨ (55296 ≤ r ∧ r ≤ 57343) ∨ 1114111 < r := by
      have := mt (valid_iff r).2 hv
      omega
    simp only [Bool.not_eq_true] at hv; simp only [hv, Bool.false_eq_true, if_false]; rw [Lib.encodeRuneZ_bad h]
    decide
theorem drop_ne (s : ByteArray) (i : Nat) (h : i < s.size) : s.data.toList.drop i ≠ [] := by
  intro e; have := congrArg List.length e; rw [List.length_drop, Array.length_toList] at this; have h2 : s.data.size = s.size := rfl
  simp at this
  omega
theorem encode_bytes (s : ByteArray) (i : Nat) (h : i < s.size) (hb : bad s i = false) : (Utf8.encode ((Utf8.decode s i).1 : Int)).data.toList = (s.data.toList.drop i).take (Utf8.decode s i).2 := by
  have hn : ¬ ((Utf8.decode s i).1 = 65533 ∧ (Utf8.decode s i).2 = 1) := fun e => by rw [(bad_iff s i).2 e] at hb; cases hb
  rw [encode_list, ← Lib.decodeL_drop]; rw [← Lib.decodeL_drop] at hn; exact Lib.encode_decode _ (drop_ne s i h) hn
theorem bad_bytes (s : ByteArray) (i : Nat) (h : i < s.size) : [s.get! i] = (s.data.toList.drop i).take 1 := by
  have e : s.data.toList.drop i = s.data.toList[i]'(by simpa using h) :: s.data.toList.drop (i + 1) := List.drop_eq_getElem_cons (by simpa using h); rw [e, get_lt s i h]
  rfl
end Go.Proofs.YtcpbalnbgmjhjaaDoor.Utf
/-
  Plain facts on the list of a text's cells: its length is the runes' number, its runes are the text's, its bytes give the text back; the document's written runes are the model's encoding.
-/
namespace Go.Proofs.YtcpbalnbgmjhjaaDoor.Q
open Go.RowKit Go.Proofs.YtcpbalnbgmjhjaaDoorW.PrintWords Go.Proofs.YtcpbalnbgmjhjaaDoorW.PrintLast
namespace Pl
theorem get_rd (l : List S91) (i : Nat) (h : i < l.length) : rd_T91 l (i : Int) = l[i] := by
  unfold rd_T91; rw [Int.toNat_natCast, List.getD_eq_getElem?_getD, List.getElem?_eq_getElem h]
  rfl
theorem cells_count (s : ByteArray) : ∀ f i, (gCells s f i).length = Lib.runeCountFrom s f i
  | 0, _ => rfl
  | f + 1, i => by
    unfold gCells Lib.runeCountFrom
    split
    · rw [List.length_cons, cells_count s f]; omega
    · rfl
theorem cells_length (s : ByteArray) : (gCells s s.size 0).length = Lib.runeCount s := cells_count s s.size 0
theorem cells_le (s : ByteArray) : (gCells s s.size 0).length ≤ s.size := by rw [cells_length]; exact Lib.runeCount_le s
theorem cell_byte (s : ByteArray) (i : Nat) : 0 ≤ (gCell s i).f4 ∧ (gCell s i).f4 < 256 := by
  show 0 ≤ (if Utf.bad s i = true then bt s i else 0) ∧ (if Utf.bad s i = true then bt s i else 0) < 256
  split
  · unfold bt
    split
    · rename_i h
      have := (s[((i : Int)).toNat]'h).toNat_lt
      omega
    · omega
  · omega
theorem cells_byte (s : ByteArray) : ∀ f i, ∀ c ∈ gCells s f i, 0 ≤ c.f4 ∧ c.f4 < 256
  | 0, _, c, h => by cases h
  | f + 1, i, c, h => by
    unfold gCells at h
    split at h
    · rcases List.mem_cons.1 h with rfl | h
      · exact cell_byte s i
      · exact cells_byte s f _ c h
    · cases h
theorem and63 (x : Int) (h0 : 0 ≤ x) (h : x < 2147483648) : Go.bits .and .i32 x 63 = x % 64 := bits_mask .i32 31 (by decide) wraps_i32 6 (by decide) x h0 h
theorem written_eq (k : Nat) (r : Int) : siglumref01_written.f (k + 2) r = some (Lib.encodeRuneZ r) := by
  have h1 : ∀ r : Int, 0 ≤ r → r ≤ 1114111 → (r < 55296 ∨ 57343 < r) → siglumref01_written.j1 (k + 1) r = some (Lib.encodeRuneZ r) := by
    intro r h0 h1 h2; rw [siglumref01_written.j1]
    by_cases c1 : r < 128
    · rw [if_pos c1, Lib.encodeRuneZ_one h0 (by omega), Int.emod_eq_of_lt h0 (by omega)]
    · rw [if_neg c1]
      by_cases c2 : r < 2048
      · rw [if_pos c2, Lib.encodeRuneZ_two (by omega) (by omega), and63 r (by omega) (by omega), Int.emod_eq_of_lt (a := r / 64) (by omega) (by omega), Int.emod_eq_of_lt (a := r % 64) (by omega) (by omega), u8_or192 (r / 64) (by omega) (by omega), u8_or128 (r % 64) (by omega) (by omega)]
      · rw [if_neg c2]
        by_cases c3 : r < 65536
        · rw [if_pos c3, Lib.encodeRuneZ_three (by omega), and63 r (by omega) (by omega), and63 (r / 64) (by omega) (by omega), Int.emod_eq_of_lt (a := r / 4096) (by omega) (by omega), Int.emod_eq_of_lt (a := r / 64 % 64) (by omega) (by omega), Int.emod_eq_of_lt (a := r % 64) (by omega) (by omega), u8_or224 (r / 4096) (by omega) (by omega), u8_or128 (r / 64 % 64) (by omega) (by omega), u8_or128 (r % 64) (by omega) (by omega)]
        · rw [if_neg c3, Lib.encodeRuneZ_four (by omega) (by omega), and63 r (by omega) (by omega), and63 (r / 64) (by omega) (by omega), and63 (r / 4096) (by omega) (by omega), Int.emod_eq_of_lt (a := r / 262144) (by omega) (by omega), Int.emod_eq_of_lt (a := r / 4096 % 64) (by omega) (by omega), Int.emod_eq_of_lt (a := r / 64 % 64) (by omega) (by omega), Int.emod_eq_of_lt (a := r % 64) (by omega) (by omega), u8_or240 (r / 262144) (by omega) (by omega), u8_or128 (r / 4096 % 64) (by omega) (by omega), u8_or128 (r / 64 % 64) (by omega) (by omega), u8_or128 (r % 64) (by omega) (by omega)]
  have hbad : (r < 0 ∨ (55296 ≤ r ∧ r ≤ 57343) ∨ 1114111 < r) → siglumref01_written.j0 (k + 2) r true = some (Lib.encodeRuneZ r) := by
    intro h; rw [siglumref01_written.j0, if_pos rfl, h1 65533 (by omega) (by omega) (by omega), Lib.encodeRuneZ_bad h]
    rfl
  unfold siglumref01_written.f
  by_cases c1 : r < 0
  · rw [if_pos c1, hbad (by omega)]
  · rw [if_neg c1]
    by_cases c2 : r > 1114111
    · rw [if_pos c2, hbad (by omega)]
    · rw [if_neg c2]
      by_cases c3 : r ≥ 55296
      · rw [if_pos c3]
        by_cases c4 : r ≤ 57343
        · rw [decide_eq_true c4, hbad (by omega)]
        · rw [decide_eq_false c4, siglumref01_written.j0, if_neg (by decide), h1 r (by omega) (by omega) (by omega)]
      · rw [if_neg c3, siglumref01_written.j0, if_neg (by decide), h1 r (by omega) (by omega) (by omega)]
theorem written_ge (k : Nat) (r : Int) (h : 2 ≤ k) : siglumref01_written.f k r = some (Lib.encodeRuneZ r) := by
  obtain ⟨m, rfl⟩ : ∃ m, k = m + 2 := ⟨k - 2, by omega⟩
  exact written_eq m r
theorem strOf_append (a b : List Int) : (strOfNums (a ++ b)).data.toList = (strOfNums a).data.toList ++ (strOfNums b).data.toList := by simp [strOfNums]
theorem strOf_rune (r : Int) : (strOfNums (Lib.encodeRuneZ r)).data.toList = (Utf8.encode r).data.toList := by
  rw [Utf.encode_list]
  simp [strOfNums, Lib.encodeRune]
end Pl
end Go.Proofs.YtcpbalnbgmjhjaaDoor.Q
/-
  The edit distance of two lists: the least number of edits; what holds of it (no program in sight).
-/
namespace Go.Proofs.YtcpbalnbgmjhjaaDoor.Lv
inductive Ed {α : Type} : Nat → List α → List α → Prop
  | nil : Ed 0 [] []
  | keep {n xs ys} (x : α) : Ed n xs ys → Ed n (x :: xs) (x :: ys)
  | swap {n xs ys} (x y : α) : Ed n xs ys → Ed (n + 1) (x :: xs) (y :: ys)
  | cut {n xs ys} (x : α) : Ed n xs ys → Ed (n + 1) (x :: xs) ys
  | put {n xs ys} (y : α) : Ed n xs ys → Ed (n + 1) xs (y :: ys)
def levGo {α : Type} [DecidableEq α] (x : α) (n : Nat) (f : List α → Nat) : List α → Nat
  | [] => n + 1
  | y :: ys => min (f ys + if x = y then 0 else 1) (min (f (y :: ys) + 1) (levGo x n f ys + 1))
def lev {α : Type} [DecidableEq α] : List α → List α → Nat
  | [], ys => ys.length
  | x :: xs, ys => levGo x xs.length (lev xs) ys
theorem lev_nil {α : Type} [DecidableEq α] (ys : List α) : lev [] ys = ys.length := rfl
theorem lev_nil' {α : Type} [DecidableEq α] (xs : List α) : lev xs [] = xs.length := by cases xs <;> rfl
theorem lev_cons {α : Type} [DecidableEq α] (x y : α) (xs ys : List α) : lev (x :: xs) (y :: ys) = min (lev xs ys + if x = y then 0 else 1) (min (lev xs (y :: ys) + 1) (lev (x :: xs) ys + 1)) := rfl
theorem Ed.cuts {α : Type} : ∀ xs : List α, Ed xs.length xs []
  | [] => .nil
  | x :: xs => .cut x (Ed.cuts xs)
theorem Ed.puts {α : Type} : ∀ ys : List α, Ed ys.length [] ys
  | [] => .nil
  | y :: ys => .put y (Ed.puts ys)
theorem ed_lev {α : Type} [DecidableEq α] : ∀ xs ys : List α, Ed (lev xs ys) xs ys
  | [], ys => by rw [lev_nil]; exact Ed.puts ys
  | x :: xs, [] => by rw [lev_nil']; exact Ed.cuts _
  | x :: xs, y :: ys => by
    have h1 := ed_lev xs ys; have h2 := ed_lev xs (y :: ys); have h3 := ed_lev (x :: xs) ys; rw [lev_cons]; generalize lev xs ys = a at *
    generalize lev xs (y :: ys) = b at *
    generalize lev (x :: xs) ys = c at *
    rcases Nat.le_total (a + if x = y then 0 else 1) (min (b + 1) (c + 1)) with h | h
    · rw [Nat.min_eq_left h]
      by_cases e : x = y
      · subst e; rw [if_pos rfl]; exact .keep x h1
      · rw [if_neg e]; exact .swap x y h1
    · rw [Nat.min_eq_right h]
      rcases Nat.le_total (b + 1) (c + 1) with h' | h'
      · rw [Nat.min_eq_left h']; exact .cut x h2
      · rw [Nat.min_eq_right h']; exact .put y h3
termination_by xs ys => xs.length + ys.length
theorem lev_tail_le {α : Type} [DecidableEq α] (x : α) (xs ys : List α) : lev (x :: xs) ys ≤ lev xs ys + 1 := by
  cases ys with
  | nil => rw [lev_nil', lev_nil']; simp
  | cons y ys => rw [lev_cons]; omega
theorem lev_put_le {α : Type} [DecidableEq α] (y : α) (xs ys : List α) : lev xs (y :: ys) ≤ lev xs ys + 1 := by
  cases xs with
  | nil => rw [lev_nil, lev_nil]; simp
  | cons x xs => rw [lev_cons]; omega
theorem lev_le {α : Type} [DecidableEq α] {n : Nat} {xs ys : List α} (h : Ed n xs ys) : lev xs ys ≤ n := by
  induction h with
  | nil => rw [lev_nil]; simp
  | keep x _ ih => rw [lev_cons, if_pos rfl]; omega
  | swap x y _ ih => rw [lev_cons]; split <;> omega
  | @cut _ xs ys x _ ih => have := lev_tail_le x xs ys; omega
  | @put _ xs ys y _ ih => have := lev_put_le y xs ys; omega
theorem Ed.symm {α : Type} {n : Nat} {xs ys : List α} (h : Ed n xs ys) : Ed n ys xs := by
  induction h with
  | nil => exact .nil
  | keep x _ ih => exact .keep x ih
  | swap x y _ ih => exact .swap y x ih
  | cut x _ ih => exact .put x ih
  | put y _ ih => exact .cut y ih
theorem Ed.append {α : Type} {n m : Nat} {xs ys us vs : List α} (h : Ed n xs ys) (g : Ed m us vs) : Ed (n + m) (xs ++ us) (ys ++ vs) := by
  induction h with
  | nil => simpa using g
  | keep x _ ih => exact .keep x ih
  | @swap n xs ys x y _ ih => have := Ed.swap x y ih; rwa [show n + m + 1 = n + 1 + m by omega] at this
  | @cut n xs ys x _ ih => have := Ed.cut x ih; rwa [show n + m + 1 = n + 1 + m by omega] at this
  | @put n xs ys y _ ih => have := Ed.put y ih; rwa [show n + m + 1 = n + 1 + m by omega] at this
theorem Ed.same {α : Type} : ∀ xs : List α, Ed 0 xs xs
  | [] => .nil
  | x :: xs => .keep x (Ed.same xs)
theorem Ed.rev {α : Type} {n : Nat} {xs ys : List α} (h : Ed n xs ys) : Ed n xs.reverse ys.reverse := by
  induction h with
  | nil => exact .nil
  | keep x _ ih => have := ih.append (Ed.same [x]); simpa using this
  | swap x y _ ih => have := ih.append (Ed.swap x y .nil); simpa using this
  | cut x _ ih => have := ih.append (Ed.cut x .nil); simpa using this
  | put y _ ih => have := ih.append (Ed.put y .nil); simpa using this
theorem lev_rev_le {α : Type} [DecidableEq α] (xs ys : List α) : lev xs.reverse ys.reverse ≤ lev xs ys := lev_le (ed_lev xs ys).rev
theorem lev_rev {α : Type} [DecidableEq α] (xs ys : List α) : lev xs.reverse ys.reverse = lev xs ys :=
  Nat.le_antisymm (lev_rev_le xs ys) (by have := lev_rev_le xs.reverse ys.reverse; simpa using this)
theorem lev_snoc {α : Type} [DecidableEq α] (x y : α) (xs ys : List α) : lev (xs ++ [x]) (ys ++ [y]) = min (lev xs ys + if x = y then 0 else 1) (min (lev xs (ys ++ [y]) + 1) (lev (xs ++ [x]) ys + 1)) := by
  rw [← lev_rev xs ys, ← lev_rev (xs ++ [x]) (ys ++ [y]), ← lev_rev xs (ys ++ [y]), ← lev_rev (xs ++ [x]) ys]; simp only [List.reverse_append, List.reverse_cons, List.reverse_nil, List.nil_append, List.singleton_append]; exact lev_cons x y _ _
theorem lev_self {α : Type} [DecidableEq α] (xs : List α) : lev xs xs = 0 := Nat.le_zero.1 (lev_le (Ed.same xs))
theorem ed_zero {α : Type} {n : Nat} {xs ys : List α} (h : Ed n xs ys) (hn : n = 0) : xs = ys := by
  induction h with
  | nil => rfl
  | keep x _ ih => rw [ih hn]
  | swap x y _ ih => cases hn
  | cut x _ ih => cases hn
  | put y _ ih => cases hn
theorem lev_zero {α : Type} [DecidableEq α] {xs ys : List α} : lev xs ys = 0 ↔ xs = ys :=
  ⟨fun h => ed_zero (ed_lev xs ys) h, fun h => by subst h; exact lev_self xs⟩
theorem ed_trans {α : Type} : ∀ (s : Nat) {n m : Nat} {xs ys zs : List α}, Ed n xs ys → Ed m ys zs → xs.length + ys.length + zs.length ≤ s → ∃ k, k ≤ n + m ∧ Ed k xs zs := by
  intro s
  induction s with
  | zero =>
    intro n m xs ys zs h g hs; obtain rfl : xs = [] := List.eq_nil_of_length_eq_zero (by omega); obtain rfl : zs = [] := List.eq_nil_of_length_eq_zero (by omega); exact ⟨0, by omega, .nil⟩
  | succ s ih =>
    intro n m xs ys zs h g hs
    cases h with
    | nil => exact ⟨m, by omega, g⟩
    | @cut n xs _ x h =>
      obtain ⟨k, hk, e⟩ := ih h g (by simp at hs; omega); exact ⟨k + 1, by omega, .cut x e⟩
    | @keep n xs ys x h =>
      cases g with
      | @keep m _ zs _ g => obtain ⟨k, hk, e⟩ := ih h g (by simp at hs; omega); exact ⟨k, hk, .keep x e⟩
      | @swap m _ zs _ y g => obtain ⟨k, hk, e⟩ := ih h g (by simp at hs; omega); exact ⟨k + 1, by omega, .swap x y e⟩
      | @cut m _ _ _ g => obtain ⟨k, hk, e⟩ := ih h g (by simp at hs; omega); exact ⟨k + 1, by omega, .cut x e⟩
      | @put m _ zs z g => obtain ⟨k, hk, e⟩ := ih (Ed.keep x h) g (by simp at hs ⊢; omega); exact ⟨k + 1, by omega, .put z e⟩
    | @swap n xs ys x y h =>
      cases g with
      | @keep m _ zs _ g => obtain ⟨k, hk, e⟩ := ih h g (by simp at hs; omega); exact ⟨k + 1, by omega, .swap x y e⟩
      | @swap m _ zs _ z g => obtain ⟨k, hk, e⟩ := ih h g (by simp at hs; omega); exact ⟨k + 1, by omega, .swap x z e⟩
      | @cut m _ _ _ g => obtain ⟨k, hk, e⟩ := ih h g (by simp at hs; omega); exact ⟨k + 1, by omega, .cut x e⟩
      | @put m _ zs z g => obtain ⟨k, hk, e⟩ := ih (Ed.swap x y h) g (by simp at hs ⊢; omega); exact ⟨k + 1, by omega, .put z e⟩
    | @put n _ ys y h =>
      cases g with
      | @keep m _ zs _ g => obtain ⟨k, hk, e⟩ := ih h g (by simp at hs; omega); exact ⟨k + 1, by omega, .put y e⟩
      | @swap m _ zs _ z g => obtain ⟨k, hk, e⟩ := ih h g (by simp at hs; omega); exact ⟨k + 1, by omega, .put z e⟩
      | @cut m _ _ _ g => obtain ⟨k, hk, e⟩ := ih h g (by simp at hs; omega); exact ⟨k, by omega, e⟩
      | @put m _ zs z g => obtain ⟨k, hk, e⟩ := ih (Ed.put y h) g (by simp at hs ⊢; omega); exact ⟨k + 1, by omega, .put z e⟩
theorem lev_trans {α : Type} [DecidableEq α] (xs ys zs : List α) : lev xs zs ≤ lev xs ys + lev ys zs := by
  obtain ⟨k, hk, e⟩ := ed_trans _ (ed_lev xs ys) (ed_lev ys zs) (Nat.le_refl _); exact Nat.le_trans (lev_le e) hk
theorem lev_max {α : Type} [DecidableEq α] : ∀ xs ys : List α, lev xs ys ≤ max xs.length ys.length
  | [], ys => by rw [lev_nil]; simp
  | x :: xs, [] => by rw [lev_nil']; simp
  | x :: xs, y :: ys => by
    have := lev_max xs ys; rw [lev_cons]; simp only [List.length_cons]; split <;> omega
theorem lev_keep {α : Type} [DecidableEq α] (x : α) (xs ys : List α) : lev (x :: xs) (x :: ys) = lev xs ys := by
  have h1 : lev xs ys ≤ lev xs (x :: ys) + 1 := lev_le (by
    have := ed_trans _ (ed_lev xs (x :: ys)) (Ed.cut x (Ed.same ys)) (Nat.le_refl _)
    exact (ed_lev xs ys)) |> fun _ => by
      obtain ⟨k, hk, e⟩ := ed_trans _ (ed_lev xs (x :: ys)) (Ed.cut x (Ed.same ys)) (Nat.le_refl _); exact Nat.le_trans (lev_le e) hk
  have h2 : lev xs ys ≤ lev (x :: xs) ys + 1 := by
    obtain ⟨k, hk, e⟩ := ed_trans _ (Ed.put x (Ed.same xs)) (ed_lev (x :: xs) ys) (Nat.le_refl _); have := lev_le e
    omega
  rw [lev_cons, if_pos rfl]; omega
theorem lev_swap {α : Type} [DecidableEq α] (x y : α) (h : x ≠ y) (xs ys : List α) : lev (x :: xs) (y :: ys) = 1 + min (lev xs (y :: ys)) (min (lev (x :: xs) ys) (lev xs ys)) := by
  rw [lev_cons, if_neg h]; omega
end Go.Proofs.YtcpbalnbgmjhjaaDoor.Lv
