import Derived.Test.YtbpinnanfanaaaaDoorV23
import Derived.Test.YtbpinnanfanaaaaDoorV25
import Derived.Test.YtbpinnanfanaaaaDoorV210
import Derived.Test.YtbpinnanfanaaaaDoorV211
import Derived.Test.YtbpinnanfanaaaaDoorRows
import Derived.Test.YtbpinnanfanaaaaDoorV21
import Derived.ProofKit
import Derived.Deep.Slices
import Derived.Deep.Fields
import Derived.ChangeSame
import Derived.SizedLaws
import Derived.Test.YtbpinnanfanaaaaDoorV24
import Derived.Lib.LaidIn
import Derived.Lib.LaidTab
import Derived.Lib.LaidU8T
import Derived.PinnedBridge
namespace Go.Proofs.YtbpinnanfanaaaaDoor.L
open Go.RowKit Go.Proofs.YtbpinnanfanaaaaDoor.Mi Go.Proofs.YtbpinnanfanaaaaDoorW.PrintWords Go.Proofs.YtbpinnanfanaaaaDoorW.PrintLast Go.Proofs.YtbpinnanfanaaaaDoorW.PrintMore
attribute [local go_sem] min2_int min_two min_three
set_option linter.unusedVariables false
set_option linter.unusedSimpArgs false
def slim_Least.f (k : Nat) (l0 : List ByteArray) (l1 : List ByteArray) (a2_0 : Int) (a2_1 : Int) (a2_2 : Int) (a2_3 : Int) : Option (Int × Int) := (cost_Grid.f k l0 l1 a2_0 a2_1 a2_2 a2_3).bind fun btU2 => (if btU2.2 = 0 then ((slim_task_ahead.f k btU2.1 a2_0 0 (l0.length : Int) 0 (l1.length : Int)).bind fun tU6 => (if 0 ≤ (l1.length : Int) then (if (l1.length : Int) < (tU6.length : Int) then (some (rd tU6 (l1.length : Int), 0)) else (none)) else (none))) else (some (0, btU2.2)))
set_option maxHeartbeats 8000000 in
set_option maxRecDepth 100000 in
theorem slim_Least.calls (k : Nat) (A0 : Option Addr) (c0 : Nat) (l0 : List ByteArray) (A1 : Option Addr) (c1 : Nat) (l1 : List ByteArray) (a2_0 : Int) (a2_1 : Int) (a2_2 : Int) (a2_3 : Int) (r1 : Int) (r2 : Int) (w : World) (hr0 : Kd.C Kd.string w A0 l0.length l0) (hc0 : l0.length ≤ c0) (hr1 : Kd.C Kd.string w A1 l1.length l1) (hc1 : l1.length ≤ c1) (hT : Utf.Tabs2 w) (h : slim_Least.f k l0 l1 a2_0 a2_1 a2_2 a2_3 = some (r1, r2)) :
 Calls Tryd.prog 9 #[.slice A0 l0.length c0, .slice A1 l1.length c1, .agg #[.int .i64 a2_0, .int .i64 a2_1, .int .i64 a2_2, .int .i64 a2_3]] w fun e w' => e = .returned (.tuple #[.int .i64 r1, .int .i64 r2]) ∧ Below w.heap.size w w' := by
 have hu24 := Tryd.underlying24; have hu50 := Tryd.underlying50; have HR0 := Aside0.mk hr0; have HC0 := Aside0.mk hc0; clear hr0 hc0; have HR1 := Aside0.mk hr1; have HC1 := Aside0.mk hc1; clear hr1 hc1; have HT := Aside0.mk hT; clear hT; have HB := Aside0.mk (Below.refl w.heap.size w); have H := h; clear h; unfold slim_Least.f at H; replace H := ob H; obtain ⟨⟨tU2, tU5⟩, A4, H⟩ := H; (try dsimp only at H)
 by_cases c5 : tU5 = 0
 ·rw [if_pos c5] at H; have c5b0 := beq_iff_eq.mpr c5; have c5b1 := bne_eq_false_iff_eq.mpr c5; clear c5; replace H := ob H; obtain ⟨tU6, A6, H⟩ := H; (try dsimp only at H); replace H := it H; obtain ⟨c7, H⟩ := H; have c7b0 := decide_eq_true c7; have c7b1 : decide (0 ≤ l1.length) = true := decide_eq_true (by omega); clear c7; replace H := it H; obtain ⟨c8, H⟩ := H; have c8b0 := decide_eq_true c8; have c8b1 : decide (l1.length < tU6.length) = true := decide_eq_true (Int.ofNat_lt.mp c8); clear c8; simp only [Option.some.injEq, Prod.mk.injEq] at H; obtain ⟨rfl, rfl⟩ := H; go_enter Tryd.func9, Tryd.ntmps9; go_wp2_with (first | ((with_reducible refine gd 5 ?_); refine bz 5 #[.int .i64 a2_0, .int .i64 a2_1, .int .i64 a2_2, .int .i64 a2_3] 24 ?_; clear HB; intro gbU1 w9 BKU1 GWU1 HB; have GEU1 := GWU1; obtain ⟨z10_0, z10_1, z10_2, z10_3, f10_0, f10_1, f10_2, f10_3⟩ := cz4 BKU1) | ((with_reducible refine gc 17 ?_); refine gl 15 Tryd.func17 #[.slice A0 l0.length c0, .slice A1 l1.length c1, .agg #[.int .i64 a2_0, .int .i64 a2_1, .int .i64 a2_2, .int .i64 a2_3]] ?_; (with_reducible refine (cost_Grid.calls k _ _ l0 _ _ l1 a2_0 a2_1 a2_2 a2_3 tU2 tU5 _ ?side1 ?side2 ?side3 ?side4 ?side5 A4.out).mono ?_); (case side1 => exact cb HR0 HB); (case side2 => exact HC0.out); (case side3 => exact cb HR1 HB); (case side4 => exact HC1.out); (case side5 => exact Utf.tabs_step2 HT.out bel); rintro e w11 ⟨vU3, rfl, ho0, hb⟩; refine ⟨_, rfl, ?_⟩; have HOU4 := Aside0.mk (Kd.S_lower ho0 (below_size bel)); replace BKU1 := bb BKU1 hb; replace HB := bs hb; (try clear hb); (try clear ho0); obtain ⟨z12_0, z12_1, z12_2, z12_3, f12_0, f12_1, f12_2, f12_3⟩ := cz4 BKU1; obtain ⟨Ao13, co13, eo13⟩ := Kd.S_slice HOU4.out; subst eo13) | ((with_reducible refine gc 18 ?_); refine gl 29 Tryd.func18 #[.agg #[.slice Ao13 tU2.length co13, .int .i64 a2_0], .int .i64 0, .int .i64 (l0.length : Int), .int .i64 0, .int .i64 (l1.length : Int)] ?_; (with_reducible refine (slim_task_ahead.calls k _ _ tU2 a2_0 0 (l0.length : Int) 0 (l1.length : Int) tU6 _ ?side1 ?side2 A6.out).mono ?_); (case side1 => repeat (first | exact (Kd.S_reads' HOU4.out).2.2 | (with_reducible refine Kd.C_alloc ?_ _) | (with_reducible refine Kd.C_drewN ?_ _) | (with_reducible refine Kd.C_drew ?_))); (case side2 => exact (Kd.S_reads' HOU4.out).2.1); rintro e w14 ⟨vU7, rfl, ho0, hb⟩; refine ⟨_, rfl, ?_⟩; replace HOU4 := Aside0.mk (Kd.S_elder' (sl HOU4) (Kd.R_base ho0) hb); have HOU8 := Aside0.mk (Kd.R_lower ho0 (below_size bel)); replace BKU1 := bb BKU1 hb; replace HB := bs hb; (try clear hb); (try clear ho0); obtain ⟨Ao15, co15, eo15⟩ := Kd.R_slice HOU8.out; subst eo15; have pU9 : 0 ≤ ((l1.length : Int) : Int) := oda; have qU9 : (l1.length : Int) < (tU6.length : Int) := oda; obtain ⟨adU9, eU9, hxU9_0⟩ := Kd.at_int (Kd.R_reads' HOU8.out).2.2 (l1.length : Int) pU9 qU9; cases eU9; (try simp only [Go.IntWalk.toNatUp] at hxU9_0); replace pU9 := eq_true pU9; replace qU9 := eq_true qU9)); go_ret2; exact ⟨fi, bel⟩
 ·rw [if_neg c5] at H; have c5b0 := beq_eq_false_iff_ne.mpr c5; have c5b1 := bne_iff_ne.mpr c5; simp only [Option.some.injEq, Prod.mk.injEq] at H; obtain ⟨rfl, rfl⟩ := H; go_enter Tryd.func9, Tryd.ntmps9; go_wp2_with (first | ((with_reducible refine gd 5 ?_); refine bz 5 #[.int .i64 a2_0, .int .i64 a2_1, .int .i64 a2_2, .int .i64 a2_3] 24 ?_; clear HB; intro gbU1 w16 BKU1 GWU1 HB; have GEU1 := GWU1; obtain ⟨z17_0, z17_1, z17_2, z17_3, f17_0, f17_1, f17_2, f17_3⟩ := cz4 BKU1) | ((with_reducible refine gc 17 ?_); refine gl 15 Tryd.func17 #[.slice A0 l0.length c0, .slice A1 l1.length c1, .agg #[.int .i64 a2_0, .int .i64 a2_1, .int .i64 a2_2, .int .i64 a2_3]] ?_; (with_reducible refine (cost_Grid.calls k _ _ l0 _ _ l1 a2_0 a2_1 a2_2 a2_3 tU2 tU5 _ ?side1 ?side2 ?side3 ?side4 ?side5 A4.out).mono ?_); (case side1 => exact cb HR0 HB); (case side2 => exact HC0.out); (case side3 => exact cb HR1 HB); (case side4 => exact HC1.out); (case side5 => exact Utf.tabs_step2 HT.out bel); rintro e w18 ⟨vU3, rfl, ho0, hb⟩; refine ⟨_, rfl, ?_⟩; have HOU4 := Aside0.mk (Kd.S_lower ho0 (below_size bel)); replace BKU1 := bb BKU1 hb; replace HB := bs hb; (try clear hb); (try clear ho0))); go_ret2; exact ⟨fi, bel⟩
def siglumlaw11_awake.f (k : Nat)  : Option (Bool) := (slim_Least.f k (([(⟨#[116, 104, 101]⟩ : ByteArray), (⟨#[99, 97, 116]⟩ : ByteArray)] : List ByteArray)) (([(⟨#[116, 104, 101]⟩ : ByteArray), (⟨#[111, 108, 100]⟩ : ByteArray), (⟨#[114, 97, 116]⟩ : ByteArray)] : List ByteArray)) 2 1 3 0).bind fun btU7 => (if btU7.1 = 3 then (some (btU7.2 == 0)) else (some false))
set_option maxHeartbeats 8000000 in
set_option maxRecDepth 100000 in
theorem siglumlaw11_awake.calls (k : Nat)  (r : Bool) (w : World) (hT : Utf.Tabs2 w) (h : siglumlaw11_awake.f k  = some r) :
 Calls Tryd.prog 7 #[] w fun e w' => e = .returned (.bool r) ∧ Below w.heap.size w w' := by
 have hu24 := Tryd.underlying24; have HT := Aside0.mk hT; clear hT; have HB := Aside0.mk (Below.refl w.heap.size w); have H := h; clear h; unfold siglumlaw11_awake.f at H; obtain ⟨yU1, hyU1⟩ : ∃ y_ : List ByteArray, y_ = (([(⟨#[116, 104, 101]⟩ : ByteArray), (⟨#[99, 97, 116]⟩ : ByteArray)] : List ByteArray)) := ⟨_, rfl⟩
 (try rw [← hyU1] at H); (try rw [Option.bind_some] at H); (try dsimp only at H); have NyU1 := Aside0.mk hyU1; clear hyU1; obtain ⟨yU4, hyU4⟩ : ∃ y_ : List ByteArray, y_ = (([(⟨#[116, 104, 101]⟩ : ByteArray), (⟨#[111, 108, 100]⟩ : ByteArray), (⟨#[114, 97, 116]⟩ : ByteArray)] : List ByteArray)) := ⟨_, rfl⟩
 (try rw [← hyU4] at H); (try rw [Option.bind_some] at H); (try dsimp only at H); have NyU4 := Aside0.mk hyU4; clear hyU4; replace H := ob H; obtain ⟨⟨tU7, tU8⟩, A1, H⟩ := H; (try dsimp only at H)
 by_cases c2 : tU7 = 3
 ·rw [if_pos c2] at H; have c2b0 := beq_iff_eq.mpr c2; have c2b1 := bne_eq_false_iff_eq.mpr c2; clear c2; obtain rfl := Option.some.inj H; go_enter Tryd.func7, Tryd.ntmps7; go_wp2_with (first | ((with_reducible refine gd 4 ?_); refine Kd.R_lit Kd.string _ 9 ?hg (N := 4) ?hd (xs := ([(⟨#[116, 104, 101]⟩ : ByteArray), (⟨#[99, 97, 116]⟩ : ByteArray)] : List ByteArray)) (inner := [.string (⟨#[116, 104, 101]⟩ : ByteArray), .string (⟨#[99, 97, 116]⟩ : ByteArray)]) (ok := fun _ => True) (okp := fun _ => True) ?hr ?hp (fun _ hk => hk) trivial (Below.refl _ _) (Nat.le_refl _) (by simp) ?_; (case hd => rfl); (case hg => rfl); (case hr => first | (go_simp; done) | (go_simp; rfl)); (case hp => exact (Reps.one (show Kd.M Kd.string _ _ _ (⟨#[116, 104, 101]⟩ : ByteArray) [.string (⟨#[116, 104, 101]⟩ : ByteArray)] from rfl) (Reps.one (show Kd.M Kd.string _ _ _ (⟨#[99, 97, 116]⟩ : ByteArray) [.string (⟨#[99, 97, 116]⟩ : ByteArray)] from rfl) (Reps.none _ _)))); intro vU2 w3 ho4 hb hg_ hnew_; clear hg_ hnew_; (first | rw [← NyU1.out] at ho4 | (simp only [Int.reduceToNat] at ho4; rw [← NyU1.out] at ho4)); have HOU3 := Aside0.mk (Kd.R_lower ho4 (below_size bel)); replace HB := bs hb; clear hb ho4) | ((with_reducible refine gd 5 ?_); refine Kd.R_lit Kd.string _ 9 ?hg (N := 5) ?hd (xs := ([(⟨#[116, 104, 101]⟩ : ByteArray), (⟨#[111, 108, 100]⟩ : ByteArray), (⟨#[114, 97, 116]⟩ : ByteArray)] : List ByteArray)) (inner := [.string (⟨#[116, 104, 101]⟩ : ByteArray), .string (⟨#[111, 108, 100]⟩ : ByteArray), .string (⟨#[114, 97, 116]⟩ : ByteArray)]) (ok := fun _ => True) (okp := fun _ => True) ?hr ?hp (fun _ hk => hk) trivial (Below.refl _ _) (Nat.le_refl _) (by simp) ?_; (case hd => rfl); (case hg => rfl); (case hr => first | (go_simp; done) | (go_simp; rfl)); (case hp => exact (Reps.one (show Kd.M Kd.string _ _ _ (⟨#[116, 104, 101]⟩ : ByteArray) [.string (⟨#[116, 104, 101]⟩ : ByteArray)] from rfl) (Reps.one (show Kd.M Kd.string _ _ _ (⟨#[111, 108, 100]⟩ : ByteArray) [.string (⟨#[111, 108, 100]⟩ : ByteArray)] from rfl) (Reps.one (show Kd.M Kd.string _ _ _ (⟨#[114, 97, 116]⟩ : ByteArray) [.string (⟨#[114, 97, 116]⟩ : ByteArray)] from rfl) (Reps.none _ _))))); intro vU5 w5 ho6 hb hg_ hnew_; clear hg_ hnew_; (first | rw [← NyU4.out] at ho6 | (simp only [Int.reduceToNat] at ho6; rw [← NyU4.out] at ho6)); have n0_ := Aside0.mk (Kd.R_elder' (rl HOU3) (Kd.R_base ho6) hb); have n1_ := Aside0.mk (Kd.R_lower (Kd.R_new' ho6 (Kd.R_lt (rl HOU3))) (below_size bel)); have n2_ := bs hb; clear HOU3; clear HB; have HOU3 := n0_; have HOU6 := n1_; have HB := n2_; clear n0_ n1_ n2_; clear hb ho6; obtain ⟨Ao7, co7, eo7⟩ := Kd.R_slice HOU3.out; subst eo7; obtain ⟨Ao8, co8, eo8⟩ := Kd.R_slice HOU6.out; subst eo8) | ((with_reducible refine gc 9 ?_); refine gl 7 Tryd.func9 #[.slice Ao7 yU1.length co7, .slice Ao8 yU4.length co8, .agg #[.int .i64 2, .int .i64 1, .int .i64 3, .int .i64 0]] ?_; (with_reducible refine (slim_Least.calls k _ _ yU1 _ _ yU4 2 1 3 0 tU7 tU8 _ ?side1 ?side2 ?side3 ?side4 ?side5 A1.out).mono ?_); (case side1 => repeat (first | exact (Kd.R_reads' HOU3.out).2.2 | (with_reducible refine Kd.C_alloc ?_ _) | (with_reducible refine Kd.C_drewN ?_ _) | (with_reducible refine Kd.C_drew ?_))); (case side2 => exact (Kd.R_reads' HOU3.out).2.1); (case side3 => repeat (first | exact (Kd.R_reads' HOU6.out).2.2 | (with_reducible refine Kd.C_alloc ?_ _) | (with_reducible refine Kd.C_drewN ?_ _) | (with_reducible refine Kd.C_drew ?_))); (case side4 => exact (Kd.R_reads' HOU6.out).2.1); (case side5 => exact Utf.tabs_step2 HT.out bel); rintro e w9 ⟨rfl, hb⟩; refine ⟨_, rfl, ?_⟩; replace HOU3 := Aside0.mk (Kd.R_below (rl HOU3) hb); replace HOU6 := Aside0.mk (Kd.R_below (rl HOU6) hb); replace HB := bs hb; (try clear hb)))
  go_ret; exact ⟨fi, bel⟩
 ·rw [if_neg c2] at H; have c2b0 := beq_eq_false_iff_ne.mpr c2; have c2b1 := bne_iff_ne.mpr c2; obtain rfl := Option.some.inj H; go_enter Tryd.func7, Tryd.ntmps7; go_wp2_with (first | ((with_reducible refine gd 4 ?_); refine Kd.R_lit Kd.string _ 9 ?hg (N := 4) ?hd (xs := ([(⟨#[116, 104, 101]⟩ : ByteArray), (⟨#[99, 97, 116]⟩ : ByteArray)] : List ByteArray)) (inner := [.string (⟨#[116, 104, 101]⟩ : ByteArray), .string (⟨#[99, 97, 116]⟩ : ByteArray)]) (ok := fun _ => True) (okp := fun _ => True) ?hr ?hp (fun _ hk => hk) trivial (Below.refl _ _) (Nat.le_refl _) (by simp) ?_; (case hd => rfl); (case hg => rfl); (case hr => first | (go_simp; done) | (go_simp; rfl)); (case hp => exact (Reps.one (show Kd.M Kd.string _ _ _ (⟨#[116, 104, 101]⟩ : ByteArray) [.string (⟨#[116, 104, 101]⟩ : ByteArray)] from rfl) (Reps.one (show Kd.M Kd.string _ _ _ (⟨#[99, 97, 116]⟩ : ByteArray) [.string (⟨#[99, 97, 116]⟩ : ByteArray)] from rfl) (Reps.none _ _)))); intro vU2 w10 ho11 hb hg_ hnew_; clear hg_ hnew_; (first | rw [← NyU1.out] at ho11 | (simp only [Int.reduceToNat] at ho11; rw [← NyU1.out] at ho11)); have HOU3 := Aside0.mk (Kd.R_lower ho11 (below_size bel)); replace HB := bs hb; clear hb ho11) | ((with_reducible refine gd 5 ?_); refine Kd.R_lit Kd.string _ 9 ?hg (N := 5) ?hd (xs := ([(⟨#[116, 104, 101]⟩ : ByteArray), (⟨#[111, 108, 100]⟩ : ByteArray), (⟨#[114, 97, 116]⟩ : ByteArray)] : List ByteArray)) (inner := [.string (⟨#[116, 104, 101]⟩ : ByteArray), .string (⟨#[111, 108, 100]⟩ : ByteArray), .string (⟨#[114, 97, 116]⟩ : ByteArray)]) (ok := fun _ => True) (okp := fun _ => True) ?hr ?hp (fun _ hk => hk) trivial (Below.refl _ _) (Nat.le_refl _) (by simp) ?_; (case hd => rfl); (case hg => rfl); (case hr => first | (go_simp; done) | (go_simp; rfl)); (case hp => exact (Reps.one (show Kd.M Kd.string _ _ _ (⟨#[116, 104, 101]⟩ : ByteArray) [.string (⟨#[116, 104, 101]⟩ : ByteArray)] from rfl) (Reps.one (show Kd.M Kd.string _ _ _ (⟨#[111, 108, 100]⟩ : ByteArray) [.string (⟨#[111, 108, 100]⟩ : ByteArray)] from rfl) (Reps.one (show Kd.M Kd.string _ _ _ (⟨#[114, 97, 116]⟩ : ByteArray) [.string (⟨#[114, 97, 116]⟩ : ByteArray)] from rfl) (Reps.none _ _))))); intro vU5 w12 ho13 hb hg_ hnew_; clear hg_ hnew_; (first | rw [← NyU4.out] at ho13 | (simp only [Int.reduceToNat] at ho13; rw [← NyU4.out] at ho13)); have n0_ := Aside0.mk (Kd.R_elder' (rl HOU3) (Kd.R_base ho13) hb); have n1_ := Aside0.mk (Kd.R_lower (Kd.R_new' ho13 (Kd.R_lt (rl HOU3))) (below_size bel)); have n2_ := bs hb; clear HOU3; clear HB; have HOU3 := n0_; have HOU6 := n1_; have HB := n2_; clear n0_ n1_ n2_; clear hb ho13; obtain ⟨Ao14, co14, eo14⟩ := Kd.R_slice HOU3.out; subst eo14; obtain ⟨Ao15, co15, eo15⟩ := Kd.R_slice HOU6.out; subst eo15) | ((with_reducible refine gc 9 ?_); refine gl 7 Tryd.func9 #[.slice Ao14 yU1.length co14, .slice Ao15 yU4.length co15, .agg #[.int .i64 2, .int .i64 1, .int .i64 3, .int .i64 0]] ?_; (with_reducible refine (slim_Least.calls k _ _ yU1 _ _ yU4 2 1 3 0 tU7 tU8 _ ?side1 ?side2 ?side3 ?side4 ?side5 A1.out).mono ?_); (case side1 => repeat (first | exact (Kd.R_reads' HOU3.out).2.2 | (with_reducible refine Kd.C_alloc ?_ _) | (with_reducible refine Kd.C_drewN ?_ _) | (with_reducible refine Kd.C_drew ?_))); (case side2 => exact (Kd.R_reads' HOU3.out).2.1); (case side3 => repeat (first | exact (Kd.R_reads' HOU6.out).2.2 | (with_reducible refine Kd.C_alloc ?_ _) | (with_reducible refine Kd.C_drewN ?_ _) | (with_reducible refine Kd.C_drew ?_))); (case side4 => exact (Kd.R_reads' HOU6.out).2.1); (case side5 => exact Utf.tabs_step2 HT.out bel); rintro e w16 ⟨rfl, hb⟩; refine ⟨_, rfl, ?_⟩; replace HOU3 := Aside0.mk (Kd.R_below (rl HOU3) hb); replace HOU6 := Aside0.mk (Kd.R_below (rl HOU6) hb); replace HB := bs hb; (try clear hb)))
  go_ret; exact ⟨fi, bel⟩
def siglumref09_Little.l0 : Nat → List Int → Int → Int → Int → Option (Bool)
 | 0, _, _, _, _ => none
 | k + 1, x0, x3, x4, x5 => if x5 < (x0.length : Int) then (if x3 > 0 then (if 0 ≤ x5 then (if x3 = 0 then (none) else (if (rd x0 x5) > (wrap64 (Int.tdiv x4 x3)) then (some false) else (siglumref09_Little.l0 k x0 (wrap64 (x3 + (rd x0 x5))) (wrap64 (x4 - (wrap64 (x3 * (rd x0 x5))))) (wrap64 (x5 + 1))))) else (none)) else (if 0 ≤ x5 then (siglumref09_Little.l0 k x0 (wrap64 (x3 + (rd x0 x5))) (wrap64 (x4 - (wrap64 (x3 * (rd x0 x5))))) (wrap64 (x5 + 1))) else (none))) else (some true)
def siglumref09_Little.f (k : Nat) (l0 : List Int) : Option (Bool) := siglumref09_Little.l0 k l0 0 4000000 0
set_option maxHeartbeats 8000000 in
set_option maxRecDepth 100000 in
theorem siglumref09_Little.calls (k : Nat) (A0 : Option Addr) (c0 : Nat) (l0 : List Int) (r : Bool) (w : World) (hr0 : Kd.C (Kd.int .i64) w A0 l0.length l0) (hc0 : l0.length ≤ c0) (h : siglumref09_Little.f k l0 = some r) :
 Calls Tryd.prog 15 #[.slice A0 l0.length c0] w fun e w' => e = .returned (.bool r) ∧ Drawn0 w w' := by
 have HR0 := Aside0.mk hr0; have HC0 := Aside0.mk hc0; clear hr0 hc0; have H := h; clear h; unfold siglumref09_Little.f at H; have H' := Aside0.mk H; clear H; go_enter Tryd.func15, Tryd.ntmps15; go_wp2
 repeat (go_quiet (fail); try go_wp2)
 go_loopg [3, 4, 5] k (fun kq v3 v4 v5 w' => ∃ (x3_1 : Int) (x4_1 : Int) (x5_1 : Int), v3 = .int .i64 x3_1 ∧ v4 = .int .i64 x4_1 ∧ v5 = .int .i64 x5_1 ∧ Aside0 (siglumref09_Little.l0 kq l0 x3_1 x4_1 x5_1 = some r) ∧ Aside0 (kq ≤ k) ∧ Drawn0 w w')
 case atStart => exact ⟨(0), (4000000), (0), si, si, si, H', ⟨Nat.le_refl _⟩, dr⟩
 case round =>
  clear H'; (try clear c1); obtain ⟨x3_1, x4_1, x5_1, rfl, rfl, rfl, HA, HK1, ⟨m1, rfl⟩⟩ := hrel
  cases gk with
  | zero => exact absurd HA.out (by simp [siglumref09_Little.l0])
  | succ k1 =>
   have H := HA.out; clear HA; simp only [siglumref09_Little.l0] at H
   by_cases c2 : x5_1 < (l0.length : Int)
   ·rw [if_pos c2] at H; have c2b0 := decide_eq_true c2; clear c2
    by_cases c3 : x3_1 > 0
    ·rw [if_pos c3] at H; have c3b0 : decide (0 < x3_1) = true := decide_eq_true c3; clear c3; replace H := dt H; obtain ⟨c4b0, H⟩ := H
     by_cases c5 : x3_1 = 0
     ·rw [if_pos c5] at H; exact absurd H (by simp)
     ·rw [if_neg c5] at H; have c5b0 := beq_eq_false_iff_ne.mpr c5; have c5b1 := bne_iff_ne.mpr c5
      by_cases c6 : (rd l0 x5_1) > (wrap64 (Int.tdiv x4_1 x3_1))
      ·rw [if_pos c6] at H; have c6b0 : decide ((wrap64 (Int.tdiv x4_1 x3_1)) < (rd l0 x5_1)) = true := decide_eq_true c6; clear c6; obtain rfl := Option.some.inj H; have pU1 : 0 ≤ (x5_1 : Int) := oda; have qU1 : x5_1 < (l0.length : Int) := oda; obtain ⟨adU1, eU1, hxU1_0⟩ := Kd.at_int HR0.out x5_1 pU1 qU1; cases eU1; replace pU1 := eq_true pU1; replace qU1 := eq_true qU1; go_wp2
       repeat (go_quiet (fail); try go_wp2)
       go_ret; exact ⟨si, dr⟩
      ·rw [if_neg c6] at H; have c6b0 : decide ((wrap64 (Int.tdiv x4_1 x3_1)) < (rd l0 x5_1)) = false := decide_eq_false c6; clear c6; have H' := Aside0.mk H; clear H; have pU1 : 0 ≤ (x5_1 : Int) := oda; have qU1 : x5_1 < (l0.length : Int) := oda; obtain ⟨adU1, eU1, hxU1_0⟩ := Kd.at_int HR0.out x5_1 pU1 qU1; cases eU1; replace pU1 := eq_true pU1; replace qU1 := eq_true qU1; have pU2 : 0 ≤ (x5_1 : Int) := oda; have qU2 : x5_1 < (l0.length : Int) := oda; obtain ⟨adU2, eU2, hxU2_0⟩ := Kd.at_int HR0.out x5_1 pU2 qU2; obtain rfl : adU1 = adU2 := (by injection eU2); replace pU2 := eq_true pU2; replace qU2 := eq_true qU2; have pU3 : 0 ≤ (x5_1 : Int) := oda; have qU3 : x5_1 < (l0.length : Int) := oda; obtain ⟨adU3, eU3, hxU3_0⟩ := Kd.at_int HR0.out x5_1 pU3 qU3; obtain rfl : adU1 = adU3 := (by injection eU3); replace pU3 := eq_true pU3; replace qU3 := eq_true qU3; go_wp2
       repeat (go_quiet (fail); try go_wp2)
       go_roundg k1
       case measure => have := HK1.out; omega
       case rel => exact ⟨(wrap64 (x3_1 + (rd l0 x5_1))), (wrap64 (x4_1 - (wrap64 (x3_1 * (rd l0 x5_1))))), (wrap64 (x5_1 + 1)), si, si, si, H', ⟨by have := HK1.out; omega⟩, dr⟩
    ·rw [if_neg c3] at H; have c3b0 : decide (0 < x3_1) = false := decide_eq_false c3; clear c3; replace H := dt H; obtain ⟨c7b0, H⟩ := H; have H' := Aside0.mk H; clear H; have pU4 : 0 ≤ (x5_1 : Int) := oda; have qU4 : x5_1 < (l0.length : Int) := oda; obtain ⟨adU4, eU4, hxU4_0⟩ := Kd.at_int HR0.out x5_1 pU4 qU4; cases eU4; replace pU4 := eq_true pU4; replace qU4 := eq_true qU4; have pU5 : 0 ≤ (x5_1 : Int) := oda; have qU5 : x5_1 < (l0.length : Int) := oda; obtain ⟨adU5, eU5, hxU5_0⟩ := Kd.at_int HR0.out x5_1 pU5 qU5; obtain rfl : adU4 = adU5 := (by injection eU5); replace pU5 := eq_true pU5; replace qU5 := eq_true qU5; go_wp2
     repeat (go_quiet (fail); try go_wp2)
     go_roundg k1
     case measure => have := HK1.out; omega
     case rel => exact ⟨(wrap64 (x3_1 + (rd l0 x5_1))), (wrap64 (x4_1 - (wrap64 (x3_1 * (rd l0 x5_1))))), (wrap64 (x5_1 + 1)), si, si, si, H', ⟨by have := HK1.out; omega⟩, dr⟩
   ·rw [if_neg c2] at H; have c2b0 : decide (x5_1 < (l0.length : Int)) = false := decide_eq_false c2; clear c2; obtain rfl := Option.some.inj H; go_wp2
    repeat (go_quiet (fail); try go_wp2)
    go_ret; exact ⟨si, dr⟩
def siglumref09_Weight.l0 : Nat → List ByteArray → Int → Int → Option (Int)
 | 0, _, _, _ => none
 | k + 1, x0, x3, x4 => if x4 < (x0.length : Int) then (if 0 ≤ x4 then (siglumref09_Weight.l0 k x0 (wrap64 (x3 + ((rdOf ByteArray.empty x0 x4).size : Int))) (wrap64 (x4 + 1))) else (none)) else (some x3)
def siglumref09_Weight.f (k : Nat) (l0 : List ByteArray) : Option (Int) := siglumref09_Weight.l0 k l0 (l0.length : Int) 0
set_option maxHeartbeats 8000000 in
set_option maxRecDepth 100000 in
theorem siglumref09_Weight.calls (k : Nat) (A0 : Option Addr) (c0 : Nat) (l0 : List ByteArray) (r : Int) (w : World) (hr0 : Kd.C Kd.string w A0 l0.length l0) (hc0 : l0.length ≤ c0) (h : siglumref09_Weight.f k l0 = some r) :
 Calls Tryd.prog 16 #[.slice A0 l0.length c0] w fun e w' => e = .returned (.int .i64 r) ∧ Drawn0 w w' := by
 have HR0 := Aside0.mk hr0; have HC0 := Aside0.mk hc0; clear hr0 hc0; have H := h; clear h; unfold siglumref09_Weight.f at H; have H' := Aside0.mk H; clear H; go_enter Tryd.func16, Tryd.ntmps16; go_wp2
 go_loopg [3, 4] k (fun kq v3 v4 w' => ∃ (x3_1 : Int) (x4_1 : Int), v3 = .int .i64 x3_1 ∧ v4 = .int .i64 x4_1 ∧ Aside0 (siglumref09_Weight.l0 kq l0 x3_1 x4_1 = some r) ∧ Aside0 (kq ≤ k) ∧ Drawn0 w w')
 case atStart => exact ⟨((l0.length : Int)), (0), si, si, H', ⟨Nat.le_refl _⟩, dr⟩
 case round =>
  clear H'; (try clear c1); obtain ⟨x3_1, x4_1, rfl, rfl, HA, HK1, ⟨m1, rfl⟩⟩ := hrel
  cases gk with
  | zero => exact absurd HA.out (by simp [siglumref09_Weight.l0])
  | succ k1 =>
   have H := HA.out; clear HA; simp only [siglumref09_Weight.l0] at H
   by_cases c2 : x4_1 < (l0.length : Int)
   ·rw [if_pos c2] at H; have c2b0 := decide_eq_true c2; clear c2; replace H := dt H; obtain ⟨c3b0, H⟩ := H; have H' := Aside0.mk H; clear H; have pU1 : 0 ≤ (x4_1 : Int) := oda; have qU1 : x4_1 < (l0.length : Int) := oda; obtain ⟨adU1, eU1, hxU1_0⟩ := Kd.at_string HR0.out x4_1 pU1 qU1; cases eU1; replace pU1 := eq_true pU1; replace qU1 := eq_true qU1; go_wp2
    go_roundg k1
    case measure => have := HK1.out; omega
    case rel => exact ⟨(wrap64 (x3_1 + ((rdOf ByteArray.empty l0 x4_1).size : Int))), (wrap64 (x4_1 + 1)), si, si, H', ⟨by have := HK1.out; omega⟩, dr⟩
   ·rw [if_neg c2] at H; have c2b0 : decide (x4_1 < (l0.length : Int)) = false := decide_eq_false c2; clear c2; obtain rfl := Option.some.inj H; go_wp2; go_ret; exact ⟨si, dr⟩
def siglumref09_Light.f (k : Nat) (l0 : List ByteArray) (l1 : List ByteArray) : Option (Bool) := if (l0.length : Int) > 1024 then (some true) else (if (l1.length : Int) > 1024 then (some true) else ((siglumref09_Weight.f k l0).bind fun tU1 => ((siglumref09_Weight.f k l1).bind fun tU2 => ((siglumref09_Little.f k (([tU1, tU2] : List Int))).bind fun tU6 => (some tU6)))))
set_option maxHeartbeats 8000000 in
set_option maxRecDepth 100000 in
theorem siglumref09_Light.calls (k : Nat) (A0 : Option Addr) (c0 : Nat) (l0 : List ByteArray) (A1 : Option Addr) (c1 : Nat) (l1 : List ByteArray) (r : Bool) (w : World) (hr0 : Kd.C Kd.string w A0 l0.length l0) (hc0 : l0.length ≤ c0) (hr1 : Kd.C Kd.string w A1 l1.length l1) (hc1 : l1.length ≤ c1) (h : siglumref09_Light.f k l0 l1 = some r) :
 Calls Tryd.prog 8 #[.slice A0 l0.length c0, .slice A1 l1.length c1] w fun e w' => e = .returned (.bool r) ∧ Below w.heap.size w w' := by
 have HR0 := Aside0.mk hr0; have HC0 := Aside0.mk hc0; clear hr0 hc0; have HR1 := Aside0.mk hr1; have HC1 := Aside0.mk hc1; clear hr1 hc1; have HB := Aside0.mk (Below.refl w.heap.size w); have H := h; clear h; unfold siglumref09_Light.f at H
 by_cases c3 : (l0.length : Int) > 1024
 ·rw [if_pos c3] at H; have c3b0 : decide (1024 < (l0.length : Int)) = true := decide_eq_true c3; have c3b1 : decide (1024 < l0.length) = true := decide_eq_true (by omega); clear c3; obtain rfl := Option.some.inj H; go_enter Tryd.func8, Tryd.ntmps8; go_wp2; go_ret; exact ⟨fi, bel⟩
 ·rw [if_neg c3] at H; have c3b0 : decide (1024 < (l0.length : Int)) = false := decide_eq_false c3; have c3b1 : decide (1024 < l0.length) = false := decide_eq_false (by omega); clear c3
  by_cases c4 : (l1.length : Int) > 1024
  ·rw [if_pos c4] at H; have c4b0 : decide (1024 < (l1.length : Int)) = true := decide_eq_true c4; have c4b1 : decide (1024 < l1.length) = true := decide_eq_true (by omega); clear c4; obtain rfl := Option.some.inj H; go_enter Tryd.func8, Tryd.ntmps8; go_wp2; go_ret; exact ⟨fi, bel⟩
  ·rw [if_neg c4] at H; have c4b0 : decide (1024 < (l1.length : Int)) = false := decide_eq_false c4; have c4b1 : decide (1024 < l1.length) = false := decide_eq_false (by omega); clear c4; replace H := ob H; obtain ⟨tU1, A5, H⟩ := H; (try dsimp only at H); replace H := ob H; obtain ⟨tU2, A6, H⟩ := H; (try dsimp only at H); obtain ⟨yU3, hyU3⟩ : ∃ y_ : List Int, y_ = (([tU1, tU2] : List Int)) := ⟨_, rfl⟩
   (try rw [← hyU3] at H); (try rw [Option.bind_some] at H); (try dsimp only at H); have NyU3 := Aside0.mk hyU3; clear hyU3; replace H := ob H; obtain ⟨tU6, A7, H⟩ := H; (try dsimp only at H); obtain rfl := Option.some.inj H; go_enter Tryd.func8, Tryd.ntmps8; go_wp2_with (first | (go_at_call 16; (with_reducible refine (siglumref09_Weight.calls k _ _ l0 tU1 _ ?side1 ?side2 A5.out).mono ?_); (case side1 => repeat (first | exact HR0.out | (with_reducible refine Kd.C_alloc ?_ _) | (with_reducible refine Kd.C_drewN ?_ _) | (with_reducible refine Kd.C_drew ?_))); (case side2 => exact HC0.out); rintro e w' ⟨rfl, ⟨nd, rfl⟩⟩) | (go_at_call 16; (with_reducible refine (siglumref09_Weight.calls k _ _ l1 tU2 _ ?side1 ?side2 A6.out).mono ?_); (case side1 => repeat (first | exact HR1.out | (with_reducible refine Kd.C_alloc ?_ _) | (with_reducible refine Kd.C_drewN ?_ _) | (with_reducible refine Kd.C_drew ?_))); (case side2 => exact HC1.out); rintro e w' ⟨rfl, ⟨nd, rfl⟩⟩) | ((with_reducible refine gd 18 ?_); (try (refine gate_guard (by rfl) ?_; dsimp only)); refine Kd.R_lit (Kd.int .i64) _ 3 ?hg (N := 18) ?hd (xs := ([tU1, tU2] : List Int)) (inner := [.int .i64 tU1, .int .i64 tU2]) (ok := fun _ => True) (okp := fun _ => True) ?hr ?hp (fun _ hk => hk) trivial (Below.refl _ _) (Nat.le_refl _) (by simp) ?_; (case hd => rfl); (case hg => rfl); (case hr => first | (go_simp; done) | (go_simp; rfl)); (case hp => exact (Reps.one (show Kd.M (Kd.int .i64) _ _ _ tU1 [.int .i64 tU1] from rfl) (Reps.one (show Kd.M (Kd.int .i64) _ _ _ tU2 [.int .i64 tU2] from rfl) (Reps.none _ _)))); intro vU4 w8 ho9 hb hg_ hnew_; clear hg_ hnew_; (first | rw [← NyU3.out] at ho9 | (simp only [Int.reduceToNat] at ho9; rw [← NyU3.out] at ho9)); have HOU5 := Aside0.mk (Kd.R_lower ho9 (below_size bel)); replace HB := bs hb; clear hb ho9; obtain ⟨Ao10, co10, eo10⟩ := Kd.R_slice HOU5.out; subst eo10) | (go_at_call 15; (with_reducible refine (siglumref09_Little.calls k _ _ yU3 tU6 _ ?side1 ?side2 A7.out).mono ?_); (case side1 => repeat (first | exact (Kd.R_reads' HOU5.out).2.2 | (with_reducible refine Kd.C_alloc ?_ _) | (with_reducible refine Kd.C_drewN ?_ _) | (with_reducible refine Kd.C_drew ?_))); (case side2 => exact (Kd.R_reads' HOU5.out).2.1); rintro e w' ⟨rfl, ⟨nd, rfl⟩⟩)); go_ret; exact ⟨fi, bel⟩
def siglumref01_between.f (a0 : Int) (a1 : Int) (a2 : Int) : Option (Bool) := if a0 ≥ a1 then (some (decide (a0 ≤ a2))) else (some false)
set_option maxHeartbeats 8000000 in
set_option maxRecDepth 100000 in
theorem siglumref01_between.calls (a0 : Int) (a1 : Int) (a2 : Int) (r : Bool) (w : World) (h : siglumref01_between.f a0 a1 a2 = some r) :
    Calls Tryd.prog 81 #[.int .u8 a0, .int .u8 a1, .int .u8 a2] w fun e w' => e = .returned (.bool r) ∧ Drawn0 w w' := by
  have H : (if a0 ≥ a1 then (some (decide (a0 ≤ a2))) else (some false)) = some r := h; clear h
  by_cases c4 : a0 ≥ a1
  · rw [if_pos c4] at H
    have c4b0 : decide (a1 ≤ a0) = true := decide_eq_true c4; clear c4; obtain rfl := Option.some.inj H; go_enter Tryd.func81, Tryd.ntmps81; go_wp2; go_ret; exact ⟨si, dr⟩
  · rw [if_neg c4] at H
    have c4b0 : decide (a1 ≤ a0) = false := decide_eq_false c4; clear c4; obtain rfl := Option.some.inj H; go_enter Tryd.func81, Tryd.ntmps81; go_wp2; go_ret; exact ⟨si, dr⟩
end Go.Proofs.YtbpinnanfanaaaaDoor.L
namespace Go.Proofs.YtbpinnanfanaaaaDoor.L
open Go.RowKit Go.Proofs.YtbpinnanfanaaaaDoorW.PrintWords Go.Proofs.YtbpinnanfanaaaaDoorW.PrintLast Go.Proofs.YtbpinnanfanaaaaDoorW.PrintMore
attribute [local go_sem] min2_int min_two min_three
set_option linter.unusedVariables false
set_option linter.unusedSimpArgs false
def siglumlaw11_SlimMore.j0 : Nat → List ByteArray → List ByteArray → ByteArray → Bool → Int → Int → Int → Int → Option (Bool)
 | 0, _, _, _, _, _, _, _, _ => none
 | k + 1, x3, x4, x5, x36, xU3U0, xU3U1, xU3U2, xU3U3 => if x36 = true then (some true) else ((slim_Least.f k x3 x4 xU3U0 xU3U1 xU3U2 xU3U3).bind fun btU5 => (if ([] : List ByteArray).length + x3.length < 8796093022208 then ((some (([] : List ByteArray) ++ x3 : List ByteArray)).bind fun yU7 => (if yU7.length < 8796093022208 then ((slim_Least.f k (yU7 ++ [x5]) x4 xU3U0 xU3U1 xU3U2 xU3U3).bind fun btU13 => (if btU5.2 = 0 then (if btU13.2 = 0 then (if (wrap64 (btU13.1 - btU5.1)) ≤ xU3U0 then (some (decide ((wrap64 (-(wrap64 (btU13.1 - btU5.1)))) ≤ xU3U0))) else (some false)) else (some true)) else (some true))) else (none))) else (none)))
def siglumlaw11_SlimMore.f (k : Nat) (l0_0 : List ByteArray) (l0_1 : List ByteArray) (a0_2 : ByteArray) (a0_3 : Int) (a0_4 : Int) (a0_5 : Int) (a0_6 : Int) : Option (Bool) := (siglumlaw11_awake.f k).bind fun tU3 => (if tU3 = true then (if (l0_0.length : Int) ≥ 1024 then (siglumlaw11_SlimMore.j0 k l0_0 l0_1 a0_2 true a0_3 a0_4 a0_5 a0_6) else ((siglumref09_Light.f k l0_0 l0_1).bind fun tU4 => (if tU4 = true then (siglumlaw11_SlimMore.j0 k l0_0 l0_1 a0_2 (decide ((a0_2.size : Int) > 4000)) a0_3 a0_4 a0_5 a0_6) else (siglumlaw11_SlimMore.j0 k l0_0 l0_1 a0_2 true a0_3 a0_4 a0_5 a0_6)))) else (some false))
def siglumlaw11_SlimMore.T1 : Bool × List (List Nat × List Nat) := (true,[([],[]),([0],[0]),([],[]),([2],[2]),([],[]),([4],[4]),([],[]),([6],[6]),([],[]),([1,0,1,8],[1]),([3,9,0,1,2,3,8,9],[3]),([5,10,0,1,2,3,4,5,8,9,10],[5]),([8,7,11,0,1,2,3,4,5,6,7,8,9,10,11],[7,8])])
def siglumlaw11_SlimMore.B1 : List Nat := [0,1,0,4,0,16,0,64,0,259,783,1855,4095]
end Go.Proofs.YtbpinnanfanaaaaDoor.L
/-
  How an argument's reading as data gives the kinds that the print speaks of: integers, bools, strings, slices, structs of one-cell fields; and that the bulk of what is read is no more than the data's bulk.
-/
namespace Go.Proofs.YtbpinnanfanaaaaDoor.Op
open Go.RowKit Go.ChangeShapes Go.WideShapes Go.Deep Go.Proofs.YtbpinnanfanaaaaDoorW.PrintWords
theorem bulk_pos {H : Type} (d : DataW H) : 1 ≤ Rows.uptoBulk d := by
  cases d with
  | lit l => cases l <;> simp [Rows.uptoBulk]
  | nil => simp [Rows.uptoBulk]
  | ptr d => simp [Rows.uptoBulk]
  | slice elems spare => simp [Rows.uptoBulk]
  | agg parts => simp [Rows.uptoBulk]
  | iface t d => simp [Rows.uptoBulk]
  | map entries => simp [Rows.uptoBulk]
  | held h => simp [Rows.uptoBulk]
theorem bulk_append {H : Type} (l r : List (DataW H)) : Rows.uptoBulkAll (l ++ r) = Rows.uptoBulkAll l + Rows.uptoBulkAll r := by
  induction l with
  | nil => simp [Rows.uptoBulkAll]
  | cons x l ih => simp only [List.cons_append, Rows.uptoBulkAll, ih]; omega
theorem bulk_bound {H : Type} {l : List (DataW H)} (hk : Rows.uptoSmall H l = true) : Rows.uptoBulkAll l ≤ 1048576 := of_decide_eq_true hk
def Opens (P : Program) {α : Type} (t : TypeId) (d : Kd α) (good : α → Prop) (bulk : α → Nat) : Prop :=
  ∀ {H : Type} {enc : TypeId × Value → H} {w : World} {base : Nat} {spare : Nat → Bool} {held : Bool} {fuel : Nat} {cs : List Value} {x : DataW H × List MemPlace},
    DataW.trod enc P w base spare held fuel t cs = some x → ∃ a : α, d.K w a cs ∧ good a ∧ bulk a ≤ Rows.uptoBulk x.1
variable {P : Program}
theorem opens_int {t : TypeId} {k : IntKind} (ht : P.underlying t = some (.int k)) : Opens P t (Kd.int k) (fun n => (Lit.int k n).wf = true) (fun _ => 1) := by
  intro H enc w base spare held fuel cs x h; obtain ⟨n, rfl, rfl, hw⟩ := DataW.trod_int ht h; exact ⟨n, rfl, hw, bulk_pos _⟩
theorem opens_string {t : TypeId} (ht : P.underlying t = some .string) : Opens P t Kd.string (fun s => s.size ≤ maxLen) (fun s => s.size + 1) := by
  intro H enc w base spare held fuel cs x h; obtain ⟨n, rfl, rfl, hw⟩ := DataW.trod_string ht h; refine ⟨n, rfl, hw, ?_⟩
  simp [Rows.uptoBulk]
theorem opens_slice {α : Type} {t e : TypeId} {d : Kd α} {good : α → Prop} {bulk : α → Nat} (ht : P.underlying t = some (.slice e)) (hc : P.cellsOf e = d.sz) (h : Opens P e d good bulk) :
    Opens P t (Kd.slice e d) (fun l => (∀ x ∈ l, good x) ∧ l.length ≤ maxLen) (fun l => (l.map bulk).sum + 1) := by
  intro H enc w base spare held fuel cs x hx
  rcases open_slice ht hx with ⟨rfl, rfl⟩ | ⟨a, len, cap, m, n, D, Pl, rfl, hb, hl, hm, hmm, rfl, hi⟩
  · exact ⟨[], ⟨none, 0, rfl, Nat.le_refl _, rfl, Nat.zero_le _, fun h0 => absurd h0 (Nat.lt_irrefl _)⟩, ⟨fun _ hx => absurd hx (List.not_mem_nil), Nat.zero_le _⟩, bulk_pos _⟩
  · have hlm : len ≤ m := by rw [hmm]; split <;> omega
    have key : ∀ j, j ≤ len → ∃ l : List α, l.length = j ∧ (∀ i p, l[i]? = some p → ∃ c, w.cells? base (a.add (i * P.cellsOf e)) (P.cellsOf e) = some c ∧ d.K w p c) ∧ (∀ x ∈ l, good x) ∧ (l.map bulk).sum ≤ Rows.uptoBulkAll ((List.range j).map D) := by
      intro j
      induction j with
      | zero => intro _; exact ⟨[], rfl, fun i p hp => by simp at hp, fun _ hx => absurd hx (List.not_mem_nil), by simp⟩
      | succ j ih =>
        intro hj; obtain ⟨l, hll, h1, h2, h3⟩ := ih (by omega); obtain ⟨cs', hcs, htr⟩ := hi j (by omega); obtain ⟨p, hK, hg, hbk⟩ := h htr; refine ⟨l ++ [p], by simp [hll], fun i q hq => ?_, fun x hx => ?_, ?_⟩
        · rcases Nat.lt_trichotomy i l.length with hlt | heq | hgt
          · rw [List.getElem?_append_left hlt] at hq
            exact h1 i q hq
          · subst heq
            simp at hq
            subst hq; rw [hll]; exact ⟨cs', hcs, hK⟩
          · rw [List.getElem?_eq_none (by simp; omega)] at hq
            cases hq
        · rcases List.mem_append.1 hx with hx | hx
          · exact h2 x hx
          · rw [List.mem_singleton.1 hx]; exact hg
        · rw [List.map_append, List.sum_append, List.range_succ, List.map_append, bulk_append]
          simp only [List.map_cons, List.map_nil, List.sum_cons, List.sum_nil, Rows.uptoBulkAll]; have hbk' : bulk p ≤ Rows.uptoBulk (D j) := hbk
          omega
    obtain ⟨l, hll, h1, h2, h3⟩ := key len (Nat.le_refl _); refine ⟨l, ⟨some a, cap, by rw [hll], by omega, rfl, by rw [hll]; unfold maxLen at hm; omega, fun _ => ⟨a, rfl, fun j p hp => ?_⟩⟩, ⟨h2, by rw [hll]; omega⟩, ?_⟩
    · obtain ⟨c, hcc, hK⟩ := h1 j p hp
      obtain ⟨_, hcl, hat⟩ := World.cells?_some hcc; refine ⟨c, by rw [hcl, hc], hK, fun i u hu => ?_⟩
      have hil : i < P.cellsOf e := by
        rw [← hcl]; exact (List.getElem?_eq_some_iff.1 hu).1
      rw [← hc, ← Go.Deep.add_add, hat i hil, hu]
    · show (l.map bulk).sum + 1 ≤ Rows.uptoBulkAll ((List.range len).map D) + Rows.uptoBulkAll _ + 1
      omega
theorem open_fields {H : Type} {enc : TypeId × Value → H} {w : World} {base : Nat} {spare : Nat → Bool} {held : Bool} {t : TypeId} {fs : Array Field} {fuel : Nat} {cs : List Value} {x : DataW H × List MemPlace} (he : P.underlying t = some (.struct fs))
    (hone : oneCellFields P fs = true) (hC : P.cellsOf t = fs.size) (h : DataW.trod enc P w base spare held fuel t cs = some x) :
    ∃ (ys : List (DataW H × List MemPlace)) (n : Nat), x.1 = .agg (ys.map (·.1)) ∧ ys.length = fs.size ∧ cs.length = fs.size ∧
      ∀ (j : Nat) (f : Field), fs[j]? = some f → ∃ (v : Value) (y : DataW H × List MemPlace), cs[j]? = some v ∧ ys[j]? = some y ∧ DataW.trod enc P w base spare held n f.type [v] = some y := by
  obtain ⟨ys, n', hn', hy, hlen, hyl, hf⟩ := DataW.trod_struct he h; refine ⟨ys, n', by rw [hy], hyl, by rw [hlen, hC], fun j f hj => ?_⟩; obtain ⟨ho, hk⟩ := hone_of hone j f hj; have hjl : j < fs.size := (Array.getElem?_eq_some_iff.1 hj).1; have hcl : j < cs.length := by rw [hlen, hC]; exact hjl
  have h1 := hf j f hj; rw [ho, hk] at h1
  have hone' : (cs.drop j).take 1 = [cs[j]] := by
    rw [List.drop_eq_getElem_cons hcl]
    rfl
  rw [hone'] at h1; have hys : ys[j]? = some (ys[j]'(by omega)) := List.getElem?_eq_getElem (by omega); exact ⟨_, _, List.getElem?_eq_getElem hcl, hys, h1.trans hys⟩
end Go.Proofs.YtbpinnanfanaaaaDoor.Op
/-
  The listed tables of utf8, strings and unicode: what a row's list gives a walk; a world in which the listed variables lie as their initialisers lay them.
-/
namespace Go.Proofs.YtbpinnanfanaaaaDoor.Tb
open Go.Shelf Go.ChangeShapes Go.WideShapes Go.ChangeAt Go.RowKit Go.Lib
abbrev listed : List (String × DataW Unit) := [("unicode/utf8.acceptRanges", Rows.laid_unicode_utf8_acceptRanges), ("unicode.White_Space", Rows.laid_unicode_White_Space), ("strings.asciiSpace", Rows.laid_strings_asciiSpace), ("unicode/utf8.first", Rows.laid_unicode_utf8_first)]
theorem acc_eq : (Rows.laid_unicode_utf8_acceptRanges : DataW Unit) = Lib.acceptData := by kernel_rfl
theorem first_eq : (Rows.laid_unicode_utf8_first : DataW Unit) = Lib.firstData := Pinned.utf8First_eq
theorem space_eq : (Rows.laid_strings_asciiSpace : DataW Unit) = Lib.tabData .u8 Lib.asciiSpaceTab := by kernel_rfl
theorem tabs {W : World} (hL : laidMet Tryd.prog listed W) : Utf.Tabs2 W := by
  have h4 : VarReads Tryd.prog W "unicode/utf8.acceptRanges" acceptData := by rw [← acc_eq]; exact Lib.laidMet.reads hL (.head _)
  have h3 : VarReads Tryd.prog W "unicode/utf8.first" firstData := by rw [← first_eq]; exact Lib.laidMet.reads hL (.tail _ (.tail _ (.tail _ (.head _))))
  have h2 : VarReads Tryd.prog W "strings.asciiSpace" (Lib.tabData .u8 Lib.asciiSpaceTab) := by rw [← space_eq]; exact Lib.laidMet.reads hL (.tail _ (.tail _ (.head _)))
  refine ⟨utf8Tabs_of_readsT (U8Types.of260 Tryd.lays260) ⟨by kernel_rfl, by kernel_rfl, by kernel_rfl, by kernel_rfl, by kernel_rfl, by kernel_rfl, by kernel_rfl⟩ h3 h4, ?_⟩; obtain ⟨g, t, cs, fuel, p, hg, ht, hv, hread⟩ := h2; have e1 : g = 2 := Option.some.inj (hg.symm.trans (by kernel_rfl)); subst e1; have e2 : t = 130 := Option.some.inj (ht.symm.trans (by kernel_rfl)); subst e2; have hc := Lib.cells_of_tab (n := 256) (e := 5) Tryd.underlying130 Tryd.underlying5 (by kernel_rfl) (by kernel_rfl) hread; unfold Lib.TabIs; rw [hv]
  congr 1
  exact Array.toList_inj.1 (by rw [hc])
noncomputable def laidWorld (os : Os) : World :=
  let w0 := World.holding Tryd.prog os ⟨#[], #[], []⟩
  let put (h : Array Obj) (g : Nat) (cs : Array Value) : Array Obj := h.modify g fun
    | .cells _ t frozen => .cells cs t frozen
    | o => o
  let h1 := put w0.heap 0 (Lib.firstTab.map fun z => Value.int .u8 z).toArray
  let h2 := put h1 1 ((List.range 16).flatMap fun i => [Value.int .u8 (Lib.accLo i), Value.int .u8 (Lib.accHi i)]).toArray
  let h3 := put h2 2 (Lib.asciiSpaceTab.map fun z => Value.int .u8 z).toArray
  let h4 := put h3 3 #[.pointer (some ⟨h3.size, 0, none⟩)]
  let h5 := (h4.push (.cells #[.slice (some ⟨h4.size + 1, 0, none⟩) 7 7, .slice none 0 0, .int .i64 2] 148 (0, 0))).push (.cells ([9, 13, 1, 32, 133, 101, 160, 5760, 5600, 8192, 8202, 1, 8232, 8233, 1, 8239, 8287, 48, 12288, 12288, 1].map fun z => Value.int .u16 z).toArray 151 (0, 0))
  { w0 with heap := h5 }
theorem laid_met (os : Os) (args : Array Value) : laidMet Tryd.prog listed ((laidWorld os).forCall (fun _ _ => 0) ⟨#[], args, []⟩).memory := by
  have h := (LaidIn.of_run (P := Tryd.prog) (w := ((laidWorld os).forCall (fun _ _ => 0) ⟨#[], args, []⟩).memory) (l := [("unicode/utf8.acceptRanges", Lib.acceptData), ("unicode.White_Space", Rows.laid_unicode_White_Space), ("strings.asciiSpace", Rows.laid_strings_asciiSpace), ("unicode/utf8.first", Lib.firstData)]) (List.range 40) 8 (by kernel_rfl) (by kernel_rfl) (by kernel_rfl) (by kernel_rfl)).met; rw [← acc_eq, ← first_eq] at h; exact h
end Go.Proofs.YtbpinnanfanaaaaDoor.Tb
