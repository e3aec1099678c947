import Derived.Test.YtcpbalnbgmjhjaaDoorV33
import Derived.Test.YtcpbalnbgmjhjaaDoorV35
import Derived.Test.YtcpbalnbgmjhjaaDoorV312
import Derived.Laws.BitsLemmas
import Derived.Lib.MapLaws
import Derived.Lib.RuneBytes
import Derived.Laws.BytesArg
import Derived.Test.YtcpbalnbgmjhjaaDoorV38
namespace Go.Proofs.YtcpbalnbgmjhjaaDoor.G
open Go.RowKit Go.Proofs.YtcpbalnbgmjhjaaDoor.Mi Go.Proofs.YtcpbalnbgmjhjaaDoorW.PrintWords Go.Proofs.YtcpbalnbgmjhjaaDoorW.PrintLast Go.Proofs.YtcpbalnbgmjhjaaDoorW.PrintMore
attribute [local go_sem] min2_int min_two min_three   -- for this text's walks alone
set_option linter.unusedVariables false
set_option linter.unusedSimpArgs false
attribute [local go_sem high] eqA61
/-! ### siglumlaw10_awake: function 26 -/
def siglumlaw10_awake.f (k : Nat)  : Option (Bool) := (pair_Align.f k (([(⟨#[116, 104, 101]⟩ : ByteArray), (⟨#[99, 97, 116]⟩ : ByteArray)] : List ByteArray)) (([(⟨#[116, 104, 101]⟩ : ByteArray), (⟨#[111, 108, 100]⟩ : ByteArray), (⟨#[99, 97, 116]⟩ : ByteArray)] : List ByteArray)) 2 1 3 0).bind fun bt26107 => (if bt26107.2.2 = 0 then (if bt26107.2.1 = 2 then (if (bt26107.1.length : Int) = 3 then (if 1 < (bt26107.1.length : Int) then (if (((rd_T61 bt26107.1 1).f0) == (-1) && (((rd_T61 bt26107.1 1).f1) == 1)) = true then (if 2 < (bt26107.1.length : Int) then (some (((rd_T61 bt26107.1 2).f0) == 1 && (((rd_T61 bt26107.1 2).f1) == 2))) else (none)) else (some false)) else (none)) else (some false)) else (some false)) else (some false))
set_option maxHeartbeats 8000000 in
set_option maxRecDepth 100000 in
theorem siglumlaw10_awake.calls (k : Nat)  (r : Bool) (w : World) (hT : Utf.Tabs2 w) (h : siglumlaw10_awake.f k  = some r) :
 Calls Tryd.prog 26 #[] w fun e w' => e = .returned (.bool r) ∧ Below w.heap.size w w' := by
 have hu23 := Tryd.underlying23; have hu61 := Tryd.underlying61; have HT := Aside0.mk hT; clear hT; have HB := Aside0.mk (Below.refl w.heap.size w); have H : ((pair_Align.f k (([(⟨#[116, 104, 101]⟩ : ByteArray), (⟨#[99, 97, 116]⟩ : ByteArray)] : List ByteArray)) (([(⟨#[116, 104, 101]⟩ : ByteArray), (⟨#[111, 108, 100]⟩ : ByteArray), (⟨#[99, 97, 116]⟩ : ByteArray)] : List ByteArray)) 2 1 3 0).bind fun bt26107 => (if bt26107.2.2 = 0 then (if bt26107.2.1 = 2 then (if (bt26107.1.length : Int) = 3 then (if 1 < (bt26107.1.length : Int) then (if (((rd_T61 bt26107.1 1).f0) == (-1) && (((rd_T61 bt26107.1 1).f1) == 1)) = true then (if 2 < (bt26107.1.length : Int) then (some (((rd_T61 bt26107.1 2).f0) == 1 && (((rd_T61 bt26107.1 2).f1) == 2))) else (none)) else (some false)) else (none)) else (some false)) else (some false)) else (some false))) = some r := h; clear h
 obtain ⟨y26101, hy26101⟩ : ∃ y_ : List ByteArray, y_ = (([(⟨#[116, 104, 101]⟩ : ByteArray), (⟨#[99, 97, 116]⟩ : ByteArray)] : List ByteArray)) := ⟨_, rfl⟩
 (try rw [← hy26101] at H); (try rw [Option.bind_some] at H); (try dsimp only at H); have Ny26101 := Aside0.mk hy26101; clear hy26101
 obtain ⟨y26104, hy26104⟩ : ∃ y_ : List ByteArray, y_ = (([(⟨#[116, 104, 101]⟩ : ByteArray), (⟨#[111, 108, 100]⟩ : ByteArray), (⟨#[99, 97, 116]⟩ : ByteArray)] : List ByteArray)) := ⟨_, rfl⟩
 (try rw [← hy26104] at H); (try rw [Option.bind_some] at H); (try dsimp only at H); have Ny26104 := Aside0.mk hy26104; clear hy26104; replace H := Option.bind_eq_some_iff.mp H; obtain ⟨⟨t26107, t26110, t26111⟩, A10, H⟩ := H; (try dsimp only at H); have A1 := Aside0.mk A10; clear A10
 by_cases c2 : t26111 = 0
 ·
  rw [if_pos c2] at H; have c2b0 : (t26111 == 0) = true := beq_iff_eq.mpr c2; have c2b1 : (t26111 != 0) = false := bne_eq_false_iff_eq.mpr c2; clear c2
  by_cases c3 : t26110 = 2
  ·
   rw [if_pos c3] at H; have c3b0 : (t26110 == 2) = true := beq_iff_eq.mpr c3; have c3b1 : (t26110 != 2) = false := bne_eq_false_iff_eq.mpr c3; clear c3
   by_cases c4 : (t26107.length : Int) = 3
   ·
    rw [if_pos c4] at H; have c4b0 : ((t26107.length : Int) == 3) = true := beq_iff_eq.mpr c4; have c4b1 : ((t26107.length : Int) != 3) = false := bne_eq_false_iff_eq.mpr c4; clear c4
    by_cases c5 : 1 < (t26107.length : Int)
    rotate_left
    · rw [if_neg c5] at H; exact absurd H (by simp)
    rw [if_pos c5] at H; have c5b0 : decide (1 < (t26107.length : Int)) = true := decide_eq_true c5; have c5b1 : decide (1 < t26107.length) = true := decide_eq_true (by omega); clear c5
    by_cases c6 : (((rd_T61 t26107 1).f0) == (-1) && (((rd_T61 t26107 1).f1) == 1)) = true
    ·
     rw [if_pos c6] at H; have c6b0 : (((rd_T61 t26107 1).f0) == (-1) && (((rd_T61 t26107 1).f1) == 1)) = true := c6; (try (have c6b1 : decide (((rd_T61 t26107 1).f0) = (-1) && (((rd_T61 t26107 1).f1) == 1)) = true := by simpa using c6)); (try (have c6b2 : (((rd_T61 t26107 1).f0) == (-1) && (((rd_T61 t26107 1).f1) == 1)) = true := by simpa using c6)); clear c6
     by_cases c7 : 2 < (t26107.length : Int)
     rotate_left
     · rw [if_neg c7] at H; exact absurd H (by simp)
     rw [if_pos c7] at H; have c7b0 : decide (2 < (t26107.length : Int)) = true := decide_eq_true c7; have c7b1 : decide (2 < t26107.length) = true := decide_eq_true (by omega); clear c7; obtain rfl := Option.some.inj H
     go_enter Tryd.func26, Tryd.ntmps26
     go_wp2_with (first | ((with_reducible refine gate_dst (N := 5) rfl ?_); (try (refine gate_guard (by rfl) ?_; dsimp only)); refine Kd.R_lit Kd.string _ 9 ?hg (N := 5) ?hd (xs := ([(⟨#[116, 104, 101]⟩ : ByteArray), (⟨#[99, 97, 116]⟩ : ByteArray)] : List ByteArray)) (inner := [.string (⟨#[116, 104, 101]⟩ : ByteArray), .string (⟨#[99, 97, 116]⟩ : ByteArray)]) (ok := fun _ => True) (okp := fun _ => True) ?hr ?hp (fun _ hk => hk) trivial (Below.refl _ _) (Nat.le_refl _) (by simp) ?_; (case hd => rfl); (case hg => rfl); (case hr => first | (go_simp; done) | (go_simp; rfl)); (case hp => exact (Reps.one (show Kd.M Kd.string _ _ _ (⟨#[116, 104, 101]⟩ : ByteArray) [.string (⟨#[116, 104, 101]⟩ : ByteArray)] from rfl) (Reps.one (show Kd.M Kd.string _ _ _ (⟨#[99, 97, 116]⟩ : ByteArray) [.string (⟨#[99, 97, 116]⟩ : ByteArray)] from rfl) (Reps.none _ _)))); intro v26102 w8 ho9 hb hg_ hnew_; clear hg_ hnew_; (first | rw [← Ny26101.out] at ho9 | (simp only [Int.reduceToNat] at ho9; rw [← Ny26101.out] at ho9)); have HO26103 := Aside0.mk (Kd.R_lower ho9 (below_size bel)); replace HB := Aside0.mk (below_step bel hb); clear hb ho9) | ((with_reducible refine gate_dst (N := 6) rfl ?_); (try (refine gate_guard (by rfl) ?_; dsimp only)); refine Kd.R_lit Kd.string _ 9 ?hg (N := 6) ?hd (xs := ([(⟨#[116, 104, 101]⟩ : ByteArray), (⟨#[111, 108, 100]⟩ : ByteArray), (⟨#[99, 97, 116]⟩ : ByteArray)] : List ByteArray)) (inner := [.string (⟨#[116, 104, 101]⟩ : ByteArray), .string (⟨#[111, 108, 100]⟩ : ByteArray), .string (⟨#[99, 97, 116]⟩ : ByteArray)]) (ok := fun _ => True) (okp := fun _ => True) ?hr ?hp (fun _ hk => hk) trivial (Below.refl _ _) (Nat.le_refl _) (by simp) ?_; (case hd => rfl); (case hg => rfl); (case hr => first | (go_simp; done) | (go_simp; rfl)); (case hp => exact (Reps.one (show Kd.M Kd.string _ _ _ (⟨#[116, 104, 101]⟩ : ByteArray) [.string (⟨#[116, 104, 101]⟩ : ByteArray)] from rfl) (Reps.one (show Kd.M Kd.string _ _ _ (⟨#[111, 108, 100]⟩ : ByteArray) [.string (⟨#[111, 108, 100]⟩ : ByteArray)] from rfl) (Reps.one (show Kd.M Kd.string _ _ _ (⟨#[99, 97, 116]⟩ : ByteArray) [.string (⟨#[99, 97, 116]⟩ : ByteArray)] from rfl) (Reps.none _ _))))); intro v26105 w10 ho11 hb hg_ hnew_; clear hg_ hnew_; (first | rw [← Ny26104.out] at ho11 | (simp only [Int.reduceToNat] at ho11; rw [← Ny26104.out] at ho11)); have n0_ := Aside0.mk (Kd.R_elder' (rl HO26103) (Kd.R_base ho11) hb); have n1_ := Aside0.mk (Kd.R_lower (Kd.R_new' ho11 (Kd.R_lt (rl HO26103))) (below_size bel)); have n2_ := Aside0.mk (below_step bel hb); clear HO26103; clear HB; have HO26103 := n0_; have HO26106 := n1_; have HB := n2_; clear n0_ n1_ n2_; clear hb ho11; obtain ⟨Ao12, co12, eo12⟩ := Kd.R_slice HO26103.out; subst eo12; obtain ⟨Ao13, co13, eo13⟩ := Kd.R_slice HO26106.out; subst eo13) | ((with_reducible refine gate_callee (f := 27) rfl ?_); refine goesL_ (some 8) rfl rfl Tryd.func27 (by kernel_rfl) rfl #[.slice Ao12 y26101.length co12, .slice Ao13 y26104.length co13, .agg #[.int .i64 2, .int .i64 1, .int .i64 3, .int .i64 0]] rfl (by (try simp only [List.map_toArray, List.map_cons, List.map_nil]); first | done | rfl | (simp only [List.length_drop, List.length_take]; rfl)) ?_; (with_reducible refine (pair_Align.calls k _ _ y26101 _ _ y26104 2 1 3 0 t26107 t26110 t26111 _ ?side1 ?side2 ?side3 ?side4 ?side5 A1.out).mono ?_); (case side1 => repeat (first | exact (Kd.R_reads' HO26103.out).2.2 | (with_reducible refine Kd.C_alloc ?_ _) | (with_reducible refine Kd.C_drewN ?_ _) | (with_reducible refine Kd.C_drew ?_))); (case side2 => exact (Kd.R_reads' HO26103.out).2.1); (case side3 => repeat (first | exact (Kd.R_reads' HO26106.out).2.2 | (with_reducible refine Kd.C_alloc ?_ _) | (with_reducible refine Kd.C_drewN ?_ _) | (with_reducible refine Kd.C_drew ?_))); (case side4 => exact (Kd.R_reads' HO26106.out).2.1); (case side5 => exact Utf.tabs_step2 HT.out bel); rintro e w14 ⟨v26108, rfl, ho0, hb⟩; refine ⟨_, rfl, ?_⟩; replace HO26103 := Aside0.mk (Kd.R_below (rl HO26103) hb); replace HO26106 := Aside0.mk (Kd.R_below (rl HO26106) hb); have HO26109 := Aside0.mk (Kd.R_lower ho0 (below_size bel)); replace HB := Aside0.mk (below_step bel hb); (try clear hb); (try clear hb2); (try clear hk); (try clear hi); (try clear ho0); obtain ⟨Ao15, co15, eo15⟩ := Kd.R_slice HO26109.out; subst eo15; have p26112 : 0 ≤ (1 : Int) := (by omega); have q26112 : 1 < (t26107.length : Int) := oda; obtain ⟨ad26112, e26112, hx26112_0, hx26112_1⟩ := at_T61 (Kd.R_reads' HO26109.out).2.2 1 p26112 q26112; cases e26112; (try simp only [show (1 : Int).toNat = 1 from rfl, Nat.reduceMul, Nat.reduceEqDiff, Go.Addr.add, ↓reduceIte] at hx26112_0); (try simp only [show (1 : Int).toNat = 1 from rfl, Nat.reduceMul, Nat.reduceEqDiff, Go.Addr.add, ↓reduceIte] at hx26112_1); have qi26112 : (1 < t26107.length) = True := eq_true (by omega); (try rw [show ((1 : Int)).toNat = 1 from rfl] at hx26112_0); (try rw [show 1 * 2 = 2 from rfl] at hx26112_0); (try rw [show ((1 : Int)).toNat = 1 from rfl] at hx26112_1); (try rw [show 1 * 2 = 2 from rfl] at hx26112_1); replace p26112 := eq_true p26112; replace q26112 := eq_true q26112; have p26113 : 0 ≤ (2 : Int) := (by omega); have q26113 : 2 < (t26107.length : Int) := oda; obtain ⟨ad26113, e26113, hx26113_0, hx26113_1⟩ := at_T61 (Kd.R_reads' HO26109.out).2.2 2 p26113 q26113; obtain rfl : ad26112 = ad26113 := (by injection e26113); (try simp only [show (2 : Int).toNat = 2 from rfl, Nat.reduceMul, Nat.reduceEqDiff, Go.Addr.add, ↓reduceIte] at hx26113_0); (try simp only [show (2 : Int).toNat = 2 from rfl, Nat.reduceMul, Nat.reduceEqDiff, Go.Addr.add, ↓reduceIte] at hx26113_1); have qi26113 : (2 < t26107.length) = True := eq_true (by omega); (try rw [show ((2 : Int)).toNat = 2 from rfl] at hx26113_0); (try rw [show 2 * 2 = 4 from rfl] at hx26113_0); (try rw [show ((2 : Int)).toNat = 2 from rfl] at hx26113_1); (try rw [show 2 * 2 = 4 from rfl] at hx26113_1); replace p26113 := eq_true p26113; replace q26113 := eq_true q26113))
     go_ret; exact ⟨by first | rfl | (simp [errW_none, errW_some] <;> rfl) | (simp [*, errW_none, errW_some] <;> rfl), by exact bel⟩
    ·
     rw [if_neg c6] at H
     have c6b0 : (((rd_T61 t26107 1).f0) == (-1) && (((rd_T61 t26107 1).f1) == 1)) = false := by simpa using c6
     (try (have c6b1 : decide (((rd_T61 t26107 1).f0) = (-1) && (((rd_T61 t26107 1).f1) == 1)) = false := by simpa using c6)); (try (have c6b2 : (((rd_T61 t26107 1).f0) == (-1) && (((rd_T61 t26107 1).f1) == 1)) = false := by simpa using c6)); (try (have c6b3 : ¬ (((rd_T61 t26107 1).f0) = (-1) && (((rd_T61 t26107 1).f1) == 1)) := by simpa using c6)); clear c6; obtain rfl := Option.some.inj H
     go_enter Tryd.func26, Tryd.ntmps26
     go_wp2_with (first | ((with_reducible refine gate_dst (N := 5) rfl ?_); (try (refine gate_guard (by rfl) ?_; dsimp only)); refine Kd.R_lit Kd.string _ 9 ?hg (N := 5) ?hd (xs := ([(⟨#[116, 104, 101]⟩ : ByteArray), (⟨#[99, 97, 116]⟩ : ByteArray)] : List ByteArray)) (inner := [.string (⟨#[116, 104, 101]⟩ : ByteArray), .string (⟨#[99, 97, 116]⟩ : ByteArray)]) (ok := fun _ => True) (okp := fun _ => True) ?hr ?hp (fun _ hk => hk) trivial (Below.refl _ _) (Nat.le_refl _) (by simp) ?_; (case hd => rfl); (case hg => rfl); (case hr => first | (go_simp; done) | (go_simp; rfl)); (case hp => exact (Reps.one (show Kd.M Kd.string _ _ _ (⟨#[116, 104, 101]⟩ : ByteArray) [.string (⟨#[116, 104, 101]⟩ : ByteArray)] from rfl) (Reps.one (show Kd.M Kd.string _ _ _ (⟨#[99, 97, 116]⟩ : ByteArray) [.string (⟨#[99, 97, 116]⟩ : ByteArray)] from rfl) (Reps.none _ _)))); intro v26102 w16 ho17 hb hg_ hnew_; clear hg_ hnew_; (first | rw [← Ny26101.out] at ho17 | (simp only [Int.reduceToNat] at ho17; rw [← Ny26101.out] at ho17)); have HO26103 := Aside0.mk (Kd.R_lower ho17 (below_size bel)); replace HB := Aside0.mk (below_step bel hb); clear hb ho17) | ((with_reducible refine gate_dst (N := 6) rfl ?_); (try (refine gate_guard (by rfl) ?_; dsimp only)); refine Kd.R_lit Kd.string _ 9 ?hg (N := 6) ?hd (xs := ([(⟨#[116, 104, 101]⟩ : ByteArray), (⟨#[111, 108, 100]⟩ : ByteArray), (⟨#[99, 97, 116]⟩ : ByteArray)] : List ByteArray)) (inner := [.string (⟨#[116, 104, 101]⟩ : ByteArray), .string (⟨#[111, 108, 100]⟩ : ByteArray), .string (⟨#[99, 97, 116]⟩ : ByteArray)]) (ok := fun _ => True) (okp := fun _ => True) ?hr ?hp (fun _ hk => hk) trivial (Below.refl _ _) (Nat.le_refl _) (by simp) ?_; (case hd => rfl); (case hg => rfl); (case hr => first | (go_simp; done) | (go_simp; rfl)); (case hp => exact (Reps.one (show Kd.M Kd.string _ _ _ (⟨#[116, 104, 101]⟩ : ByteArray) [.string (⟨#[116, 104, 101]⟩ : ByteArray)] from rfl) (Reps.one (show Kd.M Kd.string _ _ _ (⟨#[111, 108, 100]⟩ : ByteArray) [.string (⟨#[111, 108, 100]⟩ : ByteArray)] from rfl) (Reps.one (show Kd.M Kd.string _ _ _ (⟨#[99, 97, 116]⟩ : ByteArray) [.string (⟨#[99, 97, 116]⟩ : ByteArray)] from rfl) (Reps.none _ _))))); intro v26105 w18 ho19 hb hg_ hnew_; clear hg_ hnew_; (first | rw [← Ny26104.out] at ho19 | (simp only [Int.reduceToNat] at ho19; rw [← Ny26104.out] at ho19)); have n0_ := Aside0.mk (Kd.R_elder' (rl HO26103) (Kd.R_base ho19) hb); have n1_ := Aside0.mk (Kd.R_lower (Kd.R_new' ho19 (Kd.R_lt (rl HO26103))) (below_size bel)); have n2_ := Aside0.mk (below_step bel hb); clear HO26103; clear HB; have HO26103 := n0_; have HO26106 := n1_; have HB := n2_; clear n0_ n1_ n2_; clear hb ho19; obtain ⟨Ao20, co20, eo20⟩ := Kd.R_slice HO26103.out; subst eo20; obtain ⟨Ao21, co21, eo21⟩ := Kd.R_slice HO26106.out; subst eo21) | ((with_reducible refine gate_callee (f := 27) rfl ?_); refine goesL_ (some 8) rfl rfl Tryd.func27 (by kernel_rfl) rfl #[.slice Ao20 y26101.length co20, .slice Ao21 y26104.length co21, .agg #[.int .i64 2, .int .i64 1, .int .i64 3, .int .i64 0]] rfl (by (try simp only [List.map_toArray, List.map_cons, List.map_nil]); first | done | rfl | (simp only [List.length_drop, List.length_take]; rfl)) ?_; (with_reducible refine (pair_Align.calls k _ _ y26101 _ _ y26104 2 1 3 0 t26107 t26110 t26111 _ ?side1 ?side2 ?side3 ?side4 ?side5 A1.out).mono ?_); (case side1 => repeat (first | exact (Kd.R_reads' HO26103.out).2.2 | (with_reducible refine Kd.C_alloc ?_ _) | (with_reducible refine Kd.C_drewN ?_ _) | (with_reducible refine Kd.C_drew ?_))); (case side2 => exact (Kd.R_reads' HO26103.out).2.1); (case side3 => repeat (first | exact (Kd.R_reads' HO26106.out).2.2 | (with_reducible refine Kd.C_alloc ?_ _) | (with_reducible refine Kd.C_drewN ?_ _) | (with_reducible refine Kd.C_drew ?_))); (case side4 => exact (Kd.R_reads' HO26106.out).2.1); (case side5 => exact Utf.tabs_step2 HT.out bel); rintro e w22 ⟨v26108, rfl, ho0, hb⟩; refine ⟨_, rfl, ?_⟩; replace HO26103 := Aside0.mk (Kd.R_below (rl HO26103) hb); replace HO26106 := Aside0.mk (Kd.R_below (rl HO26106) hb); have HO26109 := Aside0.mk (Kd.R_lower ho0 (below_size bel)); replace HB := Aside0.mk (below_step bel hb); (try clear hb); (try clear hb2); (try clear hk); (try clear hi); (try clear ho0); obtain ⟨Ao23, co23, eo23⟩ := Kd.R_slice HO26109.out; subst eo23; have p26112 : 0 ≤ (1 : Int) := (by omega); have q26112 : 1 < (t26107.length : Int) := oda; obtain ⟨ad26112, e26112, hx26112_0, hx26112_1⟩ := at_T61 (Kd.R_reads' HO26109.out).2.2 1 p26112 q26112; cases e26112; (try simp only [show (1 : Int).toNat = 1 from rfl, Nat.reduceMul, Nat.reduceEqDiff, Go.Addr.add, ↓reduceIte] at hx26112_0); (try simp only [show (1 : Int).toNat = 1 from rfl, Nat.reduceMul, Nat.reduceEqDiff, Go.Addr.add, ↓reduceIte] at hx26112_1); have qi26112 : (1 < t26107.length) = True := eq_true (by omega); (try rw [show ((1 : Int)).toNat = 1 from rfl] at hx26112_0); (try rw [show 1 * 2 = 2 from rfl] at hx26112_0); (try rw [show ((1 : Int)).toNat = 1 from rfl] at hx26112_1); (try rw [show 1 * 2 = 2 from rfl] at hx26112_1); replace p26112 := eq_true p26112; replace q26112 := eq_true q26112))
     go_ret; exact ⟨by first | rfl | (simp [errW_none, errW_some] <;> rfl) | (simp [*, errW_none, errW_some] <;> rfl), by exact bel⟩
   ·
    rw [if_neg c4] at H; have c4b0 : ((t26107.length : Int) == 3) = false := beq_eq_false_iff_ne.mpr c4; have c4b1 : ((t26107.length : Int) != 3) = true := bne_iff_ne.mpr c4; obtain rfl := Option.some.inj H
    go_enter Tryd.func26, Tryd.ntmps26
    go_wp2_with (first | ((with_reducible refine gate_dst (N := 5) rfl ?_); (try (refine gate_guard (by rfl) ?_; dsimp only)); refine Kd.R_lit Kd.string _ 9 ?hg (N := 5) ?hd (xs := ([(⟨#[116, 104, 101]⟩ : ByteArray), (⟨#[99, 97, 116]⟩ : ByteArray)] : List ByteArray)) (inner := [.string (⟨#[116, 104, 101]⟩ : ByteArray), .string (⟨#[99, 97, 116]⟩ : ByteArray)]) (ok := fun _ => True) (okp := fun _ => True) ?hr ?hp (fun _ hk => hk) trivial (Below.refl _ _) (Nat.le_refl _) (by simp) ?_; (case hd => rfl); (case hg => rfl); (case hr => first | (go_simp; done) | (go_simp; rfl)); (case hp => exact (Reps.one (show Kd.M Kd.string _ _ _ (⟨#[116, 104, 101]⟩ : ByteArray) [.string (⟨#[116, 104, 101]⟩ : ByteArray)] from rfl) (Reps.one (show Kd.M Kd.string _ _ _ (⟨#[99, 97, 116]⟩ : ByteArray) [.string (⟨#[99, 97, 116]⟩ : ByteArray)] from rfl) (Reps.none _ _)))); intro v26102 w24 ho25 hb hg_ hnew_; clear hg_ hnew_; (first | rw [← Ny26101.out] at ho25 | (simp only [Int.reduceToNat] at ho25; rw [← Ny26101.out] at ho25)); have HO26103 := Aside0.mk (Kd.R_lower ho25 (below_size bel)); replace HB := Aside0.mk (below_step bel hb); clear hb ho25) | ((with_reducible refine gate_dst (N := 6) rfl ?_); (try (refine gate_guard (by rfl) ?_; dsimp only)); refine Kd.R_lit Kd.string _ 9 ?hg (N := 6) ?hd (xs := ([(⟨#[116, 104, 101]⟩ : ByteArray), (⟨#[111, 108, 100]⟩ : ByteArray), (⟨#[99, 97, 116]⟩ : ByteArray)] : List ByteArray)) (inner := [.string (⟨#[116, 104, 101]⟩ : ByteArray), .string (⟨#[111, 108, 100]⟩ : ByteArray), .string (⟨#[99, 97, 116]⟩ : ByteArray)]) (ok := fun _ => True) (okp := fun _ => True) ?hr ?hp (fun _ hk => hk) trivial (Below.refl _ _) (Nat.le_refl _) (by simp) ?_; (case hd => rfl); (case hg => rfl); (case hr => first | (go_simp; done) | (go_simp; rfl)); (case hp => exact (Reps.one (show Kd.M Kd.string _ _ _ (⟨#[116, 104, 101]⟩ : ByteArray) [.string (⟨#[116, 104, 101]⟩ : ByteArray)] from rfl) (Reps.one (show Kd.M Kd.string _ _ _ (⟨#[111, 108, 100]⟩ : ByteArray) [.string (⟨#[111, 108, 100]⟩ : ByteArray)] from rfl) (Reps.one (show Kd.M Kd.string _ _ _ (⟨#[99, 97, 116]⟩ : ByteArray) [.string (⟨#[99, 97, 116]⟩ : ByteArray)] from rfl) (Reps.none _ _))))); intro v26105 w26 ho27 hb hg_ hnew_; clear hg_ hnew_; (first | rw [← Ny26104.out] at ho27 | (simp only [Int.reduceToNat] at ho27; rw [← Ny26104.out] at ho27)); have n0_ := Aside0.mk (Kd.R_elder' (rl HO26103) (Kd.R_base ho27) hb); have n1_ := Aside0.mk (Kd.R_lower (Kd.R_new' ho27 (Kd.R_lt (rl HO26103))) (below_size bel)); have n2_ := Aside0.mk (below_step bel hb); clear HO26103; clear HB; have HO26103 := n0_; have HO26106 := n1_; have HB := n2_; clear n0_ n1_ n2_; clear hb ho27; obtain ⟨Ao28, co28, eo28⟩ := Kd.R_slice HO26103.out; subst eo28; obtain ⟨Ao29, co29, eo29⟩ := Kd.R_slice HO26106.out; subst eo29) | ((with_reducible refine gate_callee (f := 27) rfl ?_); refine goesL_ (some 8) rfl rfl Tryd.func27 (by kernel_rfl) rfl #[.slice Ao28 y26101.length co28, .slice Ao29 y26104.length co29, .agg #[.int .i64 2, .int .i64 1, .int .i64 3, .int .i64 0]] rfl (by (try simp only [List.map_toArray, List.map_cons, List.map_nil]); first | done | rfl | (simp only [List.length_drop, List.length_take]; rfl)) ?_; (with_reducible refine (pair_Align.calls k _ _ y26101 _ _ y26104 2 1 3 0 t26107 t26110 t26111 _ ?side1 ?side2 ?side3 ?side4 ?side5 A1.out).mono ?_); (case side1 => repeat (first | exact (Kd.R_reads' HO26103.out).2.2 | (with_reducible refine Kd.C_alloc ?_ _) | (with_reducible refine Kd.C_drewN ?_ _) | (with_reducible refine Kd.C_drew ?_))); (case side2 => exact (Kd.R_reads' HO26103.out).2.1); (case side3 => repeat (first | exact (Kd.R_reads' HO26106.out).2.2 | (with_reducible refine Kd.C_alloc ?_ _) | (with_reducible refine Kd.C_drewN ?_ _) | (with_reducible refine Kd.C_drew ?_))); (case side4 => exact (Kd.R_reads' HO26106.out).2.1); (case side5 => exact Utf.tabs_step2 HT.out bel); rintro e w30 ⟨v26108, rfl, ho0, hb⟩; refine ⟨_, rfl, ?_⟩; replace HO26103 := Aside0.mk (Kd.R_below (rl HO26103) hb); replace HO26106 := Aside0.mk (Kd.R_below (rl HO26106) hb); have HO26109 := Aside0.mk (Kd.R_lower ho0 (below_size bel)); replace HB := Aside0.mk (below_step bel hb); (try clear hb); (try clear hb2); (try clear hk); (try clear hi); (try clear ho0); obtain ⟨Ao31, co31, eo31⟩ := Kd.R_slice HO26109.out; subst eo31))
    go_ret; exact ⟨by first | rfl | (simp [errW_none, errW_some] <;> rfl) | (simp [*, errW_none, errW_some] <;> rfl), by exact bel⟩
  ·
   rw [if_neg c3] at H; have c3b0 : (t26110 == 2) = false := beq_eq_false_iff_ne.mpr c3; have c3b1 : (t26110 != 2) = true := bne_iff_ne.mpr c3; obtain rfl := Option.some.inj H
   go_enter Tryd.func26, Tryd.ntmps26
   go_wp2_with (first | ((with_reducible refine gate_dst (N := 5) rfl ?_); (try (refine gate_guard (by rfl) ?_; dsimp only)); refine Kd.R_lit Kd.string _ 9 ?hg (N := 5) ?hd (xs := ([(⟨#[116, 104, 101]⟩ : ByteArray), (⟨#[99, 97, 116]⟩ : ByteArray)] : List ByteArray)) (inner := [.string (⟨#[116, 104, 101]⟩ : ByteArray), .string (⟨#[99, 97, 116]⟩ : ByteArray)]) (ok := fun _ => True) (okp := fun _ => True) ?hr ?hp (fun _ hk => hk) trivial (Below.refl _ _) (Nat.le_refl _) (by simp) ?_; (case hd => rfl); (case hg => rfl); (case hr => first | (go_simp; done) | (go_simp; rfl)); (case hp => exact (Reps.one (show Kd.M Kd.string _ _ _ (⟨#[116, 104, 101]⟩ : ByteArray) [.string (⟨#[116, 104, 101]⟩ : ByteArray)] from rfl) (Reps.one (show Kd.M Kd.string _ _ _ (⟨#[99, 97, 116]⟩ : ByteArray) [.string (⟨#[99, 97, 116]⟩ : ByteArray)] from rfl) (Reps.none _ _)))); intro v26102 w32 ho33 hb hg_ hnew_; clear hg_ hnew_; (first | rw [← Ny26101.out] at ho33 | (simp only [Int.reduceToNat] at ho33; rw [← Ny26101.out] at ho33)); have HO26103 := Aside0.mk (Kd.R_lower ho33 (below_size bel)); replace HB := Aside0.mk (below_step bel hb); clear hb ho33) | ((with_reducible refine gate_dst (N := 6) rfl ?_); (try (refine gate_guard (by rfl) ?_; dsimp only)); refine Kd.R_lit Kd.string _ 9 ?hg (N := 6) ?hd (xs := ([(⟨#[116, 104, 101]⟩ : ByteArray), (⟨#[111, 108, 100]⟩ : ByteArray), (⟨#[99, 97, 116]⟩ : ByteArray)] : List ByteArray)) (inner := [.string (⟨#[116, 104, 101]⟩ : ByteArray), .string (⟨#[111, 108, 100]⟩ : ByteArray), .string (⟨#[99, 97, 116]⟩ : ByteArray)]) (ok := fun _ => True) (okp := fun _ => True) ?hr ?hp (fun _ hk => hk) trivial (Below.refl _ _) (Nat.le_refl _) (by simp) ?_; (case hd => rfl); (case hg => rfl); (case hr => first | (go_simp; done) | (go_simp; rfl)); (case hp => exact (Reps.one (show Kd.M Kd.string _ _ _ (⟨#[116, 104, 101]⟩ : ByteArray) [.string (⟨#[116, 104, 101]⟩ : ByteArray)] from rfl) (Reps.one (show Kd.M Kd.string _ _ _ (⟨#[111, 108, 100]⟩ : ByteArray) [.string (⟨#[111, 108, 100]⟩ : ByteArray)] from rfl) (Reps.one (show Kd.M Kd.string _ _ _ (⟨#[99, 97, 116]⟩ : ByteArray) [.string (⟨#[99, 97, 116]⟩ : ByteArray)] from rfl) (Reps.none _ _))))); intro v26105 w34 ho35 hb hg_ hnew_; clear hg_ hnew_; (first | rw [← Ny26104.out] at ho35 | (simp only [Int.reduceToNat] at ho35; rw [← Ny26104.out] at ho35)); have n0_ := Aside0.mk (Kd.R_elder' (rl HO26103) (Kd.R_base ho35) hb); have n1_ := Aside0.mk (Kd.R_lower (Kd.R_new' ho35 (Kd.R_lt (rl HO26103))) (below_size bel)); have n2_ := Aside0.mk (below_step bel hb); clear HO26103; clear HB; have HO26103 := n0_; have HO26106 := n1_; have HB := n2_; clear n0_ n1_ n2_; clear hb ho35; obtain ⟨Ao36, co36, eo36⟩ := Kd.R_slice HO26103.out; subst eo36; obtain ⟨Ao37, co37, eo37⟩ := Kd.R_slice HO26106.out; subst eo37) | ((with_reducible refine gate_callee (f := 27) rfl ?_); refine goesL_ (some 8) rfl rfl Tryd.func27 (by kernel_rfl) rfl #[.slice Ao36 y26101.length co36, .slice Ao37 y26104.length co37, .agg #[.int .i64 2, .int .i64 1, .int .i64 3, .int .i64 0]] rfl (by (try simp only [List.map_toArray, List.map_cons, List.map_nil]); first | done | rfl | (simp only [List.length_drop, List.length_take]; rfl)) ?_; (with_reducible refine (pair_Align.calls k _ _ y26101 _ _ y26104 2 1 3 0 t26107 t26110 t26111 _ ?side1 ?side2 ?side3 ?side4 ?side5 A1.out).mono ?_); (case side1 => repeat (first | exact (Kd.R_reads' HO26103.out).2.2 | (with_reducible refine Kd.C_alloc ?_ _) | (with_reducible refine Kd.C_drewN ?_ _) | (with_reducible refine Kd.C_drew ?_))); (case side2 => exact (Kd.R_reads' HO26103.out).2.1); (case side3 => repeat (first | exact (Kd.R_reads' HO26106.out).2.2 | (with_reducible refine Kd.C_alloc ?_ _) | (with_reducible refine Kd.C_drewN ?_ _) | (with_reducible refine Kd.C_drew ?_))); (case side4 => exact (Kd.R_reads' HO26106.out).2.1); (case side5 => exact Utf.tabs_step2 HT.out bel); rintro e w38 ⟨v26108, rfl, ho0, hb⟩; refine ⟨_, rfl, ?_⟩; replace HO26103 := Aside0.mk (Kd.R_below (rl HO26103) hb); replace HO26106 := Aside0.mk (Kd.R_below (rl HO26106) hb); have HO26109 := Aside0.mk (Kd.R_lower ho0 (below_size bel)); replace HB := Aside0.mk (below_step bel hb); (try clear hb); (try clear hb2); (try clear hk); (try clear hi); (try clear ho0)))
   go_ret; exact ⟨by first | rfl | (simp [errW_none, errW_some] <;> rfl) | (simp [*, errW_none, errW_some] <;> rfl), by exact bel⟩
 ·
  rw [if_neg c2] at H; have c2b0 : (t26111 == 0) = false := beq_eq_false_iff_ne.mpr c2; have c2b1 : (t26111 != 0) = true := bne_iff_ne.mpr c2; obtain rfl := Option.some.inj H
  go_enter Tryd.func26, Tryd.ntmps26
  go_wp2_with (first | ((with_reducible refine gate_dst (N := 5) rfl ?_); (try (refine gate_guard (by rfl) ?_; dsimp only)); refine Kd.R_lit Kd.string _ 9 ?hg (N := 5) ?hd (xs := ([(⟨#[116, 104, 101]⟩ : ByteArray), (⟨#[99, 97, 116]⟩ : ByteArray)] : List ByteArray)) (inner := [.string (⟨#[116, 104, 101]⟩ : ByteArray), .string (⟨#[99, 97, 116]⟩ : ByteArray)]) (ok := fun _ => True) (okp := fun _ => True) ?hr ?hp (fun _ hk => hk) trivial (Below.refl _ _) (Nat.le_refl _) (by simp) ?_; (case hd => rfl); (case hg => rfl); (case hr => first | (go_simp; done) | (go_simp; rfl)); (case hp => exact (Reps.one (show Kd.M Kd.string _ _ _ (⟨#[116, 104, 101]⟩ : ByteArray) [.string (⟨#[116, 104, 101]⟩ : ByteArray)] from rfl) (Reps.one (show Kd.M Kd.string _ _ _ (⟨#[99, 97, 116]⟩ : ByteArray) [.string (⟨#[99, 97, 116]⟩ : ByteArray)] from rfl) (Reps.none _ _)))); intro v26102 w39 ho40 hb hg_ hnew_; clear hg_ hnew_; (first | rw [← Ny26101.out] at ho40 | (simp only [Int.reduceToNat] at ho40; rw [← Ny26101.out] at ho40)); have HO26103 := Aside0.mk (Kd.R_lower ho40 (below_size bel)); replace HB := Aside0.mk (below_step bel hb); clear hb ho40) | ((with_reducible refine gate_dst (N := 6) rfl ?_); (try (refine gate_guard (by rfl) ?_; dsimp only)); refine Kd.R_lit Kd.string _ 9 ?hg (N := 6) ?hd (xs := ([(⟨#[116, 104, 101]⟩ : ByteArray), (⟨#[111, 108, 100]⟩ : ByteArray), (⟨#[99, 97, 116]⟩ : ByteArray)] : List ByteArray)) (inner := [.string (⟨#[116, 104, 101]⟩ : ByteArray), .string (⟨#[111, 108, 100]⟩ : ByteArray), .string (⟨#[99, 97, 116]⟩ : ByteArray)]) (ok := fun _ => True) (okp := fun _ => True) ?hr ?hp (fun _ hk => hk) trivial (Below.refl _ _) (Nat.le_refl _) (by simp) ?_; (case hd => rfl); (case hg => rfl); (case hr => first | (go_simp; done) | (go_simp; rfl)); (case hp => exact (Reps.one (show Kd.M Kd.string _ _ _ (⟨#[116, 104, 101]⟩ : ByteArray) [.string (⟨#[116, 104, 101]⟩ : ByteArray)] from rfl) (Reps.one (show Kd.M Kd.string _ _ _ (⟨#[111, 108, 100]⟩ : ByteArray) [.string (⟨#[111, 108, 100]⟩ : ByteArray)] from rfl) (Reps.one (show Kd.M Kd.string _ _ _ (⟨#[99, 97, 116]⟩ : ByteArray) [.string (⟨#[99, 97, 116]⟩ : ByteArray)] from rfl) (Reps.none _ _))))); intro v26105 w41 ho42 hb hg_ hnew_; clear hg_ hnew_; (first | rw [← Ny26104.out] at ho42 | (simp only [Int.reduceToNat] at ho42; rw [← Ny26104.out] at ho42)); have n0_ := Aside0.mk (Kd.R_elder' (rl HO26103) (Kd.R_base ho42) hb); have n1_ := Aside0.mk (Kd.R_lower (Kd.R_new' ho42 (Kd.R_lt (rl HO26103))) (below_size bel)); have n2_ := Aside0.mk (below_step bel hb); clear HO26103; clear HB; have HO26103 := n0_; have HO26106 := n1_; have HB := n2_; clear n0_ n1_ n2_; clear hb ho42; obtain ⟨Ao43, co43, eo43⟩ := Kd.R_slice HO26103.out; subst eo43; obtain ⟨Ao44, co44, eo44⟩ := Kd.R_slice HO26106.out; subst eo44) | ((with_reducible refine gate_callee (f := 27) rfl ?_); refine goesL_ (some 8) rfl rfl Tryd.func27 (by kernel_rfl) rfl #[.slice Ao43 y26101.length co43, .slice Ao44 y26104.length co44, .agg #[.int .i64 2, .int .i64 1, .int .i64 3, .int .i64 0]] rfl (by (try simp only [List.map_toArray, List.map_cons, List.map_nil]); first | done | rfl | (simp only [List.length_drop, List.length_take]; rfl)) ?_; (with_reducible refine (pair_Align.calls k _ _ y26101 _ _ y26104 2 1 3 0 t26107 t26110 t26111 _ ?side1 ?side2 ?side3 ?side4 ?side5 A1.out).mono ?_); (case side1 => repeat (first | exact (Kd.R_reads' HO26103.out).2.2 | (with_reducible refine Kd.C_alloc ?_ _) | (with_reducible refine Kd.C_drewN ?_ _) | (with_reducible refine Kd.C_drew ?_))); (case side2 => exact (Kd.R_reads' HO26103.out).2.1); (case side3 => repeat (first | exact (Kd.R_reads' HO26106.out).2.2 | (with_reducible refine Kd.C_alloc ?_ _) | (with_reducible refine Kd.C_drewN ?_ _) | (with_reducible refine Kd.C_drew ?_))); (case side4 => exact (Kd.R_reads' HO26106.out).2.1); (case side5 => exact Utf.tabs_step2 HT.out bel); rintro e w45 ⟨v26108, rfl, ho0, hb⟩; refine ⟨_, rfl, ?_⟩; replace HO26103 := Aside0.mk (Kd.R_below (rl HO26103) hb); replace HO26106 := Aside0.mk (Kd.R_below (rl HO26106) hb); have HO26109 := Aside0.mk (Kd.R_lower ho0 (below_size bel)); replace HB := Aside0.mk (below_step bel hb); (try clear hb); (try clear hb2); (try clear hk); (try clear hi); (try clear ho0)))
  go_ret; exact ⟨by first | rfl | (simp [errW_none, errW_some] <;> rfl) | (simp [*, errW_none, errW_some] <;> rfl), by exact bel⟩
end Go.Proofs.YtcpbalnbgmjhjaaDoor.G
namespace Go.Proofs.YtcpbalnbgmjhjaaDoor.G
open Go.RowKit Go.Proofs.YtcpbalnbgmjhjaaDoor.Mi Go.Proofs.YtcpbalnbgmjhjaaDoorW.PrintWords Go.Proofs.YtcpbalnbgmjhjaaDoorW.PrintLast Go.Proofs.YtcpbalnbgmjhjaaDoorW.PrintMore
attribute [local go_sem] min2_int min_two min_three   -- for this text's walks alone
set_option linter.unusedVariables false
set_option linter.unusedSimpArgs false
/-! ### pair_Right: function 30 -/
mutual
def pair_Right.l0 : Nat → Int → Int → Int → Int → List (S61) → Int → Int → Option (Bool)
 | 0, _, _, _, _, _, _, _ => none
 | k + 1, x0, x1, x7, x8, x11, x12, x13 => if x13 < x12 then (if 0 ≤ x13 then (if x13 < (x11.length : Int) then (if ((rd_T61 x11 x13).f0) = x7 then (if ((rd_T61 x11 x13).f1) = x8 then (if x7 < x0 then (pair_Right.j1 k x0 x1 x7 x8 x11 x12 x13 (decide (x8 < x1)) ((rd_T61 x11 x13).f0) ((rd_T61 x11 x13).f1)) else (pair_Right.j1 k x0 x1 x7 x8 x11 x12 x13 false ((rd_T61 x11 x13).f0) ((rd_T61 x11 x13).f1))) else (pair_Right.j1 k x0 x1 x7 x8 x11 x12 x13 false ((rd_T61 x11 x13).f0) ((rd_T61 x11 x13).f1))) else (pair_Right.j1 k x0 x1 x7 x8 x11 x12 x13 false ((rd_T61 x11 x13).f0) ((rd_T61 x11 x13).f1))) else (none)) else (none)) else (if x7 = x0 then (some (x8 == x1)) else (some false))
def pair_Right.j1 : Nat → Int → Int → Int → Int → List (S61) → Int → Int → Bool → Int → Int → Option (Bool)
 | 0, _, _, _, _, _, _, _, _, _, _ => none
 | k + 1, x0, x1, x7, x8, x11, x12, x13, x17, x30103000, x30103001 => if x17 = true then (pair_Right.l0 k x0 x1 (wrap64 (x7 + 1)) (wrap64 (x8 + 1)) x11 x12 (wrap64 (x13 + 1))) else (if x30103000 = x7 then (if x30103001 = (-1) then (pair_Right.j2 k x0 x1 x7 x8 x11 x12 x13 (decide (x7 < x0)) x30103000 x30103001) else (pair_Right.j2 k x0 x1 x7 x8 x11 x12 x13 false x30103000 x30103001)) else (pair_Right.j2 k x0 x1 x7 x8 x11 x12 x13 false x30103000 x30103001))
def pair_Right.j2 : Nat → Int → Int → Int → Int → List (S61) → Int → Int → Bool → Int → Int → Option (Bool)
 | 0, _, _, _, _, _, _, _, _, _, _ => none
 | k + 1, x0, x1, x7, x8, x11, x12, x13, x42, x30103000, x30103001 => if x42 = true then (pair_Right.l0 k x0 x1 (wrap64 (x7 + 1)) x8 x11 x12 (wrap64 (x13 + 1))) else (if x30103000 = (-1) then (if x30103001 = x8 then (if x8 < x1 then (pair_Right.l0 k x0 x1 x7 (wrap64 (x8 + 1)) x11 x12 (wrap64 (x13 + 1))) else (some false)) else (some false)) else (some false))
end
def pair_Right.f (k : Nat) (a0 : Int) (a1 : Int) (l2 : List (S61)) : Option (Bool) := pair_Right.l0 k a0 a1 0 0 l2 (l2.length : Int) 0
set_option maxHeartbeats 8000000 in
set_option maxRecDepth 100000 in
theorem pair_Right.calls (k : Nat) (a0 : Int) (a1 : Int) (A2 : Option Addr) (c2 : Nat) (l2 : List (S61)) (r : Bool) (w : World) (hr2 : Kd.C k61 w A2 l2.length l2) (hc2 : l2.length ≤ c2) (h : pair_Right.f k a0 a1 l2 = some r) :
 Calls Tryd.prog 30 #[.int .i64 a0, .int .i64 a1, .slice A2 l2.length c2] w fun e w' => e = .returned (.bool r) ∧ Below w.heap.size w w' := by
 have hu61 := Tryd.underlying61; have HR2 := Aside0.mk hr2; have HC2 := Aside0.mk hc2; clear hr2 hc2; have HB := Aside0.mk (Below.refl w.heap.size w); have H : (pair_Right.l0 k a0 a1 0 0 l2 (l2.length : Int) 0) = some r := h; clear h; have H' := Aside0.mk H; clear H
 go_enter Tryd.func30, Tryd.ntmps30
 go_wp2
 go_loopg [7, 8, 13] k (fun kq v7 v8 v13 w' => ∃ (x7_1 : Int) (x8_1 : Int) (x13_1 : Int), v7 = .int .i64 x7_1 ∧ v8 = .int .i64 x8_1 ∧ v13 = .int .i64 x13_1 ∧ Aside0 (pair_Right.l0 kq a0 a1 x7_1 x8_1 l2 (l2.length : Int) x13_1 = some r) ∧ Aside0 (kq ≤ k) ∧ Aside0 (Below w.heap.size w w'))
 case atStart => exact ⟨(0), (0), (0), (by first | rfl | (simp; done) | (simp [*]; done)), (by first | rfl | (simp; done) | (simp [*]; done)), (by first | rfl | (simp; done) | (simp [*]; done)), H', ⟨Nat.le_refl _⟩, ⟨bel⟩⟩
 case round =>
  clear H'; (try clear c2); (try clear p2); (try clear c3); obtain ⟨x7_1, x8_1, x13_1, rfl, rfl, rfl, HA, HK1, HB⟩ := hrel
  cases gk with
  | zero => exact absurd HA.out (by simp [pair_Right.l0])
  | succ k1 =>
   have H := HA.out; clear HA; simp only [pair_Right.l0] at H
   by_cases c4 : x13_1 < (l2.length : Int)
   ·
    rw [if_pos c4] at H; have c4b0 : decide (x13_1 < (l2.length : Int)) = true := decide_eq_true c4; clear c4
    by_cases c5 : 0 ≤ x13_1
    rotate_left
    · rw [if_neg c5] at H; exact absurd H (by simp)
    rw [if_pos c5] at H; have c5b0 : decide (0 ≤ x13_1) = true := decide_eq_true c5; clear c5
    by_cases c6 : x13_1 < (l2.length : Int)
    rotate_left
    · rw [if_neg c6] at H; exact absurd H (by simp)
    rw [if_pos c6] at H; have c6b0 : decide (x13_1 < (l2.length : Int)) = true := decide_eq_true c6; clear c6; have HC7 := Aside0.mk H; clear H; have p30101 : 0 ≤ (x13_1 : Int) := oda; have q30101 : x13_1 < (l2.length : Int) := oda; obtain ⟨ad30101, e30101, hx30101_0, hx30101_1⟩ := at_T61 HR2.out x13_1 p30101 q30101; cases e30101; replace hx30101_0 := (HB.out.cell (World.block_lt_of_cell? w _ hx30101_0)).trans hx30101_0; replace hx30101_1 := (HB.out.cell (World.block_lt_of_cell? w _ hx30101_1)).trans hx30101_1; replace p30101 := eq_true p30101; replace q30101 := eq_true q30101
    go_upto_region 6 with (first | ((with_reducible refine gate_dst (N := 10) rfl ?_); refine box_event ?hg (N := 10) ?hd (cs := #[.int .i64 0, .int .i64 0]) (t := 61) ?hr ?_; (case hd => rfl); (case hg => rfl); (case hr => first | (go_simp; done) | (go_simp; rfl)); intro gb30102 hg w8 hbox hb; have n0_ := Aside0.mk (below_step bel hb); have n1_ := Aside0.mk (hbox); have n2_ := Aside0.mk ((by rw [hg]; exact (below_size bel) : w.heap.size ≤ gb30102)); have n3_ := Aside0.mk ((by rw [hg]; exact (below_size bel) : w.heap.size ≤ gb30102)); clear HB; have HB := n0_; have BK30102 := n1_; have GW30102 := n2_; have GE30102 := n3_; clear n0_ n1_ n2_ n3_; clear hb hbox hg; have hcz9_0 : w8.cell? ⟨gb30102, 0, none⟩ = some (.int .i64 0) := (blk_cell BK30102.out 0).trans rfl; have hcz9_1 : w8.cell? ⟨gb30102, 1, none⟩ = some (.int .i64 0) := (blk_cell BK30102.out 1).trans rfl; have hfz9_0 := blk_frozen BK30102.out 0; have hfz9_1 := blk_frozen BK30102.out 1))
    (try simp only [Act.put,za,zb,zc])
    go_cut [17] (fun v17 wc => ∃ (kq : Nat) (x17_6 : Bool), v17 = .bool x17_6 ∧ Aside0 (pair_Right.j1 kq a0 a1 x7_1 x8_1 l2 (l2.length : Int) x13_1 x17_6 ((rd_T61 l2 x13_1).f0) ((rd_T61 l2 x13_1).f1) = some r) ∧ Aside0 (kq ≤ k1) ∧ Aside0 (wc.heap[gb30102]? = some (.cells #[.int .i64 ((rd_T61 l2 x13_1).f0), .int .i64 ((rd_T61 l2 x13_1).f1)] 61 (0, 0))) ∧ Aside0 (Below w.heap.size w wc))
    case first =>
     have H := HC7.out; clear HC7
     by_cases c10 : ((rd_T61 l2 x13_1).f0) = x7_1
     ·
      rw [if_pos c10] at H; have c10b0 : (((rd_T61 l2 x13_1).f0) == x7_1) = true := beq_iff_eq.mpr c10; have c10b1 : (((rd_T61 l2 x13_1).f0) != x7_1) = false := bne_eq_false_iff_eq.mpr c10; clear c10; (first | rw [c10b0] | (simp only [i64_w, i32_w]; rw [c10b0]) | (have ce_ := c10b0; rw [List.beq_nil_eq] at ce_; rw [ce_]) | skip)
      by_cases c11 : ((rd_T61 l2 x13_1).f1) = x8_1
      ·
       rw [if_pos c11] at H; have c11b0 : (((rd_T61 l2 x13_1).f1) == x8_1) = true := beq_iff_eq.mpr c11; have c11b1 : (((rd_T61 l2 x13_1).f1) != x8_1) = false := bne_eq_false_iff_eq.mpr c11; clear c11
       by_cases c12 : x7_1 < a0
       ·
        rw [if_pos c12] at H; have c12b0 : decide (x7_1 < a0) = true := decide_eq_true c12; clear c12; have H' := Aside0.mk H; clear H; have hcz13_0 : w8.cell? ⟨gb30102, 0, none⟩ = some (.int .i64 0) := (blk_cell BK30102.out 0).trans rfl; have hcz13_1 : w8.cell? ⟨gb30102, 1, none⟩ = some (.int .i64 0) := (blk_cell BK30102.out 1).trans rfl; have hfz13_0 := blk_frozen BK30102.out 0; have hfz13_1 := blk_frozen BK30102.out 1; go_wp2
        go_meet
        case rel => exact ⟨_, (decide (x8_1 < a1)), (by first | rfl | (simp; done) | (simp [*]; done)), H', ⟨by have := HK1.out; first | omega | exact Nat.le_refl _⟩, ⟨by (with_reducible repeat (first | refine blk_drewN ?_ _ | refine blk_drew ?_ | refine blk_alloc ?_ _)); refine blk_put (cs := #[.int .i64 ((rd_T61 l2 x13_1).f0), .int .i64 0]) ?_ 1 _ rfl; (with_reducible repeat (first | refine blk_drewN ?_ _ | refine blk_drew ?_ | refine blk_alloc ?_ _)); refine blk_put (cs := #[.int .i64 0, .int .i64 0]) ?_ 0 _ rfl; (with_reducible repeat (first | refine blk_drewN ?_ _ | refine blk_drew ?_ | refine blk_alloc ?_ _)); exact BK30102.out⟩, ⟨bel⟩⟩
       ·
        rw [if_neg c12] at H; have c12b0 : decide (x7_1 < a0) = false := decide_eq_false c12; clear c12; have H' := Aside0.mk H; clear H; have hcz14_0 : w8.cell? ⟨gb30102, 0, none⟩ = some (.int .i64 0) := (blk_cell BK30102.out 0).trans rfl; have hcz14_1 : w8.cell? ⟨gb30102, 1, none⟩ = some (.int .i64 0) := (blk_cell BK30102.out 1).trans rfl; have hfz14_0 := blk_frozen BK30102.out 0; have hfz14_1 := blk_frozen BK30102.out 1; go_wp2
        go_meet
        case rel => exact ⟨_, (false), (by first | rfl | (simp; done) | (simp [*]; done)), H', ⟨by have := HK1.out; first | omega | exact Nat.le_refl _⟩, ⟨by (with_reducible repeat (first | refine blk_drewN ?_ _ | refine blk_drew ?_ | refine blk_alloc ?_ _)); refine blk_put (cs := #[.int .i64 ((rd_T61 l2 x13_1).f0), .int .i64 0]) ?_ 1 _ rfl; (with_reducible repeat (first | refine blk_drewN ?_ _ | refine blk_drew ?_ | refine blk_alloc ?_ _)); refine blk_put (cs := #[.int .i64 0, .int .i64 0]) ?_ 0 _ rfl; (with_reducible repeat (first | refine blk_drewN ?_ _ | refine blk_drew ?_ | refine blk_alloc ?_ _)); exact BK30102.out⟩, ⟨bel⟩⟩
      ·
       rw [if_neg c11] at H; have c11b0 : (((rd_T61 l2 x13_1).f1) == x8_1) = false := beq_eq_false_iff_ne.mpr c11; have c11b1 : (((rd_T61 l2 x13_1).f1) != x8_1) = true := bne_iff_ne.mpr c11; have H' := Aside0.mk H; clear H; have hcz15_0 : w8.cell? ⟨gb30102, 0, none⟩ = some (.int .i64 0) := (blk_cell BK30102.out 0).trans rfl; have hcz15_1 : w8.cell? ⟨gb30102, 1, none⟩ = some (.int .i64 0) := (blk_cell BK30102.out 1).trans rfl; have hfz15_0 := blk_frozen BK30102.out 0; have hfz15_1 := blk_frozen BK30102.out 1; go_wp2
       go_meet
       case rel => exact ⟨_, (false), (by first | rfl | (simp; done) | (simp [*]; done)), H', ⟨by have := HK1.out; first | omega | exact Nat.le_refl _⟩, ⟨by (with_reducible repeat (first | refine blk_drewN ?_ _ | refine blk_drew ?_ | refine blk_alloc ?_ _)); refine blk_put (cs := #[.int .i64 ((rd_T61 l2 x13_1).f0), .int .i64 0]) ?_ 1 _ rfl; (with_reducible repeat (first | refine blk_drewN ?_ _ | refine blk_drew ?_ | refine blk_alloc ?_ _)); refine blk_put (cs := #[.int .i64 0, .int .i64 0]) ?_ 0 _ rfl; (with_reducible repeat (first | refine blk_drewN ?_ _ | refine blk_drew ?_ | refine blk_alloc ?_ _)); exact BK30102.out⟩, ⟨bel⟩⟩
     ·
      rw [if_neg c10] at H; have c10b0 : (((rd_T61 l2 x13_1).f0) == x7_1) = false := beq_eq_false_iff_ne.mpr c10; have c10b1 : (((rd_T61 l2 x13_1).f0) != x7_1) = true := bne_iff_ne.mpr c10; (first | rw [c10b0] | (simp only [i64_w, i32_w]; rw [c10b0]) | (have ce_ := c10b0; rw [List.beq_nil_eq] at ce_; rw [ce_]) | skip); have H' := Aside0.mk H; clear H; have hcz16_0 : w8.cell? ⟨gb30102, 0, none⟩ = some (.int .i64 0) := (blk_cell BK30102.out 0).trans rfl; have hcz16_1 : w8.cell? ⟨gb30102, 1, none⟩ = some (.int .i64 0) := (blk_cell BK30102.out 1).trans rfl; have hfz16_0 := blk_frozen BK30102.out 0; have hfz16_1 := blk_frozen BK30102.out 1; go_wp2
      go_meet
      case rel => exact ⟨_, (false), (by first | rfl | (simp; done) | (simp [*]; done)), H', ⟨by have := HK1.out; first | omega | exact Nat.le_refl _⟩, ⟨by (with_reducible repeat (first | refine blk_drewN ?_ _ | refine blk_drew ?_ | refine blk_alloc ?_ _)); refine blk_put (cs := #[.int .i64 ((rd_T61 l2 x13_1).f0), .int .i64 0]) ?_ 1 _ rfl; (with_reducible repeat (first | refine blk_drewN ?_ _ | refine blk_drew ?_ | refine blk_alloc ?_ _)); refine blk_put (cs := #[.int .i64 0, .int .i64 0]) ?_ 0 _ rfl; (with_reducible repeat (first | refine blk_drewN ?_ _ | refine blk_drew ?_ | refine blk_alloc ?_ _)); exact BK30102.out⟩, ⟨bel⟩⟩
    case rest =>
     clear HC7; (try clear c1); (try clear c2); (try clear p2); (try clear c3); (try clear p3); (try clear q3); (try clear hx3); (try clear c4); (try clear c4b0); (try clear c5); (try clear c5b0); (try clear c6); (try clear c6b0); (try clear c10); (try clear c10b0); (try clear c10b1); (try clear c11); (try clear c11b0); (try clear c11b1); (try clear c12); (try clear c12b0); (try clear hcz13_0); (try clear hcz13_1); (try clear hcz14_0); (try clear hcz14_1); (try clear hcz15_0); (try clear hcz15_1); (try clear hcz16_0); (try clear hcz16_1); (try clear hcz9_0); (try clear hcz9_1); (try clear hfz13_0); (try clear hfz13_1); (try clear hfz14_0); (try clear hfz14_1); (try clear hfz15_0); (try clear hfz15_1); (try clear hfz16_0); (try clear hfz16_1); (try clear hfz9_0); (try clear hfz9_1); (try clear hx30101_0); (try clear hx30101_1); (try clear p30101); (try clear q30101); obtain ⟨kq, x17_6, rfl, HA, HJ6, BK30102, HB⟩ := hcut
     cases kq with
     | zero => exact absurd HA.out (by simp [pair_Right.j1])
     | succ kj6 =>
      have H := HA.out; clear HA; simp only [pair_Right.j1] at H
      by_cases c17 : x17_6 = true
      ·
       subst c17; have H1 := H; rw [if_pos rfl] at H1; clear H; have H := H1; clear H1; have H' := Aside0.mk H; clear H; go_wp2
       go_roundg kj6
       case measure => have := HK1.out; have := HJ6.out; omega
       case rel => exact ⟨(wrap64 (x7_1 + 1)), (wrap64 (x8_1 + 1)), (wrap64 (x13_1 + 1)), (by first | rfl | (simp; done) | (simp [*]; done)), (by first | rfl | (simp; done) | (simp [*]; done)), (by first | rfl | (simp; done) | (simp [*]; done)), H', ⟨by have := HK1.out; have := HJ6.out; omega⟩, ⟨bel⟩⟩
      ·
       replace c17 := Bool.eq_false_iff.mpr c17; subst c17; have H1 := H; rw [if_neg (show ¬ (false = true) by decide)] at H1; clear H; have H := H1; clear H1; have HC18 := Aside0.mk H; clear H
       go_upto_region 8 with (fail)
       go_cut [42] (fun v42 wc => ∃ (kq : Nat) (x42_17 : Bool), v42 = .bool x42_17 ∧ Aside0 (pair_Right.j2 kq a0 a1 x7_1 x8_1 l2 (l2.length : Int) x13_1 x42_17 ((rd_T61 l2 x13_1).f0) ((rd_T61 l2 x13_1).f1) = some r) ∧ Aside0 (kq ≤ kj6) ∧ Aside0 (wc.heap[gb30102]? = some (.cells #[.int .i64 ((rd_T61 l2 x13_1).f0), .int .i64 ((rd_T61 l2 x13_1).f1)] 61 (0, 0))) ∧ Aside0 (Below w.heap.size w wc))
       case first =>
        have H := HC18.out; clear HC18
        by_cases c19 : ((rd_T61 l2 x13_1).f0) = x7_1
        ·
         rw [if_pos c19] at H; have c19b0 : (((rd_T61 l2 x13_1).f0) == x7_1) = true := beq_iff_eq.mpr c19; have c19b1 : (((rd_T61 l2 x13_1).f0) != x7_1) = false := bne_eq_false_iff_eq.mpr c19; clear c19; (first | rw [c19b0] | (simp only [i64_w, i32_w]; rw [c19b0]) | (have ce_ := c19b0; rw [List.beq_nil_eq] at ce_; rw [ce_]) | skip)
         by_cases c20 : ((rd_T61 l2 x13_1).f1) = (-1)
         ·
          rw [if_pos c20] at H; have c20b0 : (((rd_T61 l2 x13_1).f1) == (-1)) = true := beq_iff_eq.mpr c20; have c20b1 : (((rd_T61 l2 x13_1).f1) != (-1)) = false := bne_eq_false_iff_eq.mpr c20; clear c20; have H' := Aside0.mk H; clear H; have hcz21_0 : wc.cell? ⟨gb30102, 0, none⟩ = some (.int .i64 ((rd_T61 l2 x13_1).f0)) := (blk_cell BK30102.out 0).trans rfl; have hcz21_1 : wc.cell? ⟨gb30102, 1, none⟩ = some (.int .i64 ((rd_T61 l2 x13_1).f1)) := (blk_cell BK30102.out 1).trans rfl; have hfz21_0 := blk_frozen BK30102.out 0; have hfz21_1 := blk_frozen BK30102.out 1; go_wp2
          go_meet
          case rel => exact ⟨_, (decide (x7_1 < a0)), (by first | rfl | (simp; done) | (simp [*]; done)), H', ⟨by have := HK1.out; have := HJ6.out; first | omega | exact Nat.le_refl _⟩, ⟨bl BK30102⟩, ⟨bel⟩⟩
         ·
          rw [if_neg c20] at H; have c20b0 : (((rd_T61 l2 x13_1).f1) == (-1)) = false := beq_eq_false_iff_ne.mpr c20; have c20b1 : (((rd_T61 l2 x13_1).f1) != (-1)) = true := bne_iff_ne.mpr c20; have H' := Aside0.mk H; clear H; have hcz22_0 : wc.cell? ⟨gb30102, 0, none⟩ = some (.int .i64 ((rd_T61 l2 x13_1).f0)) := (blk_cell BK30102.out 0).trans rfl; have hcz22_1 : wc.cell? ⟨gb30102, 1, none⟩ = some (.int .i64 ((rd_T61 l2 x13_1).f1)) := (blk_cell BK30102.out 1).trans rfl; have hfz22_0 := blk_frozen BK30102.out 0; have hfz22_1 := blk_frozen BK30102.out 1; go_wp2
          go_meet
          case rel => exact ⟨_, (false), (by first | rfl | (simp; done) | (simp [*]; done)), H', ⟨by have := HK1.out; have := HJ6.out; first | omega | exact Nat.le_refl _⟩, ⟨bl BK30102⟩, ⟨bel⟩⟩
        ·
         rw [if_neg c19] at H; have c19b0 : (((rd_T61 l2 x13_1).f0) == x7_1) = false := beq_eq_false_iff_ne.mpr c19; have c19b1 : (((rd_T61 l2 x13_1).f0) != x7_1) = true := bne_iff_ne.mpr c19; (first | rw [c19b0] | (simp only [i64_w, i32_w]; rw [c19b0]) | (have ce_ := c19b0; rw [List.beq_nil_eq] at ce_; rw [ce_]) | skip); have H' := Aside0.mk H; clear H; have hcz23_0 : wc.cell? ⟨gb30102, 0, none⟩ = some (.int .i64 ((rd_T61 l2 x13_1).f0)) := (blk_cell BK30102.out 0).trans rfl; have hcz23_1 : wc.cell? ⟨gb30102, 1, none⟩ = some (.int .i64 ((rd_T61 l2 x13_1).f1)) := (blk_cell BK30102.out 1).trans rfl; have hfz23_0 := blk_frozen BK30102.out 0; have hfz23_1 := blk_frozen BK30102.out 1; go_wp2
         go_meet
         case rel => exact ⟨_, (false), (by first | rfl | (simp; done) | (simp [*]; done)), H', ⟨by have := HK1.out; have := HJ6.out; first | omega | exact Nat.le_refl _⟩, ⟨bl BK30102⟩, ⟨bel⟩⟩
       case rest =>
        clear HC18; (try clear c1); (try clear c2); (try clear p2); (try clear c3); (try clear p3); (try clear q3); (try clear hx3); (try clear c4); (try clear c4b0); (try clear c5); (try clear c5b0); (try clear c6); (try clear c6b0); (try clear p6); (try clear c10); (try clear c10b0); (try clear c10b1); (try clear c11); (try clear c11b0); (try clear c11b1); (try clear c12); (try clear c12b0); (try clear c17); (try clear c19); (try clear c19b0); (try clear c19b1); (try clear c20); (try clear c20b0); (try clear c20b1); (try clear hcz13_0); (try clear hcz13_1); (try clear hcz14_0); (try clear hcz14_1); (try clear hcz15_0); (try clear hcz15_1); (try clear hcz16_0); (try clear hcz16_1); (try clear hcz21_0); (try clear hcz21_1); (try clear hcz22_0); (try clear hcz22_1); (try clear hcz23_0); (try clear hcz23_1); (try clear hcz9_0); (try clear hcz9_1); (try clear hfz13_0); (try clear hfz13_1); (try clear hfz14_0); (try clear hfz14_1); (try clear hfz15_0); (try clear hfz15_1); (try clear hfz16_0); (try clear hfz16_1); (try clear hfz21_0); (try clear hfz21_1); (try clear hfz22_0); (try clear hfz22_1); (try clear hfz23_0); (try clear hfz23_1); (try clear hfz9_0); (try clear hfz9_1); (try clear hx30101_0); (try clear hx30101_1); (try clear p30101); (try clear q30101); obtain ⟨kq, x42_17, rfl, HA, HJ17, BK30102, HB⟩ := hcut
        cases kq with
        | zero => exact absurd HA.out (by simp [pair_Right.j2])
        | succ kj17 =>
         have H := HA.out; clear HA; simp only [pair_Right.j2] at H
         by_cases c24 : x42_17 = true
         ·
          subst c24; have H1 := H; rw [if_pos rfl] at H1; clear H; have H := H1; clear H1; have H' := Aside0.mk H; clear H; go_wp2
          go_roundg kj17
          case measure => have := HK1.out; have := HJ6.out; have := HJ17.out; omega
          case rel => exact ⟨(wrap64 (x7_1 + 1)), (x8_1), (wrap64 (x13_1 + 1)), (by first | rfl | (simp; done) | (simp [*]; done)), (by first | rfl | (simp; done) | (simp [*]; done)), (by first | rfl | (simp; done) | (simp [*]; done)), H', ⟨by have := HK1.out; have := HJ6.out; have := HJ17.out; omega⟩, ⟨bel⟩⟩
         ·
          replace c24 := Bool.eq_false_iff.mpr c24; subst c24; have H1 := H; rw [if_neg (show ¬ (false = true) by decide)] at H1; clear H; have H := H1; clear H1
          by_cases c25 : ((rd_T61 l2 x13_1).f0) = (-1)
          ·
           rw [if_pos c25] at H; have c25b0 : (((rd_T61 l2 x13_1).f0) == (-1)) = true := beq_iff_eq.mpr c25; have c25b1 : (((rd_T61 l2 x13_1).f0) != (-1)) = false := bne_eq_false_iff_eq.mpr c25; clear c25
           by_cases c26 : ((rd_T61 l2 x13_1).f1) = x8_1
           ·
            rw [if_pos c26] at H; have c26b0 : (((rd_T61 l2 x13_1).f1) == x8_1) = true := beq_iff_eq.mpr c26; have c26b1 : (((rd_T61 l2 x13_1).f1) != x8_1) = false := bne_eq_false_iff_eq.mpr c26; clear c26
            by_cases c27 : x8_1 < a1
            ·
             rw [if_pos c27] at H; have c27b0 : decide (x8_1 < a1) = true := decide_eq_true c27; clear c27; have H' := Aside0.mk H; clear H; have hcz28_0 : wc.cell? ⟨gb30102, 0, none⟩ = some (.int .i64 ((rd_T61 l2 x13_1).f0)) := (blk_cell BK30102.out 0).trans rfl; have hcz28_1 : wc.cell? ⟨gb30102, 1, none⟩ = some (.int .i64 ((rd_T61 l2 x13_1).f1)) := (blk_cell BK30102.out 1).trans rfl; have hfz28_0 := blk_frozen BK30102.out 0; have hfz28_1 := blk_frozen BK30102.out 1; go_wp2
             go_roundg kj17
             case measure => have := HK1.out; have := HJ6.out; have := HJ17.out; omega
             case rel => exact ⟨(x7_1), (wrap64 (x8_1 + 1)), (wrap64 (x13_1 + 1)), (by first | rfl | (simp; done) | (simp [*]; done)), (by first | rfl | (simp; done) | (simp [*]; done)), (by first | rfl | (simp; done) | (simp [*]; done)), H', ⟨by have := HK1.out; have := HJ6.out; have := HJ17.out; omega⟩, ⟨bel⟩⟩
            ·
             rw [if_neg c27] at H; have c27b0 : decide (x8_1 < a1) = false := decide_eq_false c27; clear c27; obtain rfl := Option.some.inj H; have hcz29_0 : wc.cell? ⟨gb30102, 0, none⟩ = some (.int .i64 ((rd_T61 l2 x13_1).f0)) := (blk_cell BK30102.out 0).trans rfl; have hcz29_1 : wc.cell? ⟨gb30102, 1, none⟩ = some (.int .i64 ((rd_T61 l2 x13_1).f1)) := (blk_cell BK30102.out 1).trans rfl; have hfz29_0 := blk_frozen BK30102.out 0; have hfz29_1 := blk_frozen BK30102.out 1; go_wp2; go_ret; exact ⟨by first | rfl | (simp [errW_none, errW_some] <;> rfl) | (simp [*, errW_none, errW_some] <;> rfl), by exact bel⟩
           ·
            rw [if_neg c26] at H; have c26b0 : (((rd_T61 l2 x13_1).f1) == x8_1) = false := beq_eq_false_iff_ne.mpr c26; have c26b1 : (((rd_T61 l2 x13_1).f1) != x8_1) = true := bne_iff_ne.mpr c26; obtain rfl := Option.some.inj H; have hcz30_0 : wc.cell? ⟨gb30102, 0, none⟩ = some (.int .i64 ((rd_T61 l2 x13_1).f0)) := (blk_cell BK30102.out 0).trans rfl; have hcz30_1 : wc.cell? ⟨gb30102, 1, none⟩ = some (.int .i64 ((rd_T61 l2 x13_1).f1)) := (blk_cell BK30102.out 1).trans rfl; have hfz30_0 := blk_frozen BK30102.out 0; have hfz30_1 := blk_frozen BK30102.out 1; go_wp2; go_ret; exact ⟨by first | rfl | (simp [errW_none, errW_some] <;> rfl) | (simp [*, errW_none, errW_some] <;> rfl), by exact bel⟩
          ·
           rw [if_neg c25] at H; have c25b0 : (((rd_T61 l2 x13_1).f0) == (-1)) = false := beq_eq_false_iff_ne.mpr c25; have c25b1 : (((rd_T61 l2 x13_1).f0) != (-1)) = true := bne_iff_ne.mpr c25; obtain rfl := Option.some.inj H; have hcz31_0 : wc.cell? ⟨gb30102, 0, none⟩ = some (.int .i64 ((rd_T61 l2 x13_1).f0)) := (blk_cell BK30102.out 0).trans rfl; have hcz31_1 : wc.cell? ⟨gb30102, 1, none⟩ = some (.int .i64 ((rd_T61 l2 x13_1).f1)) := (blk_cell BK30102.out 1).trans rfl; have hfz31_0 := blk_frozen BK30102.out 0; have hfz31_1 := blk_frozen BK30102.out 1; go_wp2; go_ret; exact ⟨by first | rfl | (simp [errW_none, errW_some] <;> rfl) | (simp [*, errW_none, errW_some] <;> rfl), by exact bel⟩
   ·
    rw [if_neg c4] at H; have c4b0 : decide (x13_1 < (l2.length : Int)) = false := decide_eq_false c4; clear c4
    by_cases c32 : x7_1 = a0
    ·
     rw [if_pos c32] at H; have c32b0 : (x7_1 == a0) = true := beq_iff_eq.mpr c32; have c32b1 : (x7_1 != a0) = false := bne_eq_false_iff_eq.mpr c32; clear c32; obtain rfl := Option.some.inj H; go_wp2; go_ret; exact ⟨by first | rfl | (simp [errW_none, errW_some] <;> rfl) | (simp [*, errW_none, errW_some] <;> rfl), by exact bel⟩
    ·
     rw [if_neg c32] at H; have c32b0 : (x7_1 == a0) = false := beq_eq_false_iff_ne.mpr c32; have c32b1 : (x7_1 != a0) = true := bne_iff_ne.mpr c32; obtain rfl := Option.some.inj H; go_wp2; go_ret; exact ⟨by first | rfl | (simp [errW_none, errW_some] <;> rfl) | (simp [*, errW_none, errW_some] <;> rfl), by exact bel⟩
end Go.Proofs.YtcpbalnbgmjhjaaDoor.G
namespace Go.Proofs.YtcpbalnbgmjhjaaDoor.G
open Go.RowKit Go.Proofs.YtcpbalnbgmjhjaaDoorW.PrintWords Go.Proofs.YtcpbalnbgmjhjaaDoorW.PrintLast Go.Proofs.YtcpbalnbgmjhjaaDoorW.PrintMore
attribute [local go_sem] min2_int min_two min_three   -- for this text's walks alone
set_option linter.unusedVariables false
set_option linter.unusedSimpArgs false
/-! ### siglumref01_between: function 91 -/
def siglumref01_between.f (a0 : Int) (a1 : Int) (a2 : Int) : Option (Bool) := if a0 ≥ a1 then (some (decide (a0 ≤ a2))) else (some false)
end Go.Proofs.YtcpbalnbgmjhjaaDoor.G
namespace Go.Proofs.YtcpbalnbgmjhjaaDoor.G
open Go.RowKit Go.Proofs.YtcpbalnbgmjhjaaDoorW.PrintWords Go.Proofs.YtcpbalnbgmjhjaaDoorW.PrintLast Go.Proofs.YtcpbalnbgmjhjaaDoorW.PrintMore
attribute [local go_sem] min2_int min_two min_three   -- for this text's walks alone
set_option linter.unusedVariables false
set_option linter.unusedSimpArgs false
/-! ### siglumref01_wants: function 84 -/
def siglumref01_wants.f (a0 : Int) : Option (Int) := if a0 < 128 then (some 1) else ((siglumref01_between.f a0 194 223).bind fun t84101 => (if t84101 = true then (some 2) else ((siglumref01_between.f a0 224 239).bind fun t84102 => (if t84102 = true then (some 3) else ((siglumref01_between.f a0 240 244).bind fun t84103 => (if t84103 = true then (some 4) else (some 0)))))))
end Go.Proofs.YtcpbalnbgmjhjaaDoor.G
namespace Go.Proofs.YtcpbalnbgmjhjaaDoor.G
open Go.RowKit Go.Proofs.YtcpbalnbgmjhjaaDoorW.PrintWords Go.Proofs.YtcpbalnbgmjhjaaDoorW.PrintLast Go.Proofs.YtcpbalnbgmjhjaaDoorW.PrintMore
attribute [local go_sem] min2_int min_two min_three   -- for this text's walks alone
set_option linter.unusedVariables false
set_option linter.unusedSimpArgs false
/-! ### siglumref01_second: function 92 -/
def siglumref01_second.f (a0 : Int) (a1 : Int) : Option (Bool) := if a0 = 224 then ((siglumref01_between.f a1 160 191).bind fun t92101 => (some t92101)) else (if a0 = 237 then ((siglumref01_between.f a1 128 159).bind fun t92102 => (some t92102)) else (if a0 = 240 then ((siglumref01_between.f a1 144 191).bind fun t92103 => (some t92103)) else (if a0 = 244 then ((siglumref01_between.f a1 128 143).bind fun t92104 => (some t92104)) else ((siglumref01_between.f a1 128 191).bind fun t92105 => (some t92105)))))
end Go.Proofs.YtcpbalnbgmjhjaaDoor.G
namespace Go.Proofs.YtcpbalnbgmjhjaaDoor.G
open Go.RowKit Go.Proofs.YtcpbalnbgmjhjaaDoorW.PrintWords Go.Proofs.YtcpbalnbgmjhjaaDoorW.PrintLast Go.Proofs.YtcpbalnbgmjhjaaDoorW.PrintMore
attribute [local go_sem] min2_int min_two min_three   -- for this text's walks alone
set_option linter.unusedVariables false
set_option linter.unusedSimpArgs false
/-! ### siglumref01_fits: function 85 -/
mutual
def siglumref01_fits.l0 : Nat → ByteArray → Int → Int → Int → Option (Int)
  | 0, _, _, _, _ => none
  | k + 1, x0, x1, x5, x6 => if x6 < x5 then (siglumref01_fits.j1 k x0 x1 x5 x6 (decide ((wrap64 (x1 + x6)) < (x0.size : Int)))) else (siglumref01_fits.j1 k x0 x1 x5 x6 false)
def siglumref01_fits.j1 : Nat → ByteArray → Int → Int → Int → Bool → Option (Int)
  | 0, _, _, _, _, _ => none
  | k + 1, x0, x1, x5, x6, x24 => if x24 = true then (if 0 ≤ (wrap64 (x1 + x6)) then (if (wrap64 (x1 + x6)) < (x0.size : Int) then (if x6 = 1 then (if 0 ≤ x1 then (if x1 < (x0.size : Int) then ((siglumref01_second.f (bt x0 x1) (bt x0 (wrap64 (x1 + x6)))).bind fun t85102 => (if t85102 = true then (if x6 > 1 then ((siglumref01_between.f (bt x0 (wrap64 (x1 + x6))) 128 191).bind fun t85103 => (if t85103 = true then (siglumref01_fits.l0 k x0 x1 x5 (wrap64 (x6 + 1))) else (some x6))) else (siglumref01_fits.l0 k x0 x1 x5 (wrap64 (x6 + 1)))) else (some x6))) else (none)) else (none)) else (if x6 > 1 then ((siglumref01_between.f (bt x0 (wrap64 (x1 + x6))) 128 191).bind fun t85104 => (if t85104 = true then (siglumref01_fits.l0 k x0 x1 x5 (wrap64 (x6 + 1))) else (some x6))) else (siglumref01_fits.l0 k x0 x1 x5 (wrap64 (x6 + 1))))) else (none)) else (none)) else (some x6)
end
def siglumref01_fits.f (k : Nat) (a0 : ByteArray) (a1 : Int) : Option (Int) := if 0 ≤ a1 then (if a1 < (a0.size : Int) then ((siglumref01_wants.f (bt a0 a1)).bind fun t85101 => (if t85101 = 0 then (some 0) else (siglumref01_fits.l0 k a0 a1 t85101 1))) else (none)) else (none)
end Go.Proofs.YtcpbalnbgmjhjaaDoor.G
namespace Go.Proofs.YtcpbalnbgmjhjaaDoor.G
open Go.RowKit Go.Proofs.YtcpbalnbgmjhjaaDoorW.PrintWords Go.Proofs.YtcpbalnbgmjhjaaDoorW.PrintLast Go.Proofs.YtcpbalnbgmjhjaaDoorW.PrintMore
attribute [local go_sem] min2_int min_two min_three   -- for this text's walks alone
set_option linter.unusedVariables false
set_option linter.unusedSimpArgs false
/-! ### siglumref01_cell: function 71 -/
def siglumref01_cell.j0 : Nat → ByteArray → Int → Int → Bool → Option (Int × Int × Int × Bool × Int)
  | 0, _, _, _, _ => none
  | k + 1, x0, x1, x5, x19 => if x19 = true then (if 0 ≤ x1 then (if x1 < (x0.size : Int) then (some (x1, 1, 65533, true, bt x0 x1)) else (none)) else (none)) else (if 0 ≤ x1 then (if x1 < (x0.size : Int) then (if x5 = 2 then (if 0 ≤ (wrap64 (x1 + 1)) then (if (wrap64 (x1 + 1)) < (x0.size : Int) then (some (x1, x5, Go.bits .or .i32 (wrap32 ((wrap32 (Go.bits .and .u8 (bt x0 x1) 31)) * 64)) (wrap32 (Go.bits .and .u8 (bt x0 (wrap64 (x1 + 1))) 63)), false, 0)) else (none)) else (none)) else (if x5 = 3 then (if 0 ≤ (wrap64 (x1 + 1)) then (if (wrap64 (x1 + 1)) < (x0.size : Int) then (if 0 ≤ (wrap64 (x1 + 2)) then (if (wrap64 (x1 + 2)) < (x0.size : Int) then (some (x1, x5, Go.bits .or .i32 (Go.bits .or .i32 (wrap32 ((wrap32 (Go.bits .and .u8 (bt x0 x1) 15)) * 4096)) (wrap32 ((wrap32 (Go.bits .and .u8 (bt x0 (wrap64 (x1 + 1))) 63)) * 64))) (wrap32 (Go.bits .and .u8 (bt x0 (wrap64 (x1 + 2))) 63)), false, 0)) else (none)) else (none)) else (none)) else (none)) else (if x5 = 4 then (if 0 ≤ (wrap64 (x1 + 1)) then (if (wrap64 (x1 + 1)) < (x0.size : Int) then (if 0 ≤ (wrap64 (x1 + 2)) then (if (wrap64 (x1 + 2)) < (x0.size : Int) then (if 0 ≤ (wrap64 (x1 + 3)) then (if (wrap64 (x1 + 3)) < (x0.size : Int) then (some (x1, x5, Go.bits .or .i32 (Go.bits .or .i32 (Go.bits .or .i32 (wrap32 ((wrap32 (Go.bits .and .u8 (bt x0 x1) 7)) * 262144)) (wrap32 ((wrap32 (Go.bits .and .u8 (bt x0 (wrap64 (x1 + 1))) 63)) * 4096))) (wrap32 ((wrap32 (Go.bits .and .u8 (bt x0 (wrap64 (x1 + 2))) 63)) * 64))) (wrap32 (Go.bits .and .u8 (bt x0 (wrap64 (x1 + 3))) 63)), false, 0)) else (none)) else (none)) else (none)) else (none)) else (none)) else (none)) else (some (x1, x5, wrap32 (bt x0 x1), false, 0))))) else (none)) else (none))
def siglumref01_cell.f (k : Nat) (a0 : ByteArray) (a1 : Int) : Option (Int × Int × Int × Bool × Int) := if 0 ≤ a1 then (if a1 < (a0.size : Int) then ((siglumref01_wants.f (bt a0 a1)).bind fun t71102 => (if t71102 = 0 then (siglumref01_cell.j0 k a0 a1 t71102 true) else ((siglumref01_fits.f k a0 a1).bind fun t71103 => (siglumref01_cell.j0 k a0 a1 t71102 (decide (t71103 < t71102)))))) else (none)) else (none)
end Go.Proofs.YtcpbalnbgmjhjaaDoor.G
namespace Go.Proofs.YtcpbalnbgmjhjaaDoor.G
open Go.RowKit Go.Proofs.YtcpbalnbgmjhjaaDoorW.PrintWords Go.Proofs.YtcpbalnbgmjhjaaDoorW.PrintLast Go.Proofs.YtcpbalnbgmjhjaaDoorW.PrintMore
attribute [local go_sem] min2_int min_two min_three   -- for this text's walks alone
set_option linter.unusedVariables false
set_option linter.unusedSimpArgs false
/-! ### siglumref01_Cells: function 53 -/
def siglumref01_Cells.l0 : Nat → ByteArray → List (S91) → Int → Option ((List (S91)))
  | 0, _, _, _ => none
  | k + 1, x0, x3, x4 => if x4 < (x0.size : Int) then ((siglumref01_cell.f k x0 x4).bind fun bt53101 => (if x3.length < 5864062014805 then (siglumref01_Cells.l0 k x0 (x3 ++ [(⟨bt53101.1, bt53101.2.1, bt53101.2.2.1, bt53101.2.2.2.1, bt53101.2.2.2.2⟩ : S91)]) (wrap64 (x4 + bt53101.2.1))) else (none))) else (some x3)
def siglumref01_Cells.f (k : Nat) (a0 : ByteArray) : Option ((List (S91))) := siglumref01_Cells.l0 k a0 ([] : List (S91)) 0
end Go.Proofs.YtcpbalnbgmjhjaaDoor.G
/-
  The document's cells, byte by byte, are the model's decoding: the same list of cells.
-/
namespace Go.Proofs.YtcpbalnbgmjhjaaDoor.G
open Go.RowKit Go.Proofs.YtcpbalnbgmjhjaaDoorW.PrintWords Go.Proofs.YtcpbalnbgmjhjaaDoorW.PrintLast
namespace Pl
theorem wrap32_small (x : Int) (h : 0 ≤ x) (h2 : x < 2147483648) : wrap32 x = x := by
  unfold wrap32
  omega
def want (b : Int) : Int := if b < 128 then 1 else if 194 ≤ b ∧ b ≤ 223 then 2 else if 224 ≤ b ∧ b ≤ 239 then 3 else if 240 ≤ b ∧ b ≤ 244 then 4 else 0
def sec (a b : Int) : Prop := if a = 224 then 160 ≤ b ∧ b ≤ 191 else if a = 237 then 128 ≤ b ∧ b ≤ 159 else if a = 240 then 144 ≤ b ∧ b ≤ 191 else if a = 244 then 128 ≤ b ∧ b ≤ 143 else 128 ≤ b ∧ b ≤ 191
instance (a b : Int) : Decidable (sec a b) := by unfold sec; infer_instance
/-- How many bytes fit. -/
def fitN (s : ByteArray) (i w : Int) : Int :=
  if 1 < w ∧ i + 1 < s.size ∧ sec (bt s i) (bt s (i + 1)) then
    (if 2 < w ∧ i + 2 < s.size ∧ (128 ≤ bt s (i + 2) ∧ bt s (i + 2) ≤ 191) then
      (if 3 < w ∧ i + 3 < s.size ∧ (128 ≤ bt s (i + 3) ∧ bt s (i + 3) ≤ 191) then 4 else 3) else 2) else 1
theorem two (x y : Int) (hx : 0 ≤ x) (hx2 : x < 256) (hy : 0 ≤ y) (hy2 : y < 256) :
    Go.bits .or .i32 (wrap32 ((wrap32 (Go.bits .and .u8 x 31)) * 64)) (wrap32 (Go.bits .and .u8 y 63)) = x % 32 * 64 + y % 64 := by
  rw [u8_and31 x hx hx2, u8_and63 y hy hy2, wrap32_small (x % 32) (by omega) (by omega), wrap32_small (y % 64) (by omega) (by omega), wrap32_small (x % 32 * 64) (by omega) (by omega)]
  exact i32_or6 _ _ (by omega) (by omega) (by omega) (by omega) (by omega)
theorem three (x y z : Int) (hx : 0 ≤ x) (hx2 : x < 256) (hy : 0 ≤ y) (hy2 : y < 256) (hz : 0 ≤ z) (hz2 : z < 256) :
    Go.bits .or .i32 (Go.bits .or .i32 (wrap32 ((wrap32 (Go.bits .and .u8 x 15)) * 4096)) (wrap32 ((wrap32 (Go.bits .and .u8 y 63)) * 64))) (wrap32 (Go.bits .and .u8 z 63)) = x % 16 * 4096 + y % 64 * 64 + z % 64 := by
  rw [u8_and15 x hx hx2, u8_and63 y hy hy2, u8_and63 z hz hz2, wrap32_small (x % 16) (by omega) (by omega), wrap32_small (y % 64) (by omega) (by omega), wrap32_small (z % 64) (by omega) (by omega), wrap32_small (x % 16 * 4096) (by omega) (by omega), wrap32_small (y % 64 * 64) (by omega) (by omega)]
  rw [i32_or12 (x % 16 * 4096) (y % 64 * 64) (by omega) (by omega) (by omega) (by omega) (by omega)]
  exact i32_or6 _ _ (by omega) (by omega) (by omega) (by omega) (by omega)
def tup (c : S91) : Int × Int × Int × Bool × Int := (c.f0, c.f1, c.f2, c.f3, c.f4)
end Pl
end Go.Proofs.YtcpbalnbgmjhjaaDoor.G
/-
  Plain facts on the model's Utf8.encode and Utf8.decode: encoding is the library's table; what was decoded from good bytes encodes to just those bytes.
-/
namespace Go.Proofs.YtcpbalnbgmjhjaaDoor.Utf
open Go.RowKit
end Go.Proofs.YtcpbalnbgmjhjaaDoor.Utf
namespace Go.Proofs.YtcpbalnbgmjhjaaDoor.G
open Go.RowKit Go.Proofs.YtcpbalnbgmjhjaaDoorW.PrintWords Go.Proofs.YtcpbalnbgmjhjaaDoorW.PrintLast Go.Proofs.YtcpbalnbgmjhjaaDoorW.PrintMore
attribute [local go_sem] min2_int min_two min_three   -- for this text's walks alone
set_option linter.unusedVariables false
set_option linter.unusedSimpArgs false
/-! ### siglumref01_written: function 88 -/
mutual
def siglumref01_written.j0 : Nat → Int → Bool → Option (List Int)
  | 0, _, _ => none
  | k + 1, x0, x16 => if x16 = true then (siglumref01_written.j1 k 65533) else (siglumref01_written.j1 k x0)
def siglumref01_written.j1 : Nat → Int → Option (List Int)
  | 0, _ => none
  | k + 1, x0 => if x0 < 128 then (some (([(x0) % 256] : List Int))) else (if x0 < 2048 then (some (([Go.bits .or .u8 192 ((x0 / 64) % 256), Go.bits .or .u8 128 ((Go.bits .and .i32 x0 63) % 256)] : List Int))) else (if x0 < 65536 then (some (([Go.bits .or .u8 224 ((x0 / 4096) % 256), Go.bits .or .u8 128 ((Go.bits .and .i32 (x0 / 64) 63) % 256), Go.bits .or .u8 128 ((Go.bits .and .i32 x0 63) % 256)] : List Int))) else (some (([Go.bits .or .u8 240 ((x0 / 262144) % 256), Go.bits .or .u8 128 ((Go.bits .and .i32 (x0 / 4096) 63) % 256), Go.bits .or .u8 128 ((Go.bits .and .i32 (x0 / 64) 63) % 256), Go.bits .or .u8 128 ((Go.bits .and .i32 x0 63) % 256)] : List Int)))))
end
def siglumref01_written.f (k : Nat) (a0 : Int) : Option (List Int) := if a0 < 0 then (siglumref01_written.j0 k a0 true) else (if a0 > 1114111 then (siglumref01_written.j0 k a0 true) else (if a0 ≥ 55296 then (siglumref01_written.j0 k a0 (decide (a0 ≤ 57343))) else (siglumref01_written.j0 k a0 false)))
end Go.Proofs.YtcpbalnbgmjhjaaDoor.G
/-
  Plain facts on the list of a text's cells: its length is the runes' number, its runes are the text's, its bytes give the text back; the document's written runes are the model's encoding.
-/
namespace Go.Proofs.YtcpbalnbgmjhjaaDoor.G
open Go.RowKit Go.Proofs.YtcpbalnbgmjhjaaDoorW.PrintWords Go.Proofs.YtcpbalnbgmjhjaaDoorW.PrintLast
namespace Pl
theorem get_rd (l : List S91) (i : Nat) (h : i < l.length) : rd_T91 l (i : Int) = l[i] := by
  unfold rd_T91
  rw [Int.toNat_natCast, List.getD_eq_getElem?_getD, List.getElem?_eq_getElem h]
  rfl
theorem cells_count (s : ByteArray) : ∀ f i, (gCells s f i).length = Lib.runeCountFrom s f i
  | 0, _ => rfl
  | f + 1, i => by
    unfold gCells Lib.runeCountFrom
    split
    · rw [List.length_cons, cells_count s f]; omega
    · rfl
theorem cells_length (s : ByteArray) : (gCells s s.size 0).length = Lib.runeCount s := cells_count s s.size 0
theorem cells_le (s : ByteArray) : (gCells s s.size 0).length ≤ s.size := by rw [cells_length]; exact Lib.runeCount_le s
theorem cell_byte (s : ByteArray) (i : Nat) : 0 ≤ (gCell s i).f4 ∧ (gCell s i).f4 < 256 := by
  show 0 ≤ (if Utf.bad s i = true then bt s i else 0) ∧ (if Utf.bad s i = true then bt s i else 0) < 256
  split
  · unfold bt
    split
    · rename_i h
      have := (s[((i : Int)).toNat]'h).toNat_lt
      omega
    · omega
  · omega
theorem cells_byte (s : ByteArray) : ∀ f i, ∀ c ∈ gCells s f i, 0 ≤ c.f4 ∧ c.f4 < 256
  | 0, _, c, h => by cases h
  | f + 1, i, c, h => by
    unfold gCells at h
    split at h
    · rcases List.mem_cons.1 h with rfl | h
      · exact cell_byte s i
      · exact cells_byte s f _ c h
    · cases h
end Pl
end Go.Proofs.YtcpbalnbgmjhjaaDoor.G
namespace Go.Proofs.YtcpbalnbgmjhjaaDoor.G
open Go.RowKit Go.Proofs.YtcpbalnbgmjhjaaDoorW.PrintWords Go.Proofs.YtcpbalnbgmjhjaaDoorW.PrintLast Go.Proofs.YtcpbalnbgmjhjaaDoorW.PrintMore
attribute [local go_sem] min2_int min_two min_three   -- for this text's walks alone
set_option linter.unusedVariables false
set_option linter.unusedSimpArgs false
/-! ### siglumref08_Same: function 78 -/
def siglumref08_Same.f (a0_0 : Int) (a0_1 : Int) (a0_2 : Int) (a0_3 : Bool) (a0_4 : Int) (a1_0 : Int) (a1_1 : Int) (a1_2 : Int) (a1_3 : Bool) (a1_4 : Int) : Option (Bool) := if (a0_3 == a1_3) = true then (if a0_3 = true then (if a0_4 = a1_4 then (some true) else (some false)) else (some (a0_2 == a1_2))) else (some false)
end Go.Proofs.YtcpbalnbgmjhjaaDoor.G
/-
  A text's pieces (its cells' bytes), as the program has them and as the document has them: two cells are the same just where their bytes are.
-/
namespace Go.Proofs.YtcpbalnbgmjhjaaDoor.Pure
open Go.RowKit Go.Proofs.YtcpbalnbgmjhjaaDoor.G Go.Proofs.YtcpbalnbgmjhjaaDoorW.PrintWords Go.Proofs.YtcpbalnbgmjhjaaDoorW.PrintLast
theorem ws (x : Int) (h : -9223372036854775808 ≤ x) (h2 : x < 9223372036854775808) : wrap64 x = x := by
  unfold wrap64
  omega
/-- A cell's piece of its text. -/
def pc (s : ByteArray) (c : S91) : ByteArray := s.extract c.f0.toNat (c.f0 + c.f1).toNat
/-- A text's pieces. -/
def pcs (s : ByteArray) : List ByteArray := (gCells s s.size 0).map (pc s)
/-- A text's pieces as lists of bytes. -/
def cb (s : ByteArray) : List (List UInt8) := (pcs s).map (·.toList)
theorem pcs_len (s : ByteArray) : (pcs s).length = (gCells s s.size 0).length := by unfold pcs; rw [List.length_map]
theorem cb_len (s : ByteArray) : (cb s).length = (gCells s s.size 0).length := by unfold cb; rw [List.length_map, pcs_len]
theorem cells_range (s : ByteArray) : ∀ f i, i ≤ s.size → ∀ c ∈ gCells s f i, ∃ j, j < s.size ∧ c = gCell s j
  | 0, _, _, c, h => by cases h
  | f + 1, i, hi, c, h => by
    unfold gCells at h
    split at h
    · rename_i hlt
      rcases List.mem_cons.1 h with rfl | h
      · exact ⟨i, hlt, rfl⟩
      · exact cells_range s f _ (Utf.width_le s i hlt) c h
    · cases h
theorem pieces_loop (s : ByteArray) (hs : s.size ≤ 4294967296) (L : List S91) (hl : L.length ≤ 4294967296) (hL : ∀ c ∈ L, ∃ j, j < s.size ∧ c = gCell s j) : ∀ (d i k : Nat) (acc : List ByteArray), i + d = L.length → acc.length = i → d + 1 ≤ k →
    dist_pieces.l0 k s acc L (L.length : Int) (i : Int) = some (acc ++ (L.drop i).map (pc s))
  | 0, i, k, acc, hd, ha, hk => by
    obtain ⟨k, rfl⟩ : ∃ m, k = m + 1 := ⟨k - 1, by omega⟩
    rw [dist_pieces.l0, if_neg (by omega), List.drop_of_length_le (by omega)]
    simp
  | d + 1, i, k, acc, hd, ha, hk => by
    obtain ⟨k, rfl⟩ : ∃ m, k = m + 1 := ⟨k - 1, by omega⟩
    have hi : i < L.length := by omega
    obtain ⟨j, hj, hc⟩ := hL _ (List.getElem_mem hi)
    have e2 : ((i + 1 : Nat) : Int) = (i : Int) + 1 := by omega
    have hw1 := Utf.width_pos s j hj
    have hw2 := Utf.width_le s j hj
    have f0 : (rd_T91 L (i : Int)).f0 = (j : Int) := by rw [Pl.get_rd L i hi, hc]; rfl
    have f1 : (rd_T91 L (i : Int)).f1 = ((Utf8.decode s j).2 : Int) := by rw [Pl.get_rd L i hi, hc]; rfl
    have hp : pc s L[i] = s.extract j (j + (Utf8.decode s j).2) := by
      rw [hc]
      show s.extract ((j : Int)).toNat ((j : Int) + ((Utf8.decode s j).2 : Int)).toNat = _
      rw [Int.toNat_natCast]
      congr 1
    rw [dist_pieces.l0, if_pos (by omega), if_pos (by omega), if_pos (by omega), f0, f1, if_pos (by omega), ws ((j : Int) + _) (by omega) (by omega), if_pos (by omega), if_pos (by omega), if_pos (by omega), ws ((i : Int) + 1) (by omega) (by omega), ← e2]
    rw [pieces_loop s hs L hl hL d (i + 1) k _ (by omega) (by simp; omega) (by omega), List.drop_eq_getElem_cons hi, List.map_cons, hp]
    have e3 : ((j : Int) + ((Utf8.decode s j).2 : Int)).toNat = j + (Utf8.decode s j).2 := by omega
    rw [e3, Int.toNat_natCast]
    simp
theorem pieces_eq (s : ByteArray) (hs : s.size ≤ 4294967296) (k : Nat) (hk : s.size + 1 ≤ k) : dist_pieces.f k s = some (pcs s) := by
  have hl := Pl.cells_le s
  unfold dist_pieces.f glyph_Cells.f
  rw [if_pos hs, Option.bind_some]
  have := pieces_loop s hs (gCells s s.size 0) (by omega) (cells_range s s.size 0 (by omega)) (gCells s s.size 0).length 0 k [] (by omega) rfl (by omega)
  simpa [pcs] using this
theorem both_eq (a b : ByteArray) (ha : a.size ≤ 4294967296) (hb : b.size ≤ 4294967296) (k : Nat) (hk : a.size + 1 ≤ k) (hk2 : b.size + 1 ≤ k) :
    dist_both.f k a b = if (pcs a).length ≤ 256 ∧ (pcs b).length ≤ 256 then some (pcs a, pcs b, 0) else some ([], [], 1) := by
  unfold dist_both.f
  rw [pieces_eq a ha k hk, Option.bind_some, pieces_eq b hb k hk2, Option.bind_some]
  by_cases h1 : (pcs a).length ≤ 256
  · rw [if_neg (by omega)]
    by_cases h2 : (pcs b).length ≤ 256
    · rw [if_neg (by omega), if_pos ⟨h1, h2⟩]
    · rw [if_pos (by omega), if_neg (fun h => h2 h.2)]
  · rw [if_pos (by omega), if_neg (fun h => h1 h.1)]
theorem ext_toList (s : ByteArray) (i n : Nat) : (s.extract i (i + n)).data.toList = (s.data.toList.drop i).take n := by
  rw [ByteArray.data_extract]
  simp [List.extract_eq_take_drop]
theorem toList_data (s : ByteArray) : s.toList = s.data.toList := ByteArray.toList_eq s
/-- The bytes of the piece of the cell at j. -/
theorem piece_bytes (s : ByteArray) (j : Nat) : (pc s (gCell s j)).toList = (s.data.toList.drop j).take (Utf8.decode s j).2 := by
  rw [toList_data]
  show (s.extract ((j : Int)).toNat ((j : Int) + ((Utf8.decode s j).2 : Int)).toNat).data.toList = _
  have e3 : ((j : Int) + ((Utf8.decode s j).2 : Int)).toNat = j + (Utf8.decode s j).2 := by omega
  rw [e3, Int.toNat_natCast, ext_toList]
/-- A text is the bytes of its pieces. -/
theorem cells_bytes (s : ByteArray) : ∀ f i, s.size ≤ i + f → ((gCells s f i).map (fun c => (pc s c).toList)).flatten = s.data.toList.drop i
  | 0, i, h => by
    rw [List.drop_of_length_le (by rw [Array.length_toList]; have : s.data.size = s.size := rfl; omega)]
    rfl
  | f + 1, i, h => by
    unfold gCells
    split
    · rename_i hlt
      have := Utf.width_pos s i hlt
      rw [List.map_cons, List.flatten_cons, cells_bytes s f _ (by omega), piece_bytes, ← List.drop_drop]
      exact List.take_append_drop _ _
    · rw [List.drop_of_length_le (by rw [Array.length_toList]; have : s.data.size = s.size := rfl; omega)]
      rfl
theorem cb_flat (s : ByteArray) : (cb s).flatten = s.data.toList := by
  have := cells_bytes s s.size 0 (by omega)
  rw [List.drop_zero] at this
  unfold cb pcs
  rw [List.map_map]
  exact this
theorem cb_inj (a b : ByteArray) : cb a = cb b ↔ a.toList = b.toList := by
  constructor
  · intro h
    rw [toList_data, toList_data, ← cb_flat a, ← cb_flat b, h]
  · intro h
    rw [toList_data, toList_data] at h
    have : a = b := by
      apply ByteArray.ext
      apply Array.ext'
      exact h
    rw [this]
end Go.Proofs.YtcpbalnbgmjhjaaDoor.Pure
