-- Printed by hprint.py (this session's program over the kit's print) out of the translation; the parts 'by hand' are the session's own.
import Derived.Test.YtpmiaaphmgoapaaHx0
import Derived.Test.YtpmiaaphmgoapaaHx4
namespace Go.Proofs.Ytpmiaaphmgoapaa.H
open Go.RowKit Go.Proofs.YtpmiaaphmgoapaaW.PrintWords Go.Proofs.YtpmiaaphmgoapaaW.PrintLast Go.Proofs.YtpmiaaphmgoapaaW.PrintMore
attribute [local go_sem] max2_int min2_int max_two min_two max_three min_three max_four min_four   -- for this text's walks alone
set_option linter.unusedVariables false
set_option linter.unusedSimpArgs false

/-! ### siglumlaw06_awake: function 9 -/
def siglumlaw06_awake.f (k : Nat)  : Option (Bool) := (some (([(⟨3, (([(⟨#[97]⟩ : ByteArray), (⟨#[98]⟩ : ByteArray)] : List ByteArray)), 0⟩ : S37), (⟨2, ([] : List ByteArray), 1⟩ : S37)] : List (S37)) : List (S37))).bind fun y113 => ((hand_Read.f k y113 0).bind fun bt116 => ((hand_Read.f k y113 3).bind fun bt118 => ((hand_Read.f k y113 4).bind fun bt120 => (if bt116.1.toList = ([97, 226, 151, 140, 32] : List UInt8) then (if bt118.1.toList = ([98, 226, 151, 140, 32] : List UInt8) then (if bt116.2 = 0 then (if bt118.2 = 0 then (some (bt120.2 == 2)) else (some false)) else (some false)) else (some false)) else (some false)))))
theorem siglumlaw06_awake.mono : ∀ k, LeO (siglumlaw06_awake.f k ) (siglumlaw06_awake.f (k + 1) ) := by
  intro  k
  unfold siglumlaw06_awake.f
  repeat' first
      | (with_reducible exact hand_Read.mono _ _ _)
      | (with_reducible exact LeO.refl _)
      | (with_reducible exact LeO.none _)
      | (with_reducible refine LeO.ite ?_ ?_)
      | (with_reducible refine LeO.bind ?_ (fun _ => ?_))
      | exact hand_Read.mono _ _ _
      | exact LeO.none _
      | refine LeO.ite ?_ ?_
      | refine LeO.bind ?_ (fun _ => ?_)
set_option maxHeartbeats 8000000 in
set_option maxRecDepth 100000 in
theorem siglumlaw06_awake.calls (k : Nat)  (r : Bool) (w : World) (h : siglumlaw06_awake.f k  = some r) :
    Calls Try.prog 9 #[] w fun e w' => e = .returned (.bool r) ∧ Below w.heap.size w w' := by
  have hu37 := Try.underlying37
  have HB := Aside0.mk (Below.refl w.heap.size w)
  have H : ((some (([(⟨3, (([(⟨#[97]⟩ : ByteArray), (⟨#[98]⟩ : ByteArray)] : List ByteArray)), 0⟩ : S37), (⟨2, ([] : List ByteArray), 1⟩ : S37)] : List (S37)) : List (S37))).bind fun y113 => ((hand_Read.f k y113 0).bind fun bt116 => ((hand_Read.f k y113 3).bind fun bt118 => ((hand_Read.f k y113 4).bind fun bt120 => (if bt116.1.toList = ([97, 226, 151, 140, 32] : List UInt8) then (if bt118.1.toList = ([98, 226, 151, 140, 32] : List UInt8) then (if bt116.2 = 0 then (if bt118.2 = 0 then (some (bt120.2 == 2)) else (some false)) else (some false)) else (some false)) else (some false)))))) = some r := h
  clear h
  obtain ⟨y110, hy110⟩ : ∃ y_ : List ByteArray, y_ = (([(⟨#[97]⟩ : ByteArray), (⟨#[98]⟩ : ByteArray)] : List ByteArray)) := ⟨_, rfl⟩
  replace H : ((some (([(⟨3, y110, 0⟩ : S37), (⟨2, ([] : List ByteArray), 1⟩ : S37)] : List (S37)) : List (S37))).bind fun y113 => ((hand_Read.f k y113 0).bind fun bt116 => ((hand_Read.f k y113 3).bind fun bt118 => ((hand_Read.f k y113 4).bind fun bt120 => (if bt116.1.toList = ([97, 226, 151, 140, 32] : List UInt8) then (if bt118.1.toList = ([98, 226, 151, 140, 32] : List UInt8) then (if bt116.2 = 0 then (if bt118.2 = 0 then (some (bt120.2 == 2)) else (some false)) else (some false)) else (some false)) else (some false)))))) = some r := by first | (rw [hy110]; with_reducible exact H) | (have H2_ := (Option.bind_some _ _).symm.trans H; rw [hy110]; with_reducible exact H2_) | (have H2_ := (Option.bind_some _ _).symm.trans H; with_reducible exact H2_) | with_reducible exact H | (rw [hy110]; exact H) | exact H
  have Ny110 := Aside0.mk hy110
  clear hy110
  obtain ⟨y113, hy113⟩ : ∃ y_ : List (S37), y_ = (([(⟨3, y110, 0⟩ : S37), (⟨2, ([] : List ByteArray), 1⟩ : S37)] : List (S37))) := ⟨_, rfl⟩
  replace H : ((hand_Read.f k y113 0).bind fun bt116 => ((hand_Read.f k y113 3).bind fun bt118 => ((hand_Read.f k y113 4).bind fun bt120 => (if bt116.1.toList = ([97, 226, 151, 140, 32] : List UInt8) then (if bt118.1.toList = ([98, 226, 151, 140, 32] : List UInt8) then (if bt116.2 = 0 then (if bt118.2 = 0 then (some (bt120.2 == 2)) else (some false)) else (some false)) else (some false)) else (some false))))) = some r := by first | (rw [hy113]; with_reducible exact H) | (have H2_ := (Option.bind_some _ _).symm.trans H; rw [hy113]; with_reducible exact H2_) | (have H2_ := (Option.bind_some _ _).symm.trans H; with_reducible exact H2_) | with_reducible exact H | (rw [hy113]; exact H) | exact H
  have Ny113 := Aside0.mk hy113
  clear hy113
  replace H := Option.bind_eq_some_iff.mp H
  obtain ⟨⟨t116, t117⟩, A10, H⟩ := H
  replace H : ((hand_Read.f k y113 3).bind fun bt118 => ((hand_Read.f k y113 4).bind fun bt120 => (if t116.toList = ([97, 226, 151, 140, 32] : List UInt8) then (if bt118.1.toList = ([98, 226, 151, 140, 32] : List UInt8) then (if t117 = 0 then (if bt118.2 = 0 then (some (bt120.2 == 2)) else (some false)) else (some false)) else (some false)) else (some false)))) = some r := H
  have A1 := Aside0.mk A10
  clear A10
  replace H := Option.bind_eq_some_iff.mp H
  obtain ⟨⟨t118, t119⟩, A20, H⟩ := H
  replace H : ((hand_Read.f k y113 4).bind fun bt120 => (if t116.toList = ([97, 226, 151, 140, 32] : List UInt8) then (if t118.toList = ([98, 226, 151, 140, 32] : List UInt8) then (if t117 = 0 then (if t119 = 0 then (some (bt120.2 == 2)) else (some false)) else (some false)) else (some false)) else (some false))) = some r := H
  have A2 := Aside0.mk A20
  clear A20
  replace H := Option.bind_eq_some_iff.mp H
  obtain ⟨⟨t120, t121⟩, A30, H⟩ := H
  replace H : (if t116.toList = ([97, 226, 151, 140, 32] : List UInt8) then (if t118.toList = ([98, 226, 151, 140, 32] : List UInt8) then (if t117 = 0 then (if t119 = 0 then (some (t121 == 2)) else (some false)) else (some false)) else (some false)) else (some false)) = some r := H
  have A3 := Aside0.mk A30
  clear A30
  by_cases c4 : t116.toList = ([97, 226, 151, 140, 32] : List UInt8)
  · rw [if_pos c4] at H
    have c4b0 : (t116.toList == ([97, 226, 151, 140, 32] : List UInt8)) = true := beq_iff_eq.mpr c4
    have c4b1 : (t116.toList != ([97, 226, 151, 140, 32] : List UInt8)) = false := bne_eq_false_iff_eq.mpr c4
    clear c4
    by_cases c5 : t118.toList = ([98, 226, 151, 140, 32] : List UInt8)
    · rw [if_pos c5] at H
      have c5b0 : (t118.toList == ([98, 226, 151, 140, 32] : List UInt8)) = true := beq_iff_eq.mpr c5
      have c5b1 : (t118.toList != ([98, 226, 151, 140, 32] : List UInt8)) = false := bne_eq_false_iff_eq.mpr c5
      clear c5
      by_cases c6 : t117 = 0
      · rw [if_pos c6] at H
        have c6b0 : (t117 == 0) = true := beq_iff_eq.mpr c6
        have c6b1 : (t117 != 0) = false := bne_eq_false_iff_eq.mpr c6
        clear c6
        by_cases c7 : t119 = 0
        · rw [if_pos c7] at H
          have c7b0 : (t119 == 0) = true := beq_iff_eq.mpr c7
          have c7b1 : (t119 != 0) = false := bne_eq_false_iff_eq.mpr c7
          clear c7
          obtain rfl := Option.some.inj H
          go_enter Try.func9, Try.ntmps9
          go_wp2_with (first | ((with_reducible refine gate_dst (N := 8) rfl ?_); refine Kd.R_lit Kd.string _ 9 ?hg (N := 8) ?hd (xs := ([(⟨#[97]⟩ : ByteArray), (⟨#[98]⟩ : ByteArray)] : List ByteArray)) (inner := [.string (⟨#[97]⟩ : ByteArray), .string (⟨#[98]⟩ : ByteArray)]) (ok := fun _ => True) (okp := fun _ => True) ?hr ?hp (fun _ hk => hk) trivial (Below.refl _ _) (Nat.le_refl _) (by simp) ?_; (case hd => rfl); (case hg => rfl); (case hr => first | (go_simp; done) | (go_simp; rfl)); (case hp => exact (Reps.one (show Kd.M Kd.string _ _ _ (⟨#[97]⟩ : ByteArray) [.string (⟨#[97]⟩ : ByteArray)] from rfl) (Reps.one (show Kd.M Kd.string _ _ _ (⟨#[98]⟩ : ByteArray) [.string (⟨#[98]⟩ : ByteArray)] from rfl) (Reps.none _ _)))); intro v111 w8 ho9 hb hg_ hnew_; clear hg_ hnew_; (first | rw [← Ny110.out] at ho9 | (simp only [Int.reduceToNat] at ho9; rw [← Ny110.out] at ho9)); have n0_ := Aside0.mk (Kd.R_lower ho9 (below_size (by repeat (first | (with_reducible first | exact HB.out | apply below_alloc | apply pw_below_drewN | apply below_drew1) | exact HB.out)))); have n1_ := Aside0.mk (below_step (by repeat (first | (with_reducible first | exact HB.out | apply below_alloc | apply pw_below_drewN | apply below_drew1) | exact HB.out)) hb); clear HB; have HO112 := n0_; have HB := n1_; clear n0_ n1_; clear hb ho9; obtain ⟨Ao10, co10, eo10⟩ := Kd.R_slice HO112.out; subst eo10) | ((with_reducible refine gate_dst (N := 11) rfl ?_); refine Kd.N_lit k37 _ 37 ?hg (N' := 11) ?hd (xs := ([(⟨3, y110, 0⟩ : S37), (⟨2, ([] : List ByteArray), 1⟩ : S37)] : List (S37))) (inner := [.int .i64 3, .slice Ao10 y110.length co10, .int .i64 0, .int .i64 2, .slice none 0 0, .int .i64 1]) (ok := (fun _ => True)) (okp := (fun _ => True)) ?hr ?hp (fun _ hk => hk) ((show ∀ k_, w8.heap.size ≤ k_ → (fun _ => True) k_ from fun k_ hk => trivial) _ (Nat.le_refl _)) (Below.refl _ _) (Nat.le_refl _) (by simp) ?_; (case hd => rfl); (case hg => rfl); (case hr => first | (go_simp; done) | (go_simp; rfl)); (case hp => exact (Reps.c3 (show Kd.FK k37 _ _ (⟨3, y110, 0⟩ : S37) [.int .i64 3, .slice Ao10 y110.length co10, .int .i64 0] from (k37_mkF _ _ (⟨3, y110, 0⟩ : S37) (Kd.R_reads' (Kd.R_mono (ok' := (fun _ => True)) (HO112.out) (fun k_ hk => trivial))).2.1 (Kd.R_F (Kd.R_mono (ok' := (fun _ => True)) (HO112.out) (fun k_ hk => trivial))))) (Reps.c3 (show Kd.FK k37 _ _ (⟨2, ([] : List ByteArray), 1⟩ : S37) [.int .i64 2, .slice none 0 0, .int .i64 1] from (k37_mkF _ _ (⟨2, ([] : List ByteArray), 1⟩ : S37) (Nat.le_refl _) (Kd.F_nil _ _ _))) (Reps.none _ _)))); intro v114 w11 ho12 hb hg_ hnew_; clear hg_ hnew_; (first | rw [← Ny113.out] at ho12 | (simp only [Int.reduceToNat] at ho12; rw [← Ny113.out] at ho12)); have n0_ := Aside0.mk (Kd.N_lower ho12 (below_size (by repeat (first | (with_reducible first | exact HB.out | apply below_alloc | apply pw_below_drewN | apply below_drew1) | exact HB.out)))); have n1_ := Aside0.mk (below_step (by repeat (first | (with_reducible first | exact HB.out | apply below_alloc | apply pw_below_drewN | apply below_drew1) | exact HB.out)) hb); clear HB; clear HO112; have HO115 := n0_; have HB := n1_; clear n0_ n1_; clear hb ho12; obtain ⟨Ao13, co13, eo13⟩ := Kd.N_slice HO115.out; subst eo13) | ((with_reducible refine gate_callee (f := 12) rfl ?_); refine goesL_ (some 14) rfl rfl Try.func12 (by kernel_rfl) rfl #[.slice Ao13 y113.length co13, .int .i64 0] rfl (by (try simp only [List.map_toArray, List.map_cons, List.map_nil]); first | done | rfl | (simp only [List.length_drop, List.length_take]; rfl)) ?_; (with_reducible refine (hand_Read.calls k _ _ y113 0 t116 t117 _ ?side1 ?side2 A1.out).mono ?_); (case side1 => repeat (first | exact (Kd.N_reads' HO115.out).2.2 | (with_reducible refine Kd.C_alloc ?_ _) | (with_reducible refine Kd.C_drewN ?_ _) | (with_reducible refine Kd.C_drew ?_))); (case side2 => exact (Kd.N_reads' HO115.out).2.1); rintro e w14 ⟨rfl, hb⟩; refine ⟨_, rfl, ?_⟩; have n0_ := Aside0.mk (Kd.N_below (by (with_reducible repeat (first | apply Kd.N_alloc | apply Kd.N_drewN | apply Kd.N_drew)); exact HO115.out) hb); have n1_ := Aside0.mk (below_step (by repeat (first | (with_reducible first | exact HB.out | apply below_alloc | apply pw_below_drewN | apply below_drew1) | exact HB.out)) hb); clear HO115; clear HB; have HO115 := n0_; have HB := n1_; clear n0_ n1_; (try clear hb); (try clear hb2); (try clear hk); (try clear hi)) | ((with_reducible refine gate_callee (f := 12) rfl ?_); refine goesL_ (some 19) rfl rfl Try.func12 (by kernel_rfl) rfl #[.slice Ao13 y113.length co13, .int .i64 3] rfl (by (try simp only [List.map_toArray, List.map_cons, List.map_nil]); first | done | rfl | (simp only [List.length_drop, List.length_take]; rfl)) ?_; (with_reducible refine (hand_Read.calls k _ _ y113 3 t118 t119 _ ?side1 ?side2 A2.out).mono ?_); (case side1 => repeat (first | exact (Kd.N_reads' HO115.out).2.2 | (with_reducible refine Kd.C_alloc ?_ _) | (with_reducible refine Kd.C_drewN ?_ _) | (with_reducible refine Kd.C_drew ?_))); (case side2 => exact (Kd.N_reads' HO115.out).2.1); rintro e w15 ⟨rfl, hb⟩; refine ⟨_, rfl, ?_⟩; have n0_ := Aside0.mk (Kd.N_below (by (with_reducible repeat (first | apply Kd.N_alloc | apply Kd.N_drewN | apply Kd.N_drew)); exact HO115.out) hb); have n1_ := Aside0.mk (below_step (by repeat (first | (with_reducible first | exact HB.out | apply below_alloc | apply pw_below_drewN | apply below_drew1) | exact HB.out)) hb); clear HO115; clear HB; have HO115 := n0_; have HB := n1_; clear n0_ n1_; (try clear hb); (try clear hb2); (try clear hk); (try clear hi)) | ((with_reducible refine gate_callee (f := 12) rfl ?_); refine goesL_ (some 24) rfl rfl Try.func12 (by kernel_rfl) rfl #[.slice Ao13 y113.length co13, .int .i64 4] rfl (by (try simp only [List.map_toArray, List.map_cons, List.map_nil]); first | done | rfl | (simp only [List.length_drop, List.length_take]; rfl)) ?_; (with_reducible refine (hand_Read.calls k _ _ y113 4 t120 t121 _ ?side1 ?side2 A3.out).mono ?_); (case side1 => repeat (first | exact (Kd.N_reads' HO115.out).2.2 | (with_reducible refine Kd.C_alloc ?_ _) | (with_reducible refine Kd.C_drewN ?_ _) | (with_reducible refine Kd.C_drew ?_))); (case side2 => exact (Kd.N_reads' HO115.out).2.1); rintro e w16 ⟨rfl, hb⟩; refine ⟨_, rfl, ?_⟩; have n0_ := Aside0.mk (Kd.N_below (by (with_reducible repeat (first | apply Kd.N_alloc | apply Kd.N_drewN | apply Kd.N_drew)); exact HO115.out) hb); have n1_ := Aside0.mk (below_step (by repeat (first | (with_reducible first | exact HB.out | apply below_alloc | apply pw_below_drewN | apply below_drew1) | exact HB.out)) hb); clear HO115; clear HB; have HO115 := n0_; have HB := n1_; clear n0_ n1_; (try clear hb); (try clear hb2); (try clear hk); (try clear hi)))
          go_ret
          exact ⟨by first | rfl | (simp [errW_none, errW_some] <;> rfl) | (simp [*, errW_none, errW_some] <;> rfl), by repeat (first | (with_reducible first | exact HB.out | apply below_alloc | apply pw_below_drewN | apply below_drew1) | exact HB.out)⟩
        · rw [if_neg c7] at H
          have c7b0 : (t119 == 0) = false := beq_eq_false_iff_ne.mpr c7
          have c7b1 : (t119 != 0) = true := bne_iff_ne.mpr c7
          obtain rfl := Option.some.inj H
          go_enter Try.func9, Try.ntmps9
          go_wp2_with (first | ((with_reducible refine gate_dst (N := 8) rfl ?_); refine Kd.R_lit Kd.string _ 9 ?hg (N := 8) ?hd (xs := ([(⟨#[97]⟩ : ByteArray), (⟨#[98]⟩ : ByteArray)] : List ByteArray)) (inner := [.string (⟨#[97]⟩ : ByteArray), .string (⟨#[98]⟩ : ByteArray)]) (ok := fun _ => True) (okp := fun _ => True) ?hr ?hp (fun _ hk => hk) trivial (Below.refl _ _) (Nat.le_refl _) (by simp) ?_; (case hd => rfl); (case hg => rfl); (case hr => first | (go_simp; done) | (go_simp; rfl)); (case hp => exact (Reps.one (show Kd.M Kd.string _ _ _ (⟨#[97]⟩ : ByteArray) [.string (⟨#[97]⟩ : ByteArray)] from rfl) (Reps.one (show Kd.M Kd.string _ _ _ (⟨#[98]⟩ : ByteArray) [.string (⟨#[98]⟩ : ByteArray)] from rfl) (Reps.none _ _)))); intro v111 w17 ho18 hb hg_ hnew_; clear hg_ hnew_; (first | rw [← Ny110.out] at ho18 | (simp only [Int.reduceToNat] at ho18; rw [← Ny110.out] at ho18)); have n0_ := Aside0.mk (Kd.R_lower ho18 (below_size (by repeat (first | (with_reducible first | exact HB.out | apply below_alloc | apply pw_below_drewN | apply below_drew1) | exact HB.out)))); have n1_ := Aside0.mk (below_step (by repeat (first | (with_reducible first | exact HB.out | apply below_alloc | apply pw_below_drewN | apply below_drew1) | exact HB.out)) hb); clear HB; have HO112 := n0_; have HB := n1_; clear n0_ n1_; clear hb ho18; obtain ⟨Ao19, co19, eo19⟩ := Kd.R_slice HO112.out; subst eo19) | ((with_reducible refine gate_dst (N := 11) rfl ?_); refine Kd.N_lit k37 _ 37 ?hg (N' := 11) ?hd (xs := ([(⟨3, y110, 0⟩ : S37), (⟨2, ([] : List ByteArray), 1⟩ : S37)] : List (S37))) (inner := [.int .i64 3, .slice Ao19 y110.length co19, .int .i64 0, .int .i64 2, .slice none 0 0, .int .i64 1]) (ok := (fun _ => True)) (okp := (fun _ => True)) ?hr ?hp (fun _ hk => hk) ((show ∀ k_, w17.heap.size ≤ k_ → (fun _ => True) k_ from fun k_ hk => trivial) _ (Nat.le_refl _)) (Below.refl _ _) (Nat.le_refl _) (by simp) ?_; (case hd => rfl); (case hg => rfl); (case hr => first | (go_simp; done) | (go_simp; rfl)); (case hp => exact (Reps.c3 (show Kd.FK k37 _ _ (⟨3, y110, 0⟩ : S37) [.int .i64 3, .slice Ao19 y110.length co19, .int .i64 0] from (k37_mkF _ _ (⟨3, y110, 0⟩ : S37) (Kd.R_reads' (Kd.R_mono (ok' := (fun _ => True)) (HO112.out) (fun k_ hk => trivial))).2.1 (Kd.R_F (Kd.R_mono (ok' := (fun _ => True)) (HO112.out) (fun k_ hk => trivial))))) (Reps.c3 (show Kd.FK k37 _ _ (⟨2, ([] : List ByteArray), 1⟩ : S37) [.int .i64 2, .slice none 0 0, .int .i64 1] from (k37_mkF _ _ (⟨2, ([] : List ByteArray), 1⟩ : S37) (Nat.le_refl _) (Kd.F_nil _ _ _))) (Reps.none _ _)))); intro v114 w20 ho21 hb hg_ hnew_; clear hg_ hnew_; (first | rw [← Ny113.out] at ho21 | (simp only [Int.reduceToNat] at ho21; rw [← Ny113.out] at ho21)); have n0_ := Aside0.mk (Kd.N_lower ho21 (below_size (by repeat (first | (with_reducible first | exact HB.out | apply below_alloc | apply pw_below_drewN | apply below_drew1) | exact HB.out)))); have n1_ := Aside0.mk (below_step (by repeat (first | (with_reducible first | exact HB.out | apply below_alloc | apply pw_below_drewN | apply below_drew1) | exact HB.out)) hb); clear HB; clear HO112; have HO115 := n0_; have HB := n1_; clear n0_ n1_; clear hb ho21; obtain ⟨Ao22, co22, eo22⟩ := Kd.N_slice HO115.out; subst eo22) | ((with_reducible refine gate_callee (f := 12) rfl ?_); refine goesL_ (some 14) rfl rfl Try.func12 (by kernel_rfl) rfl #[.slice Ao22 y113.length co22, .int .i64 0] rfl (by (try simp only [List.map_toArray, List.map_cons, List.map_nil]); first | done | rfl | (simp only [List.length_drop, List.length_take]; rfl)) ?_; (with_reducible refine (hand_Read.calls k _ _ y113 0 t116 t117 _ ?side1 ?side2 A1.out).mono ?_); (case side1 => repeat (first | exact (Kd.N_reads' HO115.out).2.2 | (with_reducible refine Kd.C_alloc ?_ _) | (with_reducible refine Kd.C_drewN ?_ _) | (with_reducible refine Kd.C_drew ?_))); (case side2 => exact (Kd.N_reads' HO115.out).2.1); rintro e w23 ⟨rfl, hb⟩; refine ⟨_, rfl, ?_⟩; have n0_ := Aside0.mk (Kd.N_below (by (with_reducible repeat (first | apply Kd.N_alloc | apply Kd.N_drewN | apply Kd.N_drew)); exact HO115.out) hb); have n1_ := Aside0.mk (below_step (by repeat (first | (with_reducible first | exact HB.out | apply below_alloc | apply pw_below_drewN | apply below_drew1) | exact HB.out)) hb); clear HO115; clear HB; have HO115 := n0_; have HB := n1_; clear n0_ n1_; (try clear hb); (try clear hb2); (try clear hk); (try clear hi)) | ((with_reducible refine gate_callee (f := 12) rfl ?_); refine goesL_ (some 19) rfl rfl Try.func12 (by kernel_rfl) rfl #[.slice Ao22 y113.length co22, .int .i64 3] rfl (by (try simp only [List.map_toArray, List.map_cons, List.map_nil]); first | done | rfl | (simp only [List.length_drop, List.length_take]; rfl)) ?_; (with_reducible refine (hand_Read.calls k _ _ y113 3 t118 t119 _ ?side1 ?side2 A2.out).mono ?_); (case side1 => repeat (first | exact (Kd.N_reads' HO115.out).2.2 | (with_reducible refine Kd.C_alloc ?_ _) | (with_reducible refine Kd.C_drewN ?_ _) | (with_reducible refine Kd.C_drew ?_))); (case side2 => exact (Kd.N_reads' HO115.out).2.1); rintro e w24 ⟨rfl, hb⟩; refine ⟨_, rfl, ?_⟩; have n0_ := Aside0.mk (Kd.N_below (by (with_reducible repeat (first | apply Kd.N_alloc | apply Kd.N_drewN | apply Kd.N_drew)); exact HO115.out) hb); have n1_ := Aside0.mk (below_step (by repeat (first | (with_reducible first | exact HB.out | apply below_alloc | apply pw_below_drewN | apply below_drew1) | exact HB.out)) hb); clear HO115; clear HB; have HO115 := n0_; have HB := n1_; clear n0_ n1_; (try clear hb); (try clear hb2); (try clear hk); (try clear hi)) | ((with_reducible refine gate_callee (f := 12) rfl ?_); refine goesL_ (some 24) rfl rfl Try.func12 (by kernel_rfl) rfl #[.slice Ao22 y113.length co22, .int .i64 4] rfl (by (try simp only [List.map_toArray, List.map_cons, List.map_nil]); first | done | rfl | (simp only [List.length_drop, List.length_take]; rfl)) ?_; (with_reducible refine (hand_Read.calls k _ _ y113 4 t120 t121 _ ?side1 ?side2 A3.out).mono ?_); (case side1 => repeat (first | exact (Kd.N_reads' HO115.out).2.2 | (with_reducible refine Kd.C_alloc ?_ _) | (with_reducible refine Kd.C_drewN ?_ _) | (with_reducible refine Kd.C_drew ?_))); (case side2 => exact (Kd.N_reads' HO115.out).2.1); rintro e w25 ⟨rfl, hb⟩; refine ⟨_, rfl, ?_⟩; have n0_ := Aside0.mk (Kd.N_below (by (with_reducible repeat (first | apply Kd.N_alloc | apply Kd.N_drewN | apply Kd.N_drew)); exact HO115.out) hb); have n1_ := Aside0.mk (below_step (by repeat (first | (with_reducible first | exact HB.out | apply below_alloc | apply pw_below_drewN | apply below_drew1) | exact HB.out)) hb); clear HO115; clear HB; have HO115 := n0_; have HB := n1_; clear n0_ n1_; (try clear hb); (try clear hb2); (try clear hk); (try clear hi)))
          go_ret
          exact ⟨by first | rfl | (simp [errW_none, errW_some] <;> rfl) | (simp [*, errW_none, errW_some] <;> rfl), by repeat (first | (with_reducible first | exact HB.out | apply below_alloc | apply pw_below_drewN | apply below_drew1) | exact HB.out)⟩
      · rw [if_neg c6] at H
        have c6b0 : (t117 == 0) = false := beq_eq_false_iff_ne.mpr c6
        have c6b1 : (t117 != 0) = true := bne_iff_ne.mpr c6
        obtain rfl := Option.some.inj H
        go_enter Try.func9, Try.ntmps9
        go_wp2_with (first | ((with_reducible refine gate_dst (N := 8) rfl ?_); refine Kd.R_lit Kd.string _ 9 ?hg (N := 8) ?hd (xs := ([(⟨#[97]⟩ : ByteArray), (⟨#[98]⟩ : ByteArray)] : List ByteArray)) (inner := [.string (⟨#[97]⟩ : ByteArray), .string (⟨#[98]⟩ : ByteArray)]) (ok := fun _ => True) (okp := fun _ => True) ?hr ?hp (fun _ hk => hk) trivial (Below.refl _ _) (Nat.le_refl _) (by simp) ?_; (case hd => rfl); (case hg => rfl); (case hr => first | (go_simp; done) | (go_simp; rfl)); (case hp => exact (Reps.one (show Kd.M Kd.string _ _ _ (⟨#[97]⟩ : ByteArray) [.string (⟨#[97]⟩ : ByteArray)] from rfl) (Reps.one (show Kd.M Kd.string _ _ _ (⟨#[98]⟩ : ByteArray) [.string (⟨#[98]⟩ : ByteArray)] from rfl) (Reps.none _ _)))); intro v111 w26 ho27 hb hg_ hnew_; clear hg_ hnew_; (first | rw [← Ny110.out] at ho27 | (simp only [Int.reduceToNat] at ho27; rw [← Ny110.out] at ho27)); have n0_ := Aside0.mk (Kd.R_lower ho27 (below_size (by repeat (first | (with_reducible first | exact HB.out | apply below_alloc | apply pw_below_drewN | apply below_drew1) | exact HB.out)))); have n1_ := Aside0.mk (below_step (by repeat (first | (with_reducible first | exact HB.out | apply below_alloc | apply pw_below_drewN | apply below_drew1) | exact HB.out)) hb); clear HB; have HO112 := n0_; have HB := n1_; clear n0_ n1_; clear hb ho27; obtain ⟨Ao28, co28, eo28⟩ := Kd.R_slice HO112.out; subst eo28) | ((with_reducible refine gate_dst (N := 11) rfl ?_); refine Kd.N_lit k37 _ 37 ?hg (N' := 11) ?hd (xs := ([(⟨3, y110, 0⟩ : S37), (⟨2, ([] : List ByteArray), 1⟩ : S37)] : List (S37))) (inner := [.int .i64 3, .slice Ao28 y110.length co28, .int .i64 0, .int .i64 2, .slice none 0 0, .int .i64 1]) (ok := (fun _ => True)) (okp := (fun _ => True)) ?hr ?hp (fun _ hk => hk) ((show ∀ k_, w26.heap.size ≤ k_ → (fun _ => True) k_ from fun k_ hk => trivial) _ (Nat.le_refl _)) (Below.refl _ _) (Nat.le_refl _) (by simp) ?_; (case hd => rfl); (case hg => rfl); (case hr => first | (go_simp; done) | (go_simp; rfl)); (case hp => exact (Reps.c3 (show Kd.FK k37 _ _ (⟨3, y110, 0⟩ : S37) [.int .i64 3, .slice Ao28 y110.length co28, .int .i64 0] from (k37_mkF _ _ (⟨3, y110, 0⟩ : S37) (Kd.R_reads' (Kd.R_mono (ok' := (fun _ => True)) (HO112.out) (fun k_ hk => trivial))).2.1 (Kd.R_F (Kd.R_mono (ok' := (fun _ => True)) (HO112.out) (fun k_ hk => trivial))))) (Reps.c3 (show Kd.FK k37 _ _ (⟨2, ([] : List ByteArray), 1⟩ : S37) [.int .i64 2, .slice none 0 0, .int .i64 1] from (k37_mkF _ _ (⟨2, ([] : List ByteArray), 1⟩ : S37) (Nat.le_refl _) (Kd.F_nil _ _ _))) (Reps.none _ _)))); intro v114 w29 ho30 hb hg_ hnew_; clear hg_ hnew_; (first | rw [← Ny113.out] at ho30 | (simp only [Int.reduceToNat] at ho30; rw [← Ny113.out] at ho30)); have n0_ := Aside0.mk (Kd.N_lower ho30 (below_size (by repeat (first | (with_reducible first | exact HB.out | apply below_alloc | apply pw_below_drewN | apply below_drew1) | exact HB.out)))); have n1_ := Aside0.mk (below_step (by repeat (first | (with_reducible first | exact HB.out | apply below_alloc | apply pw_below_drewN | apply below_drew1) | exact HB.out)) hb); clear HB; clear HO112; have HO115 := n0_; have HB := n1_; clear n0_ n1_; clear hb ho30; obtain ⟨Ao31, co31, eo31⟩ := Kd.N_slice HO115.out; subst eo31) | ((with_reducible refine gate_callee (f := 12) rfl ?_); refine goesL_ (some 14) rfl rfl Try.func12 (by kernel_rfl) rfl #[.slice Ao31 y113.length co31, .int .i64 0] rfl (by (try simp only [List.map_toArray, List.map_cons, List.map_nil]); first | done | rfl | (simp only [List.length_drop, List.length_take]; rfl)) ?_; (with_reducible refine (hand_Read.calls k _ _ y113 0 t116 t117 _ ?side1 ?side2 A1.out).mono ?_); (case side1 => repeat (first | exact (Kd.N_reads' HO115.out).2.2 | (with_reducible refine Kd.C_alloc ?_ _) | (with_reducible refine Kd.C_drewN ?_ _) | (with_reducible refine Kd.C_drew ?_))); (case side2 => exact (Kd.N_reads' HO115.out).2.1); rintro e w32 ⟨rfl, hb⟩; refine ⟨_, rfl, ?_⟩; have n0_ := Aside0.mk (Kd.N_below (by (with_reducible repeat (first | apply Kd.N_alloc | apply Kd.N_drewN | apply Kd.N_drew)); exact HO115.out) hb); have n1_ := Aside0.mk (below_step (by repeat (first | (with_reducible first | exact HB.out | apply below_alloc | apply pw_below_drewN | apply below_drew1) | exact HB.out)) hb); clear HO115; clear HB; have HO115 := n0_; have HB := n1_; clear n0_ n1_; (try clear hb); (try clear hb2); (try clear hk); (try clear hi)) | ((with_reducible refine gate_callee (f := 12) rfl ?_); refine goesL_ (some 19) rfl rfl Try.func12 (by kernel_rfl) rfl #[.slice Ao31 y113.length co31, .int .i64 3] rfl (by (try simp only [List.map_toArray, List.map_cons, List.map_nil]); first | done | rfl | (simp only [List.length_drop, List.length_take]; rfl)) ?_; (with_reducible refine (hand_Read.calls k _ _ y113 3 t118 t119 _ ?side1 ?side2 A2.out).mono ?_); (case side1 => repeat (first | exact (Kd.N_reads' HO115.out).2.2 | (with_reducible refine Kd.C_alloc ?_ _) | (with_reducible refine Kd.C_drewN ?_ _) | (with_reducible refine Kd.C_drew ?_))); (case side2 => exact (Kd.N_reads' HO115.out).2.1); rintro e w33 ⟨rfl, hb⟩; refine ⟨_, rfl, ?_⟩; have n0_ := Aside0.mk (Kd.N_below (by (with_reducible repeat (first | apply Kd.N_alloc | apply Kd.N_drewN | apply Kd.N_drew)); exact HO115.out) hb); have n1_ := Aside0.mk (below_step (by repeat (first | (with_reducible first | exact HB.out | apply below_alloc | apply pw_below_drewN | apply below_drew1) | exact HB.out)) hb); clear HO115; clear HB; have HO115 := n0_; have HB := n1_; clear n0_ n1_; (try clear hb); (try clear hb2); (try clear hk); (try clear hi)) | ((with_reducible refine gate_callee (f := 12) rfl ?_); refine goesL_ (some 24) rfl rfl Try.func12 (by kernel_rfl) rfl #[.slice Ao31 y113.length co31, .int .i64 4] rfl (by (try simp only [List.map_toArray, List.map_cons, List.map_nil]); first | done | rfl | (simp only [List.length_drop, List.length_take]; rfl)) ?_; (with_reducible refine (hand_Read.calls k _ _ y113 4 t120 t121 _ ?side1 ?side2 A3.out).mono ?_); (case side1 => repeat (first | exact (Kd.N_reads' HO115.out).2.2 | (with_reducible refine Kd.C_alloc ?_ _) | (with_reducible refine Kd.C_drewN ?_ _) | (with_reducible refine Kd.C_drew ?_))); (case side2 => exact (Kd.N_reads' HO115.out).2.1); rintro e w34 ⟨rfl, hb⟩; refine ⟨_, rfl, ?_⟩; have n0_ := Aside0.mk (Kd.N_below (by (with_reducible repeat (first | apply Kd.N_alloc | apply Kd.N_drewN | apply Kd.N_drew)); exact HO115.out) hb); have n1_ := Aside0.mk (below_step (by repeat (first | (with_reducible first | exact HB.out | apply below_alloc | apply pw_below_drewN | apply below_drew1) | exact HB.out)) hb); clear HO115; clear HB; have HO115 := n0_; have HB := n1_; clear n0_ n1_; (try clear hb); (try clear hb2); (try clear hk); (try clear hi)))
        go_ret
        exact ⟨by first | rfl | (simp [errW_none, errW_some] <;> rfl) | (simp [*, errW_none, errW_some] <;> rfl), by repeat (first | (with_reducible first | exact HB.out | apply below_alloc | apply pw_below_drewN | apply below_drew1) | exact HB.out)⟩
    · rw [if_neg c5] at H
      have c5b0 : (t118.toList == ([98, 226, 151, 140, 32] : List UInt8)) = false := beq_eq_false_iff_ne.mpr c5
      have c5b1 : (t118.toList != ([98, 226, 151, 140, 32] : List UInt8)) = true := bne_iff_ne.mpr c5
      obtain rfl := Option.some.inj H
      go_enter Try.func9, Try.ntmps9
      go_wp2_with (first | ((with_reducible refine gate_dst (N := 8) rfl ?_); refine Kd.R_lit Kd.string _ 9 ?hg (N := 8) ?hd (xs := ([(⟨#[97]⟩ : ByteArray), (⟨#[98]⟩ : ByteArray)] : List ByteArray)) (inner := [.string (⟨#[97]⟩ : ByteArray), .string (⟨#[98]⟩ : ByteArray)]) (ok := fun _ => True) (okp := fun _ => True) ?hr ?hp (fun _ hk => hk) trivial (Below.refl _ _) (Nat.le_refl _) (by simp) ?_; (case hd => rfl); (case hg => rfl); (case hr => first | (go_simp; done) | (go_simp; rfl)); (case hp => exact (Reps.one (show Kd.M Kd.string _ _ _ (⟨#[97]⟩ : ByteArray) [.string (⟨#[97]⟩ : ByteArray)] from rfl) (Reps.one (show Kd.M Kd.string _ _ _ (⟨#[98]⟩ : ByteArray) [.string (⟨#[98]⟩ : ByteArray)] from rfl) (Reps.none _ _)))); intro v111 w35 ho36 hb hg_ hnew_; clear hg_ hnew_; (first | rw [← Ny110.out] at ho36 | (simp only [Int.reduceToNat] at ho36; rw [← Ny110.out] at ho36)); have n0_ := Aside0.mk (Kd.R_lower ho36 (below_size (by repeat (first | (with_reducible first | exact HB.out | apply below_alloc | apply pw_below_drewN | apply below_drew1) | exact HB.out)))); have n1_ := Aside0.mk (below_step (by repeat (first | (with_reducible first | exact HB.out | apply below_alloc | apply pw_below_drewN | apply below_drew1) | exact HB.out)) hb); clear HB; have HO112 := n0_; have HB := n1_; clear n0_ n1_; clear hb ho36; obtain ⟨Ao37, co37, eo37⟩ := Kd.R_slice HO112.out; subst eo37) | ((with_reducible refine gate_dst (N := 11) rfl ?_); refine Kd.N_lit k37 _ 37 ?hg (N' := 11) ?hd (xs := ([(⟨3, y110, 0⟩ : S37), (⟨2, ([] : List ByteArray), 1⟩ : S37)] : List (S37))) (inner := [.int .i64 3, .slice Ao37 y110.length co37, .int .i64 0, .int .i64 2, .slice none 0 0, .int .i64 1]) (ok := (fun _ => True)) (okp := (fun _ => True)) ?hr ?hp (fun _ hk => hk) ((show ∀ k_, w35.heap.size ≤ k_ → (fun _ => True) k_ from fun k_ hk => trivial) _ (Nat.le_refl _)) (Below.refl _ _) (Nat.le_refl _) (by simp) ?_; (case hd => rfl); (case hg => rfl); (case hr => first | (go_simp; done) | (go_simp; rfl)); (case hp => exact (Reps.c3 (show Kd.FK k37 _ _ (⟨3, y110, 0⟩ : S37) [.int .i64 3, .slice Ao37 y110.length co37, .int .i64 0] from (k37_mkF _ _ (⟨3, y110, 0⟩ : S37) (Kd.R_reads' (Kd.R_mono (ok' := (fun _ => True)) (HO112.out) (fun k_ hk => trivial))).2.1 (Kd.R_F (Kd.R_mono (ok' := (fun _ => True)) (HO112.out) (fun k_ hk => trivial))))) (Reps.c3 (show Kd.FK k37 _ _ (⟨2, ([] : List ByteArray), 1⟩ : S37) [.int .i64 2, .slice none 0 0, .int .i64 1] from (k37_mkF _ _ (⟨2, ([] : List ByteArray), 1⟩ : S37) (Nat.le_refl _) (Kd.F_nil _ _ _))) (Reps.none _ _)))); intro v114 w38 ho39 hb hg_ hnew_; clear hg_ hnew_; (first | rw [← Ny113.out] at ho39 | (simp only [Int.reduceToNat] at ho39; rw [← Ny113.out] at ho39)); have n0_ := Aside0.mk (Kd.N_lower ho39 (below_size (by repeat (first | (with_reducible first | exact HB.out | apply below_alloc | apply pw_below_drewN | apply below_drew1) | exact HB.out)))); have n1_ := Aside0.mk (below_step (by repeat (first | (with_reducible first | exact HB.out | apply below_alloc | apply pw_below_drewN | apply below_drew1) | exact HB.out)) hb); clear HB; clear HO112; have HO115 := n0_; have HB := n1_; clear n0_ n1_; clear hb ho39; obtain ⟨Ao40, co40, eo40⟩ := Kd.N_slice HO115.out; subst eo40) | ((with_reducible refine gate_callee (f := 12) rfl ?_); refine goesL_ (some 14) rfl rfl Try.func12 (by kernel_rfl) rfl #[.slice Ao40 y113.length co40, .int .i64 0] rfl (by (try simp only [List.map_toArray, List.map_cons, List.map_nil]); first | done | rfl | (simp only [List.length_drop, List.length_take]; rfl)) ?_; (with_reducible refine (hand_Read.calls k _ _ y113 0 t116 t117 _ ?side1 ?side2 A1.out).mono ?_); (case side1 => repeat (first | exact (Kd.N_reads' HO115.out).2.2 | (with_reducible refine Kd.C_alloc ?_ _) | (with_reducible refine Kd.C_drewN ?_ _) | (with_reducible refine Kd.C_drew ?_))); (case side2 => exact (Kd.N_reads' HO115.out).2.1); rintro e w41 ⟨rfl, hb⟩; refine ⟨_, rfl, ?_⟩; have n0_ := Aside0.mk (Kd.N_below (by (with_reducible repeat (first | apply Kd.N_alloc | apply Kd.N_drewN | apply Kd.N_drew)); exact HO115.out) hb); have n1_ := Aside0.mk (below_step (by repeat (first | (with_reducible first | exact HB.out | apply below_alloc | apply pw_below_drewN | apply below_drew1) | exact HB.out)) hb); clear HO115; clear HB; have HO115 := n0_; have HB := n1_; clear n0_ n1_; (try clear hb); (try clear hb2); (try clear hk); (try clear hi)) | ((with_reducible refine gate_callee (f := 12) rfl ?_); refine goesL_ (some 19) rfl rfl Try.func12 (by kernel_rfl) rfl #[.slice Ao40 y113.length co40, .int .i64 3] rfl (by (try simp only [List.map_toArray, List.map_cons, List.map_nil]); first | done | rfl | (simp only [List.length_drop, List.length_take]; rfl)) ?_; (with_reducible refine (hand_Read.calls k _ _ y113 3 t118 t119 _ ?side1 ?side2 A2.out).mono ?_); (case side1 => repeat (first | exact (Kd.N_reads' HO115.out).2.2 | (with_reducible refine Kd.C_alloc ?_ _) | (with_reducible refine Kd.C_drewN ?_ _) | (with_reducible refine Kd.C_drew ?_))); (case side2 => exact (Kd.N_reads' HO115.out).2.1); rintro e w42 ⟨rfl, hb⟩; refine ⟨_, rfl, ?_⟩; have n0_ := Aside0.mk (Kd.N_below (by (with_reducible repeat (first | apply Kd.N_alloc | apply Kd.N_drewN | apply Kd.N_drew)); exact HO115.out) hb); have n1_ := Aside0.mk (below_step (by repeat (first | (with_reducible first | exact HB.out | apply below_alloc | apply pw_below_drewN | apply below_drew1) | exact HB.out)) hb); clear HO115; clear HB; have HO115 := n0_; have HB := n1_; clear n0_ n1_; (try clear hb); (try clear hb2); (try clear hk); (try clear hi)) | ((with_reducible refine gate_callee (f := 12) rfl ?_); refine goesL_ (some 24) rfl rfl Try.func12 (by kernel_rfl) rfl #[.slice Ao40 y113.length co40, .int .i64 4] rfl (by (try simp only [List.map_toArray, List.map_cons, List.map_nil]); first | done | rfl | (simp only [List.length_drop, List.length_take]; rfl)) ?_; (with_reducible refine (hand_Read.calls k _ _ y113 4 t120 t121 _ ?side1 ?side2 A3.out).mono ?_); (case side1 => repeat (first | exact (Kd.N_reads' HO115.out).2.2 | (with_reducible refine Kd.C_alloc ?_ _) | (with_reducible refine Kd.C_drewN ?_ _) | (with_reducible refine Kd.C_drew ?_))); (case side2 => exact (Kd.N_reads' HO115.out).2.1); rintro e w43 ⟨rfl, hb⟩; refine ⟨_, rfl, ?_⟩; have n0_ := Aside0.mk (Kd.N_below (by (with_reducible repeat (first | apply Kd.N_alloc | apply Kd.N_drewN | apply Kd.N_drew)); exact HO115.out) hb); have n1_ := Aside0.mk (below_step (by repeat (first | (with_reducible first | exact HB.out | apply below_alloc | apply pw_below_drewN | apply below_drew1) | exact HB.out)) hb); clear HO115; clear HB; have HO115 := n0_; have HB := n1_; clear n0_ n1_; (try clear hb); (try clear hb2); (try clear hk); (try clear hi)))
      go_ret
      exact ⟨by first | rfl | (simp [errW_none, errW_some] <;> rfl) | (simp [*, errW_none, errW_some] <;> rfl), by repeat (first | (with_reducible first | exact HB.out | apply below_alloc | apply pw_below_drewN | apply below_drew1) | exact HB.out)⟩
  · rw [if_neg c4] at H
    have c4b0 : (t116.toList == ([97, 226, 151, 140, 32] : List UInt8)) = false := beq_eq_false_iff_ne.mpr c4
    have c4b1 : (t116.toList != ([97, 226, 151, 140, 32] : List UInt8)) = true := bne_iff_ne.mpr c4
    obtain rfl := Option.some.inj H
    go_enter Try.func9, Try.ntmps9
    go_wp2_with (first | ((with_reducible refine gate_dst (N := 8) rfl ?_); refine Kd.R_lit Kd.string _ 9 ?hg (N := 8) ?hd (xs := ([(⟨#[97]⟩ : ByteArray), (⟨#[98]⟩ : ByteArray)] : List ByteArray)) (inner := [.string (⟨#[97]⟩ : ByteArray), .string (⟨#[98]⟩ : ByteArray)]) (ok := fun _ => True) (okp := fun _ => True) ?hr ?hp (fun _ hk => hk) trivial (Below.refl _ _) (Nat.le_refl _) (by simp) ?_; (case hd => rfl); (case hg => rfl); (case hr => first | (go_simp; done) | (go_simp; rfl)); (case hp => exact (Reps.one (show Kd.M Kd.string _ _ _ (⟨#[97]⟩ : ByteArray) [.string (⟨#[97]⟩ : ByteArray)] from rfl) (Reps.one (show Kd.M Kd.string _ _ _ (⟨#[98]⟩ : ByteArray) [.string (⟨#[98]⟩ : ByteArray)] from rfl) (Reps.none _ _)))); intro v111 w44 ho45 hb hg_ hnew_; clear hg_ hnew_; (first | rw [← Ny110.out] at ho45 | (simp only [Int.reduceToNat] at ho45; rw [← Ny110.out] at ho45)); have n0_ := Aside0.mk (Kd.R_lower ho45 (below_size (by repeat (first | (with_reducible first | exact HB.out | apply below_alloc | apply pw_below_drewN | apply below_drew1) | exact HB.out)))); have n1_ := Aside0.mk (below_step (by repeat (first | (with_reducible first | exact HB.out | apply below_alloc | apply pw_below_drewN | apply below_drew1) | exact HB.out)) hb); clear HB; have HO112 := n0_; have HB := n1_; clear n0_ n1_; clear hb ho45; obtain ⟨Ao46, co46, eo46⟩ := Kd.R_slice HO112.out; subst eo46) | ((with_reducible refine gate_dst (N := 11) rfl ?_); refine Kd.N_lit k37 _ 37 ?hg (N' := 11) ?hd (xs := ([(⟨3, y110, 0⟩ : S37), (⟨2, ([] : List ByteArray), 1⟩ : S37)] : List (S37))) (inner := [.int .i64 3, .slice Ao46 y110.length co46, .int .i64 0, .int .i64 2, .slice none 0 0, .int .i64 1]) (ok := (fun _ => True)) (okp := (fun _ => True)) ?hr ?hp (fun _ hk => hk) ((show ∀ k_, w44.heap.size ≤ k_ → (fun _ => True) k_ from fun k_ hk => trivial) _ (Nat.le_refl _)) (Below.refl _ _) (Nat.le_refl _) (by simp) ?_; (case hd => rfl); (case hg => rfl); (case hr => first | (go_simp; done) | (go_simp; rfl)); (case hp => exact (Reps.c3 (show Kd.FK k37 _ _ (⟨3, y110, 0⟩ : S37) [.int .i64 3, .slice Ao46 y110.length co46, .int .i64 0] from (k37_mkF _ _ (⟨3, y110, 0⟩ : S37) (Kd.R_reads' (Kd.R_mono (ok' := (fun _ => True)) (HO112.out) (fun k_ hk => trivial))).2.1 (Kd.R_F (Kd.R_mono (ok' := (fun _ => True)) (HO112.out) (fun k_ hk => trivial))))) (Reps.c3 (show Kd.FK k37 _ _ (⟨2, ([] : List ByteArray), 1⟩ : S37) [.int .i64 2, .slice none 0 0, .int .i64 1] from (k37_mkF _ _ (⟨2, ([] : List ByteArray), 1⟩ : S37) (Nat.le_refl _) (Kd.F_nil _ _ _))) (Reps.none _ _)))); intro v114 w47 ho48 hb hg_ hnew_; clear hg_ hnew_; (first | rw [← Ny113.out] at ho48 | (simp only [Int.reduceToNat] at ho48; rw [← Ny113.out] at ho48)); have n0_ := Aside0.mk (Kd.N_lower ho48 (below_size (by repeat (first | (with_reducible first | exact HB.out | apply below_alloc | apply pw_below_drewN | apply below_drew1) | exact HB.out)))); have n1_ := Aside0.mk (below_step (by repeat (first | (with_reducible first | exact HB.out | apply below_alloc | apply pw_below_drewN | apply below_drew1) | exact HB.out)) hb); clear HB; clear HO112; have HO115 := n0_; have HB := n1_; clear n0_ n1_; clear hb ho48; obtain ⟨Ao49, co49, eo49⟩ := Kd.N_slice HO115.out; subst eo49) | ((with_reducible refine gate_callee (f := 12) rfl ?_); refine goesL_ (some 14) rfl rfl Try.func12 (by kernel_rfl) rfl #[.slice Ao49 y113.length co49, .int .i64 0] rfl (by (try simp only [List.map_toArray, List.map_cons, List.map_nil]); first | done | rfl | (simp only [List.length_drop, List.length_take]; rfl)) ?_; (with_reducible refine (hand_Read.calls k _ _ y113 0 t116 t117 _ ?side1 ?side2 A1.out).mono ?_); (case side1 => repeat (first | exact (Kd.N_reads' HO115.out).2.2 | (with_reducible refine Kd.C_alloc ?_ _) | (with_reducible refine Kd.C_drewN ?_ _) | (with_reducible refine Kd.C_drew ?_))); (case side2 => exact (Kd.N_reads' HO115.out).2.1); rintro e w50 ⟨rfl, hb⟩; refine ⟨_, rfl, ?_⟩; have n0_ := Aside0.mk (Kd.N_below (by (with_reducible repeat (first | apply Kd.N_alloc | apply Kd.N_drewN | apply Kd.N_drew)); exact HO115.out) hb); have n1_ := Aside0.mk (below_step (by repeat (first | (with_reducible first | exact HB.out | apply below_alloc | apply pw_below_drewN | apply below_drew1) | exact HB.out)) hb); clear HO115; clear HB; have HO115 := n0_; have HB := n1_; clear n0_ n1_; (try clear hb); (try clear hb2); (try clear hk); (try clear hi)) | ((with_reducible refine gate_callee (f := 12) rfl ?_); refine goesL_ (some 19) rfl rfl Try.func12 (by kernel_rfl) rfl #[.slice Ao49 y113.length co49, .int .i64 3] rfl (by (try simp only [List.map_toArray, List.map_cons, List.map_nil]); first | done | rfl | (simp only [List.length_drop, List.length_take]; rfl)) ?_; (with_reducible refine (hand_Read.calls k _ _ y113 3 t118 t119 _ ?side1 ?side2 A2.out).mono ?_); (case side1 => repeat (first | exact (Kd.N_reads' HO115.out).2.2 | (with_reducible refine Kd.C_alloc ?_ _) | (with_reducible refine Kd.C_drewN ?_ _) | (with_reducible refine Kd.C_drew ?_))); (case side2 => exact (Kd.N_reads' HO115.out).2.1); rintro e w51 ⟨rfl, hb⟩; refine ⟨_, rfl, ?_⟩; have n0_ := Aside0.mk (Kd.N_below (by (with_reducible repeat (first | apply Kd.N_alloc | apply Kd.N_drewN | apply Kd.N_drew)); exact HO115.out) hb); have n1_ := Aside0.mk (below_step (by repeat (first | (with_reducible first | exact HB.out | apply below_alloc | apply pw_below_drewN | apply below_drew1) | exact HB.out)) hb); clear HO115; clear HB; have HO115 := n0_; have HB := n1_; clear n0_ n1_; (try clear hb); (try clear hb2); (try clear hk); (try clear hi)) | ((with_reducible refine gate_callee (f := 12) rfl ?_); refine goesL_ (some 24) rfl rfl Try.func12 (by kernel_rfl) rfl #[.slice Ao49 y113.length co49, .int .i64 4] rfl (by (try simp only [List.map_toArray, List.map_cons, List.map_nil]); first | done | rfl | (simp only [List.length_drop, List.length_take]; rfl)) ?_; (with_reducible refine (hand_Read.calls k _ _ y113 4 t120 t121 _ ?side1 ?side2 A3.out).mono ?_); (case side1 => repeat (first | exact (Kd.N_reads' HO115.out).2.2 | (with_reducible refine Kd.C_alloc ?_ _) | (with_reducible refine Kd.C_drewN ?_ _) | (with_reducible refine Kd.C_drew ?_))); (case side2 => exact (Kd.N_reads' HO115.out).2.1); rintro e w52 ⟨rfl, hb⟩; refine ⟨_, rfl, ?_⟩; have n0_ := Aside0.mk (Kd.N_below (by (with_reducible repeat (first | apply Kd.N_alloc | apply Kd.N_drewN | apply Kd.N_drew)); exact HO115.out) hb); have n1_ := Aside0.mk (below_step (by repeat (first | (with_reducible first | exact HB.out | apply below_alloc | apply pw_below_drewN | apply below_drew1) | exact HB.out)) hb); clear HO115; clear HB; have HO115 := n0_; have HB := n1_; clear n0_ n1_; (try clear hb); (try clear hb2); (try clear hk); (try clear hi)))
    go_ret
    exact ⟨by first | rfl | (simp [errW_none, errW_some] <;> rfl) | (simp [*, errW_none, errW_some] <;> rfl), by repeat (first | (with_reducible first | exact HB.out | apply below_alloc | apply pw_below_drewN | apply below_drew1) | exact HB.out)⟩

/-! ### siglumref05_Right: function 13 -/
mutual
def siglumref05_Right.l0 : Nat → List (S37) → Int → Option (Bool)
  | 0, _, _ => none
  | k + 1, x0, x3 => if x3 < (x0.length : Int) then (if 0 ≤ x3 then (if ((rd_T37 x0 x3).f0) = 1 then (siglumref05_Right.j1 k x0 x3 (((rd_T37 x0 x3).f1).length : Int) ((rd_T37 x0 x3).f0) (((rd_T37 x0 x3).f0) == 1) ((rd_T37 x0 x3).f0) ((rd_T37 x0 x3).f1) ((rd_T37 x0 x3).f2)) else (siglumref05_Right.j1 k x0 x3 (((rd_T37 x0 x3).f1).length : Int) ((rd_T37 x0 x3).f0) (((rd_T37 x0 x3).f0) == 4) ((rd_T37 x0 x3).f0) ((rd_T37 x0 x3).f1) ((rd_T37 x0 x3).f2))) else (none)) else (some true)
def siglumref05_Right.j1 : Nat → List (S37) → Int → Int → Int → Bool → Int → List ByteArray → Int → Option (Bool)
  | 0, _, _, _, _, _, _, _, _ => none
  | k + 1, x0, x3, x5, x20, x21, x124000, x124001, x124002 => if x21 = true then (if x5 = 1 then (if 0 < (x124001.length : Int) then (if (rdOf ByteArray.empty x124001 0).toList = ([] : List UInt8) then (siglumref05_Right.j2 k x0 x3 true x124000 x124001 x124002) else (siglumref05_Right.j2 k x0 x3 (x124002 != 0) x124000 x124001 x124002)) else (none)) else (siglumref05_Right.j2 k x0 x3 true x124000 x124001 x124002)) else (if x20 = 2 then (if x5 = 0 then (if x124002 < 1 then (some false) else (if x124002 > 99 then (some false) else (siglumref05_Right.l0 k x0 (wrap64 (x3 + 1))))) else (some false)) else (if x20 = 3 then (if x5 < 2 then (some false) else (if x5 > 4 then (some false) else (if x124002 = 0 then (siglumref05_Right.l0 k x0 (wrap64 (x3 + 1))) else (some false)))) else (some false)))
def siglumref05_Right.j2 : Nat → List (S37) → Int → Bool → Int → List ByteArray → Int → Option (Bool)
  | 0, _, _, _, _, _, _ => none
  | k + 1, x0, x3, x37, x124000, x124001, x124002 => if x37 = true then (some false) else (if x124000 = 1 then (if x3 > 0 then (if 0 ≤ (wrap64 (x3 - 1)) then (if (wrap64 (x3 - 1)) < (x0.length : Int) then (if ((rd_T37 x0 (wrap64 (x3 - 1))).f0) = 1 then (some false) else (siglumref05_Right.l0 k x0 (wrap64 (x3 + 1)))) else (none)) else (none)) else (siglumref05_Right.l0 k x0 (wrap64 (x3 + 1)))) else (siglumref05_Right.l0 k x0 (wrap64 (x3 + 1))))
end
def siglumref05_Right.f (k : Nat) (l0 : List (S37)) : Option (Bool) := siglumref05_Right.l0 k l0 0
theorem siglumref05_Right.mono_l : ∀ k, (∀ y0 y1, LeO (siglumref05_Right.l0 k y0 y1) (siglumref05_Right.l0 (k + 1) y0 y1)) ∧ (∀ y0 y1 y2 y3 y4 y5 y6 y7, LeO (siglumref05_Right.j1 k y0 y1 y2 y3 y4 y5 y6 y7) (siglumref05_Right.j1 (k + 1) y0 y1 y2 y3 y4 y5 y6 y7)) ∧ (∀ y0 y1 y2 y3 y4 y5, LeO (siglumref05_Right.j2 k y0 y1 y2 y3 y4 y5) (siglumref05_Right.j2 (k + 1) y0 y1 y2 y3 y4 y5))
  | 0 => ⟨fun _ _ r h => by simp [siglumref05_Right.l0] at h, fun _ _ _ _ _ _ _ _ r h => by simp [siglumref05_Right.j1] at h, fun _ _ _ _ _ _ r h => by simp [siglumref05_Right.j2] at h⟩
  | k + 1 => by
    obtain ⟨ih0, ih1, ih2⟩ := siglumref05_Right.mono_l k
    refine ⟨?_, ?_, ?_⟩
    · intro y0 y1
      unfold siglumref05_Right.l0
      repeat' first
      | (with_reducible exact ih0 _ _)
      | (with_reducible exact ih1 _ _ _ _ _ _ _ _)
      | (with_reducible exact ih2 _ _ _ _ _ _)
      | (with_reducible exact LeO.refl _)
      | (with_reducible exact LeO.none _)
      | (with_reducible refine LeO.ite ?_ ?_)
      | (with_reducible refine LeO.bind ?_ (fun _ => ?_))
      | exact ih0 _ _
      | exact ih1 _ _ _ _ _ _ _ _
      | exact ih2 _ _ _ _ _ _
      | exact LeO.none _
      | refine LeO.ite ?_ ?_
      | refine LeO.bind ?_ (fun _ => ?_)
    · intro y0 y1 y2 y3 y4 y5 y6 y7
      unfold siglumref05_Right.j1
      repeat' first
      | (with_reducible exact ih0 _ _)
      | (with_reducible exact ih1 _ _ _ _ _ _ _ _)
      | (with_reducible exact ih2 _ _ _ _ _ _)
      | (with_reducible exact LeO.refl _)
      | (with_reducible exact LeO.none _)
      | (with_reducible refine LeO.ite ?_ ?_)
      | (with_reducible refine LeO.bind ?_ (fun _ => ?_))
      | exact ih0 _ _
      | exact ih1 _ _ _ _ _ _ _ _
      | exact ih2 _ _ _ _ _ _
      | exact LeO.none _
      | refine LeO.ite ?_ ?_
      | refine LeO.bind ?_ (fun _ => ?_)
    · intro y0 y1 y2 y3 y4 y5
      unfold siglumref05_Right.j2
      repeat' first
      | (with_reducible exact ih0 _ _)
      | (with_reducible exact ih1 _ _ _ _ _ _ _ _)
      | (with_reducible exact ih2 _ _ _ _ _ _)
      | (with_reducible exact LeO.refl _)
      | (with_reducible exact LeO.none _)
      | (with_reducible refine LeO.ite ?_ ?_)
      | (with_reducible refine LeO.bind ?_ (fun _ => ?_))
      | exact ih0 _ _
      | exact ih1 _ _ _ _ _ _ _ _
      | exact ih2 _ _ _ _ _ _
      | exact LeO.none _
      | refine LeO.ite ?_ ?_
      | refine LeO.bind ?_ (fun _ => ?_)
theorem siglumref05_Right.mono : ∀ a0 k, LeO (siglumref05_Right.f k a0) (siglumref05_Right.f (k + 1) a0) := by
  intro a0 k
  obtain ⟨ih0, ih1, ih2⟩ := siglumref05_Right.mono_l k
  unfold siglumref05_Right.f
  repeat' first
      | (with_reducible exact ih0 _ _)
      | (with_reducible exact ih1 _ _ _ _ _ _ _ _)
      | (with_reducible exact ih2 _ _ _ _ _ _)
      | (with_reducible exact LeO.refl _)
      | (with_reducible exact LeO.none _)
      | (with_reducible refine LeO.ite ?_ ?_)
      | (with_reducible refine LeO.bind ?_ (fun _ => ?_))
      | exact ih0 _ _
      | exact ih1 _ _ _ _ _ _ _ _
      | exact ih2 _ _ _ _ _ _
      | exact LeO.none _
      | refine LeO.ite ?_ ?_
      | refine LeO.bind ?_ (fun _ => ?_)
set_option maxHeartbeats 8000000 in
set_option maxRecDepth 100000 in
theorem siglumref05_Right.calls (k : Nat) (A0 : Option Addr) (c0 : Nat) (l0 : List (S37)) (r : Bool) (w : World) (hr0 : Kd.C k37 w A0 l0.length l0) (hc0 : l0.length ≤ c0) (h : siglumref05_Right.f k l0 = some r) :
    Calls Try.prog 13 #[.slice A0 l0.length c0] w fun e w' => e = .returned (.bool r) ∧ Below w.heap.size w w' := by
  have hu37 := Try.underlying37
  have HR0 := Aside0.mk hr0
  have HC0 := Aside0.mk hc0
  clear hr0 hc0
  have HB := Aside0.mk (Below.refl w.heap.size w)
  have H : (siglumref05_Right.l0 k l0 0) = some r := h
  clear h
  have H' := Aside0.mk H
  clear H
  go_enter Try.func13, Try.ntmps13
  go_wp2
  go_loopg [3] k (fun kq v3 w' => ∃ (x3_1 : Int), v3 = .int .i64 x3_1 ∧ Aside0 (siglumref05_Right.l0 kq l0 x3_1 = some r) ∧ Aside0 (kq ≤ k) ∧ Aside0 (Below w.heap.size w w'))
  case atStart => exact ⟨(0), (by first | rfl | (simp; done) | (simp [*]; done)), H', ⟨Nat.le_refl _⟩, ⟨by repeat (first | (with_reducible first | exact HB.out | apply below_alloc | apply pw_below_drewN | apply below_drew1) | exact HB.out)⟩⟩
  case round =>
    clear H'
    try clear c1
    obtain ⟨x3_1, rfl, HA, HK1, HB⟩ := hrel
    cases gk with
    | zero => exact absurd HA.out (by simp [siglumref05_Right.l0])
    | succ k1 =>
      have H := HA.out
      clear HA
      simp only [siglumref05_Right.l0] at H
      by_cases c2 : x3_1 < (l0.length : Int)
      · rw [if_pos c2] at H
        have c2b0 : decide (x3_1 < (l0.length : Int)) = true := decide_eq_true c2
        clear c2
        by_cases c3 : 0 ≤ x3_1
        · rw [if_pos c3] at H
          have c3b0 : decide (0 ≤ x3_1) = true := decide_eq_true c3
          clear c3
          have HC4 := Aside0.mk H
          clear H
          have p122 : 0 ≤ (x3_1 : Int) := of_decide_eq_true (by first | (with_reducible assumption) | assumption)
          have q122 : x3_1 < (l0.length : Int) := of_decide_eq_true (by first | (with_reducible assumption) | assumption)
          obtain ⟨ad122, A122_1, c122_1, e122, hx122_0, hx122_1, hx122_2, hl122_1, hi122_1⟩ := at_T37 HR0.out x3_1 p122 q122
          cases e122
          replace hx122_0 := (HB.out.cell (World.block_lt_of_cell? w _ hx122_0)).trans hx122_0
          replace hx122_1 := (HB.out.cell (World.block_lt_of_cell? w _ hx122_1)).trans hx122_1
          replace hx122_2 := (HB.out.cell (World.block_lt_of_cell? w _ hx122_2)).trans hx122_2
          have HR122_1 := Aside0.mk hi122_1
          have HC122_1 := Aside0.mk hl122_1
          clear hi122_1 hl122_1
          replace p122 := eq_true p122
          replace q122 := eq_true q122
          go_upto_if 21 with (first | ((with_reducible refine gate_dst (N := 4) rfl ?_); refine box_event ?hg (N := 4) ?hd (cs := #[.int .i64 0, .slice none 0 0, .int .i64 0]) (t := 37) ?hr ?_; (case hd => rfl); (case hg => rfl); (case hr => first | (go_simp; done) | (go_simp; rfl)); intro gb123 hg w5 hbox hb; have n0_ := Aside0.mk (below_step (by repeat (first | (with_reducible first | exact HB.out | apply below_alloc | apply pw_below_drewN | apply below_drew1) | exact HB.out)) hb); have n1_ := Aside0.mk (hbox); have n2_ := Aside0.mk ((by rw [hg]; exact (below_size (by repeat (first | (with_reducible first | exact HB.out | apply below_alloc | apply pw_below_drewN | apply below_drew1) | exact HB.out))) : w.heap.size ≤ gb123)); have n3_ := Aside0.mk ((by rw [hg]; exact (below_size (by repeat (first | (with_reducible first | exact HB.out | apply below_alloc | apply pw_below_drewN | apply below_drew1) | exact HB.out))) : w.heap.size ≤ gb123)); clear HB; have HB := n0_; have BK123 := n1_; have GW123 := n2_; have GE123 := n3_; clear n0_ n1_ n2_ n3_; clear hb hbox hg; have hcz6_0 : w5.cell? ⟨gb123, 0, none⟩ = some (.int .i64 0) := (blk_cell BK123.out 0).trans rfl; have hcz6_1 : w5.cell? ⟨gb123, 1, none⟩ = some (.slice none 0 0) := (blk_cell BK123.out 1).trans rfl; have hcz6_2 : w5.cell? ⟨gb123, 2, none⟩ = some (.int .i64 0) := (blk_cell BK123.out 2).trans rfl; have hfz6_0 := blk_frozen BK123.out 0; have hfz6_1 := blk_frozen BK123.out 1; have hfz6_2 := blk_frozen BK123.out 2))
          (try simp only [Act.put, List.setIfInBounds_toArray, List.set_cons_zero, List.set_cons_succ])
          go_cut [21] (fun v21 wc => ∃ (kq : Nat) (x21_3 : Bool), v21 = .bool x21_3 ∧ Aside0 (siglumref05_Right.j1 kq l0 x3_1 (((rd_T37 l0 x3_1).f1).length : Int) ((rd_T37 l0 x3_1).f0) x21_3 ((rd_T37 l0 x3_1).f0) ((rd_T37 l0 x3_1).f1) ((rd_T37 l0 x3_1).f2) = some r) ∧ Aside0 (kq ≤ k1) ∧ Aside0 (wc.heap[gb123]? = some (.cells #[.int .i64 ((rd_T37 l0 x3_1).f0), (.slice A122_1 ((rd_T37 l0 x3_1).f1).length c122_1), .int .i64 ((rd_T37 l0 x3_1).f2)] 37 (0, 0))) ∧ Aside0 (Below w.heap.size w wc))
          case first =>
            have H := HC4.out
            clear HC4
            by_cases c7 : ((rd_T37 l0 x3_1).f0) = 1
            · rw [if_pos c7] at H
              have c7b0 : (((rd_T37 l0 x3_1).f0) == 1) = true := beq_iff_eq.mpr c7
              have c7b1 : (((rd_T37 l0 x3_1).f0) != 1) = false := bne_eq_false_iff_eq.mpr c7
              clear c7
              (first | rw [c7b0] | (simp only [i64_w, i32_w]; rw [c7b0]) | skip)
              have H' := Aside0.mk H
              clear H
              go_wp2
              go_meet
              case rel => exact ⟨_, ((((rd_T37 l0 x3_1).f0) == 1)), (by first | rfl | (simp; done) | (simp [*]; done)), H', ⟨by have := HK1.out; first | omega | exact Nat.le_refl _⟩, ⟨by (with_reducible repeat (first | refine blk_drewN ?_ _ | refine blk_drew ?_ | refine blk_alloc ?_ _)); refine blk_put (cs := #[.int .i64 ((rd_T37 l0 x3_1).f0), .slice A122_1 ((rd_T37 l0 x3_1).f1).length c122_1, .int .i64 0]) ?_ 2 _ rfl; (with_reducible repeat (first | refine blk_drewN ?_ _ | refine blk_drew ?_ | refine blk_alloc ?_ _)); refine blk_put (cs := #[.int .i64 ((rd_T37 l0 x3_1).f0), .slice none 0 0, .int .i64 0]) ?_ 1 _ rfl; (with_reducible repeat (first | refine blk_drewN ?_ _ | refine blk_drew ?_ | refine blk_alloc ?_ _)); refine blk_put (cs := #[.int .i64 0, .slice none 0 0, .int .i64 0]) ?_ 0 _ rfl; (with_reducible repeat (first | refine blk_drewN ?_ _ | refine blk_drew ?_ | refine blk_alloc ?_ _)); exact BK123.out⟩, ⟨by repeat (first | (with_reducible first | exact HB.out | apply below_alloc | apply pw_below_drewN | apply below_drew1 | refine below_set ?_ GE123.out) | exact HB.out)⟩⟩
            · rw [if_neg c7] at H
              have c7b0 : (((rd_T37 l0 x3_1).f0) == 1) = false := beq_eq_false_iff_ne.mpr c7
              have c7b1 : (((rd_T37 l0 x3_1).f0) != 1) = true := bne_iff_ne.mpr c7
              (first | rw [c7b0] | (simp only [i64_w, i32_w]; rw [c7b0]) | skip)
              have H' := Aside0.mk H
              clear H
              go_wp2
              go_meet
              case rel => exact ⟨_, ((((rd_T37 l0 x3_1).f0) == 4)), (by first | rfl | (simp; done) | (simp [*]; done)), H', ⟨by have := HK1.out; first | omega | exact Nat.le_refl _⟩, ⟨by (with_reducible repeat (first | refine blk_drewN ?_ _ | refine blk_drew ?_ | refine blk_alloc ?_ _)); refine blk_put (cs := #[.int .i64 ((rd_T37 l0 x3_1).f0), .slice A122_1 ((rd_T37 l0 x3_1).f1).length c122_1, .int .i64 0]) ?_ 2 _ rfl; (with_reducible repeat (first | refine blk_drewN ?_ _ | refine blk_drew ?_ | refine blk_alloc ?_ _)); refine blk_put (cs := #[.int .i64 ((rd_T37 l0 x3_1).f0), .slice none 0 0, .int .i64 0]) ?_ 1 _ rfl; (with_reducible repeat (first | refine blk_drewN ?_ _ | refine blk_drew ?_ | refine blk_alloc ?_ _)); refine blk_put (cs := #[.int .i64 0, .slice none 0 0, .int .i64 0]) ?_ 0 _ rfl; (with_reducible repeat (first | refine blk_drewN ?_ _ | refine blk_drew ?_ | refine blk_alloc ?_ _)); exact BK123.out⟩, ⟨by repeat (first | (with_reducible first | exact HB.out | apply below_alloc | apply pw_below_drewN | apply below_drew1 | refine below_set ?_ GE123.out) | exact HB.out)⟩⟩
          case rest =>
            clear HC4
            try clear c1
            try clear p1
            try clear q1
            try clear hx1
            try clear c2
            try clear c2b0
            try clear p2
            try clear c3
            try clear c3b0
            try clear c7
            try clear c7b0
            try clear c7b1
            try clear hcz6_0
            try clear hcz6_1
            try clear hcz6_2
            try clear hfz6_0
            try clear hfz6_1
            try clear hfz6_2
            try clear hx122_0
            try clear hx122_1
            try clear hx122_2
            try clear p122
            try clear q122
            obtain ⟨kq, x21_3, rfl, HA, HJ3, BK123, HB⟩ := hcut
            cases kq with
            | zero => exact absurd HA.out (by simp [siglumref05_Right.j1])
            | succ kj3 =>
              have H := HA.out
              clear HA
              simp only [siglumref05_Right.j1] at H
              by_cases c8 : x21_3 = true
              · subst c8
                have H1 : (if (((rd_T37 l0 x3_1).f1).length : Int) = 1 then (if 0 < (((rd_T37 l0 x3_1).f1).length : Int) then (if (rdOf ByteArray.empty ((rd_T37 l0 x3_1).f1) 0).toList = ([] : List UInt8) then (siglumref05_Right.j2 kj3 l0 x3_1 true ((rd_T37 l0 x3_1).f0) ((rd_T37 l0 x3_1).f1) ((rd_T37 l0 x3_1).f2)) else (siglumref05_Right.j2 kj3 l0 x3_1 (((rd_T37 l0 x3_1).f2) != 0) ((rd_T37 l0 x3_1).f0) ((rd_T37 l0 x3_1).f1) ((rd_T37 l0 x3_1).f2))) else (none)) else (siglumref05_Right.j2 kj3 l0 x3_1 true ((rd_T37 l0 x3_1).f0) ((rd_T37 l0 x3_1).f1) ((rd_T37 l0 x3_1).f2))) = some r := by rw [if_pos rfl] at H; exact H
                clear H
                have H := H1
                clear H1
                have HC9 := Aside0.mk H
                clear H
                go_upto_region 10 with (fail)
                go_cut [37] (fun v37 wc => ∃ (kq : Nat) (x37_8 : Bool), v37 = .bool x37_8 ∧ Aside0 (siglumref05_Right.j2 kq l0 x3_1 x37_8 ((rd_T37 l0 x3_1).f0) ((rd_T37 l0 x3_1).f1) ((rd_T37 l0 x3_1).f2) = some r) ∧ Aside0 (kq ≤ kj3) ∧ Aside0 (wc.heap[gb123]? = some (.cells #[.int .i64 ((rd_T37 l0 x3_1).f0), (.slice A122_1 ((rd_T37 l0 x3_1).f1).length c122_1), .int .i64 ((rd_T37 l0 x3_1).f2)] 37 (0, 0))) ∧ Aside0 (Below w.heap.size w wc))
                case first =>
                  have H := HC9.out
                  clear HC9
                  by_cases c10 : (((rd_T37 l0 x3_1).f1).length : Int) = 1
                  · rw [if_pos c10] at H
                    have c10b0 : ((((rd_T37 l0 x3_1).f1).length : Int) == 1) = true := beq_iff_eq.mpr c10
                    have c10b1 : ((((rd_T37 l0 x3_1).f1).length : Int) != 1) = false := bne_eq_false_iff_eq.mpr c10
                    clear c10
                    (first | rw [c10b0] | (simp only [i64_w, i32_w]; rw [c10b0]) | skip)
                    by_cases c11 : 0 < (((rd_T37 l0 x3_1).f1).length : Int)
                    · rw [if_pos c11] at H
                      have c11b0 : decide (0 < (((rd_T37 l0 x3_1).f1).length : Int)) = true := decide_eq_true c11
                      have c11b1 : decide (0 < ((rd_T37 l0 x3_1).f1).length) = true := decide_eq_true (by omega)
                      clear c11
                      by_cases c12 : (rdOf ByteArray.empty ((rd_T37 l0 x3_1).f1) 0).toList = ([] : List UInt8)
                      · rw [if_pos c12] at H
                        have c12b0 : ((rdOf ByteArray.empty ((rd_T37 l0 x3_1).f1) 0).toList == ([] : List UInt8)) = true := beq_iff_eq.mpr c12
                        have c12b1 : ((rdOf ByteArray.empty ((rd_T37 l0 x3_1).f1) 0).toList != ([] : List UInt8)) = false := bne_eq_false_iff_eq.mpr c12
                        clear c12
                        have H' := Aside0.mk H
                        clear H
                        have hcz13_0 : wc.cell? ⟨gb123, 0, none⟩ = some (.int .i64 ((rd_T37 l0 x3_1).f0)) := (blk_cell BK123.out 0).trans rfl
                        have hcz13_1 : wc.cell? ⟨gb123, 1, none⟩ = some (.slice A122_1 ((rd_T37 l0 x3_1).f1).length c122_1) := (blk_cell BK123.out 1).trans rfl
                        have hcz13_2 : wc.cell? ⟨gb123, 2, none⟩ = some (.int .i64 ((rd_T37 l0 x3_1).f2)) := (blk_cell BK123.out 2).trans rfl
                        have hfz13_0 := blk_frozen BK123.out 0
                        have hfz13_1 := blk_frozen BK123.out 1
                        have hfz13_2 := blk_frozen BK123.out 2
                        have p124 : 0 ≤ (0 : Int) := (by omega)
                        have q124 : 0 < (((rd_T37 l0 x3_1).f1).length : Int) := of_decide_eq_true (by first | (with_reducible assumption) | assumption)
                        obtain ⟨ad124, e124, hx124_0⟩ := Kd.at_string HR122_1.out 0 p124 q124
                        cases e124
                        have qi124 : (0 < ((rd_T37 l0 x3_1).f1).length) = True := eq_true (by omega)
                        (try rw [show ((0 : Int)).toNat = 0 from rfl] at hx124_0)
                        (try rw [Addr.add_zero'] at hx124_0)
                        replace hx124_0 := (HB.out.cell (World.block_lt_of_cell? w _ hx124_0)).trans hx124_0
                        replace p124 := eq_true p124
                        replace q124 := eq_true q124
                        go_wp2
                        go_meet
                        case rel => exact ⟨_, (true), (by first | rfl | (simp; done) | (simp [*]; done)), H', ⟨by have := HK1.out; have := HJ3.out; first | omega | exact Nat.le_refl _⟩, ⟨by (with_reducible repeat (first | refine blk_drewN ?_ _ | refine blk_drew ?_ | refine blk_alloc ?_ _)); exact BK123.out⟩, ⟨by repeat (first | (with_reducible first | exact HB.out | apply below_alloc | apply pw_below_drewN | apply below_drew1 | refine below_set ?_ GE123.out) | exact HB.out)⟩⟩
                      · rw [if_neg c12] at H
                        have c12b0 : ((rdOf ByteArray.empty ((rd_T37 l0 x3_1).f1) 0).toList == ([] : List UInt8)) = false := beq_eq_false_iff_ne.mpr c12
                        have c12b1 : ((rdOf ByteArray.empty ((rd_T37 l0 x3_1).f1) 0).toList != ([] : List UInt8)) = true := bne_iff_ne.mpr c12
                        have H' := Aside0.mk H
                        clear H
                        have hcz14_0 : wc.cell? ⟨gb123, 0, none⟩ = some (.int .i64 ((rd_T37 l0 x3_1).f0)) := (blk_cell BK123.out 0).trans rfl
                        have hcz14_1 : wc.cell? ⟨gb123, 1, none⟩ = some (.slice A122_1 ((rd_T37 l0 x3_1).f1).length c122_1) := (blk_cell BK123.out 1).trans rfl
                        have hcz14_2 : wc.cell? ⟨gb123, 2, none⟩ = some (.int .i64 ((rd_T37 l0 x3_1).f2)) := (blk_cell BK123.out 2).trans rfl
                        have hfz14_0 := blk_frozen BK123.out 0
                        have hfz14_1 := blk_frozen BK123.out 1
                        have hfz14_2 := blk_frozen BK123.out 2
                        have p124 : 0 ≤ (0 : Int) := (by omega)
                        have q124 : 0 < (((rd_T37 l0 x3_1).f1).length : Int) := of_decide_eq_true (by first | (with_reducible assumption) | assumption)
                        obtain ⟨ad124, e124, hx124_0⟩ := Kd.at_string HR122_1.out 0 p124 q124
                        cases e124
                        have qi124 : (0 < ((rd_T37 l0 x3_1).f1).length) = True := eq_true (by omega)
                        (try rw [show ((0 : Int)).toNat = 0 from rfl] at hx124_0)
                        (try rw [Addr.add_zero'] at hx124_0)
                        replace hx124_0 := (HB.out.cell (World.block_lt_of_cell? w _ hx124_0)).trans hx124_0
                        replace p124 := eq_true p124
                        replace q124 := eq_true q124
                        go_wp2
                        go_meet
                        case rel => exact ⟨_, ((((rd_T37 l0 x3_1).f2) != 0)), (by first | rfl | (simp; done) | (simp [*]; done)), H', ⟨by have := HK1.out; have := HJ3.out; first | omega | exact Nat.le_refl _⟩, ⟨by (with_reducible repeat (first | refine blk_drewN ?_ _ | refine blk_drew ?_ | refine blk_alloc ?_ _)); exact BK123.out⟩, ⟨by repeat (first | (with_reducible first | exact HB.out | apply below_alloc | apply pw_below_drewN | apply below_drew1 | refine below_set ?_ GE123.out) | exact HB.out)⟩⟩
                    · rw [if_neg c11] at H
                      exact absurd H (by simp)
                  · rw [if_neg c10] at H
                    have c10b0 : ((((rd_T37 l0 x3_1).f1).length : Int) == 1) = false := beq_eq_false_iff_ne.mpr c10
                    have c10b1 : ((((rd_T37 l0 x3_1).f1).length : Int) != 1) = true := bne_iff_ne.mpr c10
                    (first | rw [c10b0] | (simp only [i64_w, i32_w]; rw [c10b0]) | skip)
                    have H' := Aside0.mk H
                    clear H
                    go_wp2
                    go_meet
                    case rel => exact ⟨_, (true), (by first | rfl | (simp; done) | (simp [*]; done)), H', ⟨by have := HK1.out; have := HJ3.out; first | omega | exact Nat.le_refl _⟩, ⟨by (with_reducible repeat (first | refine blk_drewN ?_ _ | refine blk_drew ?_ | refine blk_alloc ?_ _)); exact BK123.out⟩, ⟨by repeat (first | (with_reducible first | exact HB.out | apply below_alloc | apply pw_below_drewN | apply below_drew1 | refine below_set ?_ GE123.out) | exact HB.out)⟩⟩
                case rest =>
                  clear HC9
                  try clear c1
                  try clear p1
                  try clear q1
                  try clear hx1
                  try clear qi1
                  try clear c2
                  try clear c2b0
                  try clear p2
                  try clear c3
                  try clear c3b0
                  try clear c7
                  try clear c7b0
                  try clear c7b1
                  try clear c8
                  try clear c10
                  try clear c10b0
                  try clear c10b1
                  try clear c11
                  try clear c11b0
                  try clear c11b1
                  try clear c12
                  try clear c12b0
                  try clear c12b1
                  try clear p12
                  try clear q12
                  try clear hx12
                  try clear qi12
                  try clear c13
                  try clear hcz13_0
                  try clear hcz13_1
                  try clear hcz13_2
                  try clear hcz14_0
                  try clear hcz14_1
                  try clear hcz14_2
                  try clear hcz6_0
                  try clear hcz6_1
                  try clear hcz6_2
                  try clear hfz13_0
                  try clear hfz13_1
                  try clear hfz13_2
                  try clear hfz14_0
                  try clear hfz14_1
                  try clear hfz14_2
                  try clear hfz6_0
                  try clear hfz6_1
                  try clear hfz6_2
                  try clear hx122_0
                  try clear hx122_1
                  try clear hx122_2
                  try clear hx124_0
                  try clear p1
                  try clear p122
                  try clear p124
                  try clear p2
                  try clear q1
                  try clear q122
                  try clear q124
                  obtain ⟨kq, x37_8, rfl, HA, HJ8, BK123, HB⟩ := hcut
                  cases kq with
                  | zero => exact absurd HA.out (by simp [siglumref05_Right.j2])
                  | succ kj8 =>
                    have H := HA.out
                    clear HA
                    simp only [siglumref05_Right.j2] at H
                    by_cases c15 : x37_8 = true
                    · subst c15
                      have H1 : (some false) = some r := by rw [if_pos rfl] at H; exact H
                      clear H
                      have H := H1
                      clear H1
                      obtain rfl := Option.some.inj H
                      go_wp2
                      go_ret
                      exact ⟨by first | rfl | (simp [errW_none, errW_some] <;> rfl) | (simp [*, errW_none, errW_some] <;> rfl), by repeat (first | (with_reducible first | exact HB.out | apply below_alloc | apply pw_below_drewN | apply below_drew1 | refine below_set ?_ GE123.out) | exact HB.out)⟩
                    · replace c15 := Bool.eq_false_iff.mpr c15
                      subst c15
                      have H1 : (if ((rd_T37 l0 x3_1).f0) = 1 then (if x3_1 > 0 then (if 0 ≤ (wrap64 (x3_1 - 1)) then (if (wrap64 (x3_1 - 1)) < (l0.length : Int) then (if ((rd_T37 l0 (wrap64 (x3_1 - 1))).f0) = 1 then (some false) else (siglumref05_Right.l0 kj8 l0 (wrap64 (x3_1 + 1)))) else (none)) else (none)) else (siglumref05_Right.l0 kj8 l0 (wrap64 (x3_1 + 1)))) else (siglumref05_Right.l0 kj8 l0 (wrap64 (x3_1 + 1)))) = some r := by rw [if_neg (show ¬ (false = true) by decide)] at H; exact H
                      clear H
                      have H := H1
                      clear H1
                      by_cases c16 : ((rd_T37 l0 x3_1).f0) = 1
                      · rw [if_pos c16] at H
                        have c16b0 : (((rd_T37 l0 x3_1).f0) == 1) = true := beq_iff_eq.mpr c16
                        have c16b1 : (((rd_T37 l0 x3_1).f0) != 1) = false := bne_eq_false_iff_eq.mpr c16
                        clear c16
                        by_cases c17 : x3_1 > 0
                        · rw [if_pos c17] at H
                          have c17b0 : decide (0 < x3_1) = true := decide_eq_true c17
                          clear c17
                          obtain ⟨ji18, hji18⟩ : ∃ j_ : Int, (wrap64 (x3_1 - 1)) = j_ := ⟨_, rfl⟩
                          replace H : (if 0 ≤ (ji18) then (if (ji18) < (l0.length : Int) then (if ((rd_T37 l0 (ji18)).f0) = 1 then (some false) else (siglumref05_Right.l0 kj8 l0 (wrap64 (x3_1 + 1)))) else (none)) else (none)) = some r := by first | (rw [hji18] at H; exact H) | (simp only [hji18] at H ⊢; exact H)
                          have hji18w : (IntKind.i64.wrap (x3_1 - 1)) = ji18 := (i64_w _).trans hji18
                          by_cases c19 : 0 ≤ (ji18)
                          · rw [if_pos c19] at H
                            have c19b0 : decide (0 ≤ (ji18)) = true := decide_eq_true c19
                            clear c19
                            by_cases c20 : (ji18) < (l0.length : Int)
                            · rw [if_pos c20] at H
                              have c20b0 : decide ((ji18) < (l0.length : Int)) = true := decide_eq_true c20
                              clear c20
                              by_cases c21 : ((rd_T37 l0 (ji18)).f0) = 1
                              · rw [if_pos c21] at H
                                have c21b0 : (((rd_T37 l0 (ji18)).f0) == 1) = true := beq_iff_eq.mpr c21
                                have c21b1 : (((rd_T37 l0 (ji18)).f0) != 1) = false := bne_eq_false_iff_eq.mpr c21
                                clear c21
                                obtain rfl := Option.some.inj H
                                have hcz22_0 : wc.cell? ⟨gb123, 0, none⟩ = some (.int .i64 ((rd_T37 l0 x3_1).f0)) := (blk_cell BK123.out 0).trans rfl
                                have hcz22_1 : wc.cell? ⟨gb123, 1, none⟩ = some (.slice A122_1 ((rd_T37 l0 x3_1).f1).length c122_1) := (blk_cell BK123.out 1).trans rfl
                                have hcz22_2 : wc.cell? ⟨gb123, 2, none⟩ = some (.int .i64 ((rd_T37 l0 x3_1).f2)) := (blk_cell BK123.out 2).trans rfl
                                have hfz22_0 := blk_frozen BK123.out 0
                                have hfz22_1 := blk_frozen BK123.out 1
                                have hfz22_2 := blk_frozen BK123.out 2
                                have p125 : 0 ≤ ((ji18) : Int) := of_decide_eq_true (by first | (with_reducible assumption) | assumption)
                                have q125 : (ji18) < (l0.length : Int) := of_decide_eq_true (by first | (with_reducible assumption) | assumption)
                                obtain ⟨ad125, A125_1, c125_1, e125, hx125_0, hx125_1, hx125_2, hl125_1, hi125_1⟩ := at_T37 HR0.out (ji18) p125 q125
                                obtain rfl : ad122 = ad125 := (by injection e125)
                                replace hx125_0 := (HB.out.cell (World.block_lt_of_cell? w _ hx125_0)).trans hx125_0
                                replace hx125_1 := (HB.out.cell (World.block_lt_of_cell? w _ hx125_1)).trans hx125_1
                                replace hx125_2 := (HB.out.cell (World.block_lt_of_cell? w _ hx125_2)).trans hx125_2
                                have HR125_1 := Aside0.mk hi125_1
                                have HC125_1 := Aside0.mk hl125_1
                                clear hi125_1 hl125_1
                                replace p125 := eq_true p125
                                replace q125 := eq_true q125
                                go_wp2
                                go_ret
                                exact ⟨by first | rfl | (simp [errW_none, errW_some] <;> rfl) | (simp only [← hji18]; first | rfl | (simp [errW_none, errW_some] <;> rfl)) | (simp [*, errW_none, errW_some] <;> rfl), by repeat (first | (with_reducible first | exact HB.out | apply below_alloc | apply pw_below_drewN | apply below_drew1 | refine below_set ?_ GE123.out) | exact HB.out)⟩
                              · rw [if_neg c21] at H
                                have c21b0 : (((rd_T37 l0 (ji18)).f0) == 1) = false := beq_eq_false_iff_ne.mpr c21
                                have c21b1 : (((rd_T37 l0 (ji18)).f0) != 1) = true := bne_iff_ne.mpr c21
                                have H' := Aside0.mk H
                                clear H
                                have hcz23_0 : wc.cell? ⟨gb123, 0, none⟩ = some (.int .i64 ((rd_T37 l0 x3_1).f0)) := (blk_cell BK123.out 0).trans rfl
                                have hcz23_1 : wc.cell? ⟨gb123, 1, none⟩ = some (.slice A122_1 ((rd_T37 l0 x3_1).f1).length c122_1) := (blk_cell BK123.out 1).trans rfl
                                have hcz23_2 : wc.cell? ⟨gb123, 2, none⟩ = some (.int .i64 ((rd_T37 l0 x3_1).f2)) := (blk_cell BK123.out 2).trans rfl
                                have hfz23_0 := blk_frozen BK123.out 0
                                have hfz23_1 := blk_frozen BK123.out 1
                                have hfz23_2 := blk_frozen BK123.out 2
                                have p125 : 0 ≤ ((ji18) : Int) := of_decide_eq_true (by first | (with_reducible assumption) | assumption)
                                have q125 : (ji18) < (l0.length : Int) := of_decide_eq_true (by first | (with_reducible assumption) | assumption)
                                obtain ⟨ad125, A125_1, c125_1, e125, hx125_0, hx125_1, hx125_2, hl125_1, hi125_1⟩ := at_T37 HR0.out (ji18) p125 q125
                                obtain rfl : ad122 = ad125 := (by injection e125)
                                replace hx125_0 := (HB.out.cell (World.block_lt_of_cell? w _ hx125_0)).trans hx125_0
                                replace hx125_1 := (HB.out.cell (World.block_lt_of_cell? w _ hx125_1)).trans hx125_1
                                replace hx125_2 := (HB.out.cell (World.block_lt_of_cell? w _ hx125_2)).trans hx125_2
                                have HR125_1 := Aside0.mk hi125_1
                                have HC125_1 := Aside0.mk hl125_1
                                clear hi125_1 hl125_1
                                replace p125 := eq_true p125
                                replace q125 := eq_true q125
                                go_wp2
                                go_roundg kj8
                                case measure => have := HK1.out; have := HJ3.out; have := HJ8.out; omega
                                case rel => exact ⟨(wrap64 (x3_1 + 1)), (by first | rfl | (simp; done) | (simp [*]; done)), H', ⟨by have := HK1.out; have := HJ3.out; have := HJ8.out; omega⟩, ⟨by repeat (first | (with_reducible first | exact HB.out | apply below_alloc | apply pw_below_drewN | apply below_drew1 | refine below_set ?_ GE123.out) | exact HB.out)⟩⟩
                            · rw [if_neg c20] at H
                              exact absurd H (by simp)
                          · rw [if_neg c19] at H
                            exact absurd H (by simp)
                        · rw [if_neg c17] at H
                          have c17b0 : decide (0 < x3_1) = false := decide_eq_false c17
                          clear c17
                          have H' := Aside0.mk H
                          clear H
                          have hcz24_0 : wc.cell? ⟨gb123, 0, none⟩ = some (.int .i64 ((rd_T37 l0 x3_1).f0)) := (blk_cell BK123.out 0).trans rfl
                          have hcz24_1 : wc.cell? ⟨gb123, 1, none⟩ = some (.slice A122_1 ((rd_T37 l0 x3_1).f1).length c122_1) := (blk_cell BK123.out 1).trans rfl
                          have hcz24_2 : wc.cell? ⟨gb123, 2, none⟩ = some (.int .i64 ((rd_T37 l0 x3_1).f2)) := (blk_cell BK123.out 2).trans rfl
                          have hfz24_0 := blk_frozen BK123.out 0
                          have hfz24_1 := blk_frozen BK123.out 1
                          have hfz24_2 := blk_frozen BK123.out 2
                          go_wp2
                          go_roundg kj8
                          case measure => have := HK1.out; have := HJ3.out; have := HJ8.out; omega
                          case rel => exact ⟨(wrap64 (x3_1 + 1)), (by first | rfl | (simp; done) | (simp [*]; done)), H', ⟨by have := HK1.out; have := HJ3.out; have := HJ8.out; omega⟩, ⟨by repeat (first | (with_reducible first | exact HB.out | apply below_alloc | apply pw_below_drewN | apply below_drew1 | refine below_set ?_ GE123.out) | exact HB.out)⟩⟩
                      · rw [if_neg c16] at H
                        have c16b0 : (((rd_T37 l0 x3_1).f0) == 1) = false := beq_eq_false_iff_ne.mpr c16
                        have c16b1 : (((rd_T37 l0 x3_1).f0) != 1) = true := bne_iff_ne.mpr c16
                        have H' := Aside0.mk H
                        clear H
                        have hcz25_0 : wc.cell? ⟨gb123, 0, none⟩ = some (.int .i64 ((rd_T37 l0 x3_1).f0)) := (blk_cell BK123.out 0).trans rfl
                        have hcz25_1 : wc.cell? ⟨gb123, 1, none⟩ = some (.slice A122_1 ((rd_T37 l0 x3_1).f1).length c122_1) := (blk_cell BK123.out 1).trans rfl
                        have hcz25_2 : wc.cell? ⟨gb123, 2, none⟩ = some (.int .i64 ((rd_T37 l0 x3_1).f2)) := (blk_cell BK123.out 2).trans rfl
                        have hfz25_0 := blk_frozen BK123.out 0
                        have hfz25_1 := blk_frozen BK123.out 1
                        have hfz25_2 := blk_frozen BK123.out 2
                        go_wp2
                        go_roundg kj8
                        case measure => have := HK1.out; have := HJ3.out; have := HJ8.out; omega
                        case rel => exact ⟨(wrap64 (x3_1 + 1)), (by first | rfl | (simp; done) | (simp [*]; done)), H', ⟨by have := HK1.out; have := HJ3.out; have := HJ8.out; omega⟩, ⟨by repeat (first | (with_reducible first | exact HB.out | apply below_alloc | apply pw_below_drewN | apply below_drew1 | refine below_set ?_ GE123.out) | exact HB.out)⟩⟩
              · replace c8 := Bool.eq_false_iff.mpr c8
                subst c8
                have H1 : (if ((rd_T37 l0 x3_1).f0) = 2 then (if (((rd_T37 l0 x3_1).f1).length : Int) = 0 then (if ((rd_T37 l0 x3_1).f2) < 1 then (some false) else (if ((rd_T37 l0 x3_1).f2) > 99 then (some false) else (siglumref05_Right.l0 kj3 l0 (wrap64 (x3_1 + 1))))) else (some false)) else (if ((rd_T37 l0 x3_1).f0) = 3 then (if (((rd_T37 l0 x3_1).f1).length : Int) < 2 then (some false) else (if (((rd_T37 l0 x3_1).f1).length : Int) > 4 then (some false) else (if ((rd_T37 l0 x3_1).f2) = 0 then (siglumref05_Right.l0 kj3 l0 (wrap64 (x3_1 + 1))) else (some false)))) else (some false))) = some r := by rw [if_neg (show ¬ (false = true) by decide)] at H; exact H
                clear H
                have H := H1
                clear H1
                by_cases c26 : ((rd_T37 l0 x3_1).f0) = 2
                · rw [if_pos c26] at H
                  have c26b0 : (((rd_T37 l0 x3_1).f0) == 2) = true := beq_iff_eq.mpr c26
                  have c26b1 : (((rd_T37 l0 x3_1).f0) != 2) = false := bne_eq_false_iff_eq.mpr c26
                  clear c26
                  by_cases c27 : (((rd_T37 l0 x3_1).f1).length : Int) = 0
                  · rw [if_pos c27] at H
                    have c27b0 : ((((rd_T37 l0 x3_1).f1).length : Int) == 0) = true := beq_iff_eq.mpr c27
                    have c27b1 : ((((rd_T37 l0 x3_1).f1).length : Int) != 0) = false := bne_eq_false_iff_eq.mpr c27
                    clear c27
                    by_cases c28 : ((rd_T37 l0 x3_1).f2) < 1
                    · rw [if_pos c28] at H
                      have c28b0 : decide (((rd_T37 l0 x3_1).f2) < 1) = true := decide_eq_true c28
                      clear c28
                      obtain rfl := Option.some.inj H
                      have hcz29_0 : wc.cell? ⟨gb123, 0, none⟩ = some (.int .i64 ((rd_T37 l0 x3_1).f0)) := (blk_cell BK123.out 0).trans rfl
                      have hcz29_1 : wc.cell? ⟨gb123, 1, none⟩ = some (.slice A122_1 ((rd_T37 l0 x3_1).f1).length c122_1) := (blk_cell BK123.out 1).trans rfl
                      have hcz29_2 : wc.cell? ⟨gb123, 2, none⟩ = some (.int .i64 ((rd_T37 l0 x3_1).f2)) := (blk_cell BK123.out 2).trans rfl
                      have hfz29_0 := blk_frozen BK123.out 0
                      have hfz29_1 := blk_frozen BK123.out 1
                      have hfz29_2 := blk_frozen BK123.out 2
                      go_wp2
                      go_ret
                      exact ⟨by first | rfl | (simp [errW_none, errW_some] <;> rfl) | (simp [*, errW_none, errW_some] <;> rfl), by repeat (first | (with_reducible first | exact HB.out | apply below_alloc | apply pw_below_drewN | apply below_drew1 | refine below_set ?_ GE123.out) | exact HB.out)⟩
                    · rw [if_neg c28] at H
                      have c28b0 : decide (((rd_T37 l0 x3_1).f2) < 1) = false := decide_eq_false c28
                      clear c28
                      by_cases c30 : ((rd_T37 l0 x3_1).f2) > 99
                      · rw [if_pos c30] at H
                        have c30b0 : decide (99 < ((rd_T37 l0 x3_1).f2)) = true := decide_eq_true c30
                        clear c30
                        obtain rfl := Option.some.inj H
                        have hcz31_0 : wc.cell? ⟨gb123, 0, none⟩ = some (.int .i64 ((rd_T37 l0 x3_1).f0)) := (blk_cell BK123.out 0).trans rfl
                        have hcz31_1 : wc.cell? ⟨gb123, 1, none⟩ = some (.slice A122_1 ((rd_T37 l0 x3_1).f1).length c122_1) := (blk_cell BK123.out 1).trans rfl
                        have hcz31_2 : wc.cell? ⟨gb123, 2, none⟩ = some (.int .i64 ((rd_T37 l0 x3_1).f2)) := (blk_cell BK123.out 2).trans rfl
                        have hfz31_0 := blk_frozen BK123.out 0
                        have hfz31_1 := blk_frozen BK123.out 1
                        have hfz31_2 := blk_frozen BK123.out 2
                        go_wp2
                        go_ret
                        exact ⟨by first | rfl | (simp [errW_none, errW_some] <;> rfl) | (simp [*, errW_none, errW_some] <;> rfl), by repeat (first | (with_reducible first | exact HB.out | apply below_alloc | apply pw_below_drewN | apply below_drew1 | refine below_set ?_ GE123.out) | exact HB.out)⟩
                      · rw [if_neg c30] at H
                        have c30b0 : decide (99 < ((rd_T37 l0 x3_1).f2)) = false := decide_eq_false c30
                        clear c30
                        have H' := Aside0.mk H
                        clear H
                        have hcz32_0 : wc.cell? ⟨gb123, 0, none⟩ = some (.int .i64 ((rd_T37 l0 x3_1).f0)) := (blk_cell BK123.out 0).trans rfl
                        have hcz32_1 : wc.cell? ⟨gb123, 1, none⟩ = some (.slice A122_1 ((rd_T37 l0 x3_1).f1).length c122_1) := (blk_cell BK123.out 1).trans rfl
                        have hcz32_2 : wc.cell? ⟨gb123, 2, none⟩ = some (.int .i64 ((rd_T37 l0 x3_1).f2)) := (blk_cell BK123.out 2).trans rfl
                        have hfz32_0 := blk_frozen BK123.out 0
                        have hfz32_1 := blk_frozen BK123.out 1
                        have hfz32_2 := blk_frozen BK123.out 2
                        go_wp2
                        go_roundg kj3
                        case measure => have := HK1.out; have := HJ3.out; omega
                        case rel => exact ⟨(wrap64 (x3_1 + 1)), (by first | rfl | (simp; done) | (simp [*]; done)), H', ⟨by have := HK1.out; have := HJ3.out; omega⟩, ⟨by repeat (first | (with_reducible first | exact HB.out | apply below_alloc | apply pw_below_drewN | apply below_drew1 | refine below_set ?_ GE123.out) | exact HB.out)⟩⟩
                  · rw [if_neg c27] at H
                    have c27b0 : ((((rd_T37 l0 x3_1).f1).length : Int) == 0) = false := beq_eq_false_iff_ne.mpr c27
                    have c27b1 : ((((rd_T37 l0 x3_1).f1).length : Int) != 0) = true := bne_iff_ne.mpr c27
                    have c27b2 : ¬ (((rd_T37 l0 x3_1).f1) = []) := fun h_ => c27 (by rw [h_]; rfl)
                    obtain rfl := Option.some.inj H
                    go_wp2
                    go_ret
                    exact ⟨by first | rfl | (simp [errW_none, errW_some] <;> rfl) | (simp [*, errW_none, errW_some] <;> rfl), by repeat (first | (with_reducible first | exact HB.out | apply below_alloc | apply pw_below_drewN | apply below_drew1 | refine below_set ?_ GE123.out) | exact HB.out)⟩
                · rw [if_neg c26] at H
                  have c26b0 : (((rd_T37 l0 x3_1).f0) == 2) = false := beq_eq_false_iff_ne.mpr c26
                  have c26b1 : (((rd_T37 l0 x3_1).f0) != 2) = true := bne_iff_ne.mpr c26
                  by_cases c33 : ((rd_T37 l0 x3_1).f0) = 3
                  · rw [if_pos c33] at H
                    have c33b0 : (((rd_T37 l0 x3_1).f0) == 3) = true := beq_iff_eq.mpr c33
                    have c33b1 : (((rd_T37 l0 x3_1).f0) != 3) = false := bne_eq_false_iff_eq.mpr c33
                    clear c33
                    by_cases c34 : (((rd_T37 l0 x3_1).f1).length : Int) < 2
                    · rw [if_pos c34] at H
                      have c34b0 : decide ((((rd_T37 l0 x3_1).f1).length : Int) < 2) = true := decide_eq_true c34
                      have c34b1 : decide (((rd_T37 l0 x3_1).f1).length < 2) = true := decide_eq_true (by omega)
                      clear c34
                      obtain rfl := Option.some.inj H
                      go_wp2
                      go_ret
                      exact ⟨by first | rfl | (simp [errW_none, errW_some] <;> rfl) | (simp [*, errW_none, errW_some] <;> rfl), by repeat (first | (with_reducible first | exact HB.out | apply below_alloc | apply pw_below_drewN | apply below_drew1 | refine below_set ?_ GE123.out) | exact HB.out)⟩
                    · rw [if_neg c34] at H
                      have c34b0 : decide ((((rd_T37 l0 x3_1).f1).length : Int) < 2) = false := decide_eq_false c34
                      have c34b1 : decide (((rd_T37 l0 x3_1).f1).length < 2) = false := decide_eq_false (by omega)
                      clear c34
                      by_cases c35 : (((rd_T37 l0 x3_1).f1).length : Int) > 4
                      · rw [if_pos c35] at H
                        have c35b0 : decide (4 < (((rd_T37 l0 x3_1).f1).length : Int)) = true := decide_eq_true c35
                        have c35b1 : decide (4 < ((rd_T37 l0 x3_1).f1).length) = true := decide_eq_true (by omega)
                        clear c35
                        obtain rfl := Option.some.inj H
                        go_wp2
                        go_ret
                        exact ⟨by first | rfl | (simp [errW_none, errW_some] <;> rfl) | (simp [*, errW_none, errW_some] <;> rfl), by repeat (first | (with_reducible first | exact HB.out | apply below_alloc | apply pw_below_drewN | apply below_drew1 | refine below_set ?_ GE123.out) | exact HB.out)⟩
                      · rw [if_neg c35] at H
                        have c35b0 : decide (4 < (((rd_T37 l0 x3_1).f1).length : Int)) = false := decide_eq_false c35
                        have c35b1 : decide (4 < ((rd_T37 l0 x3_1).f1).length) = false := decide_eq_false (by omega)
                        clear c35
                        by_cases c36 : ((rd_T37 l0 x3_1).f2) = 0
                        · rw [if_pos c36] at H
                          have c36b0 : (((rd_T37 l0 x3_1).f2) == 0) = true := beq_iff_eq.mpr c36
                          have c36b1 : (((rd_T37 l0 x3_1).f2) != 0) = false := bne_eq_false_iff_eq.mpr c36
                          clear c36
                          have H' := Aside0.mk H
                          clear H
                          have hcz37_0 : wc.cell? ⟨gb123, 0, none⟩ = some (.int .i64 ((rd_T37 l0 x3_1).f0)) := (blk_cell BK123.out 0).trans rfl
                          have hcz37_1 : wc.cell? ⟨gb123, 1, none⟩ = some (.slice A122_1 ((rd_T37 l0 x3_1).f1).length c122_1) := (blk_cell BK123.out 1).trans rfl
                          have hcz37_2 : wc.cell? ⟨gb123, 2, none⟩ = some (.int .i64 ((rd_T37 l0 x3_1).f2)) := (blk_cell BK123.out 2).trans rfl
                          have hfz37_0 := blk_frozen BK123.out 0
                          have hfz37_1 := blk_frozen BK123.out 1
                          have hfz37_2 := blk_frozen BK123.out 2
                          go_wp2
                          go_roundg kj3
                          case measure => have := HK1.out; have := HJ3.out; omega
                          case rel => exact ⟨(wrap64 (x3_1 + 1)), (by first | rfl | (simp; done) | (simp [*]; done)), H', ⟨by have := HK1.out; have := HJ3.out; omega⟩, ⟨by repeat (first | (with_reducible first | exact HB.out | apply below_alloc | apply pw_below_drewN | apply below_drew1 | refine below_set ?_ GE123.out) | exact HB.out)⟩⟩
                        · rw [if_neg c36] at H
                          have c36b0 : (((rd_T37 l0 x3_1).f2) == 0) = false := beq_eq_false_iff_ne.mpr c36
                          have c36b1 : (((rd_T37 l0 x3_1).f2) != 0) = true := bne_iff_ne.mpr c36
                          obtain rfl := Option.some.inj H
                          have hcz38_0 : wc.cell? ⟨gb123, 0, none⟩ = some (.int .i64 ((rd_T37 l0 x3_1).f0)) := (blk_cell BK123.out 0).trans rfl
                          have hcz38_1 : wc.cell? ⟨gb123, 1, none⟩ = some (.slice A122_1 ((rd_T37 l0 x3_1).f1).length c122_1) := (blk_cell BK123.out 1).trans rfl
                          have hcz38_2 : wc.cell? ⟨gb123, 2, none⟩ = some (.int .i64 ((rd_T37 l0 x3_1).f2)) := (blk_cell BK123.out 2).trans rfl
                          have hfz38_0 := blk_frozen BK123.out 0
                          have hfz38_1 := blk_frozen BK123.out 1
                          have hfz38_2 := blk_frozen BK123.out 2
                          go_wp2
                          go_ret
                          exact ⟨by first | rfl | (simp [errW_none, errW_some] <;> rfl) | (simp [*, errW_none, errW_some] <;> rfl), by repeat (first | (with_reducible first | exact HB.out | apply below_alloc | apply pw_below_drewN | apply below_drew1 | refine below_set ?_ GE123.out) | exact HB.out)⟩
                  · rw [if_neg c33] at H
                    have c33b0 : (((rd_T37 l0 x3_1).f0) == 3) = false := beq_eq_false_iff_ne.mpr c33
                    have c33b1 : (((rd_T37 l0 x3_1).f0) != 3) = true := bne_iff_ne.mpr c33
                    obtain rfl := Option.some.inj H
                    go_wp2
                    go_ret
                    exact ⟨by first | rfl | (simp [errW_none, errW_some] <;> rfl) | (simp [*, errW_none, errW_some] <;> rfl), by repeat (first | (with_reducible first | exact HB.out | apply below_alloc | apply pw_below_drewN | apply below_drew1 | refine below_set ?_ GE123.out) | exact HB.out)⟩
        · rw [if_neg c3] at H
          exact absurd H (by simp)
      · rw [if_neg c2] at H
        have c2b0 : decide (x3_1 < (l0.length : Int)) = false := decide_eq_false c2
        clear c2
        obtain rfl := Option.some.inj H
        go_wp2
        go_ret
        exact ⟨by first | rfl | (simp [errW_none, errW_some] <;> rfl) | (simp [*, errW_none, errW_some] <;> rfl), by repeat (first | (with_reducible first | exact HB.out | apply below_alloc | apply pw_below_drewN | apply below_drew1) | exact HB.out)⟩

/-! ### siglumref06_gives: function 22 -/
def siglumref06_gives.l0 : Nat → ByteArray → Int → Int → List ByteArray → Int → Option (ByteArray)
  | 0, _, _, _, _, _ => none
  | k + 1, x5, x6, x127000, x127001, x127002 => if x6 < x127002 then (if x5.size + 4 ≤ 9223372036854775807 then (siglumref06_gives.l0 k (x5 ++ (⟨#[226, 151, 140, 32]⟩ : ByteArray)) (wrap64 (x6 + 1)) x127000 x127001 x127002) else (none)) else (some x5)
def siglumref06_gives.f (k : Nat) (a0_0 : Int) (l0_1 : List ByteArray) (a0_2 : Int) (a1 : Int) : Option (ByteArray) := if a0_0 = 2 then (siglumref06_gives.l0 k (⟨#[]⟩ : ByteArray) 0 a0_0 l0_1 a0_2) else (if a0_0 = 3 then (if a1 < (l0_1.length : Int) then (if 0 ≤ a1 then (some (rdOf ByteArray.empty l0_1 a1)) else (none)) else (if 0 ≤ (wrap64 ((l0_1.length : Int) - 1)) then (if (wrap64 ((l0_1.length : Int) - 1)) < (l0_1.length : Int) then (some (rdOf ByteArray.empty l0_1 (wrap64 ((l0_1.length : Int) - 1)))) else (none)) else (none))) else (if 0 < (l0_1.length : Int) then (some (rdOf ByteArray.empty l0_1 0)) else (none)))
theorem siglumref06_gives.mono_l : ∀ k, (∀ y0 y1 y2 y3 y4, LeO (siglumref06_gives.l0 k y0 y1 y2 y3 y4) (siglumref06_gives.l0 (k + 1) y0 y1 y2 y3 y4))
  | 0 => fun _ _ _ _ _ r h => by simp [siglumref06_gives.l0] at h
  | k + 1 => by
    have ih0 := siglumref06_gives.mono_l k
    · intro y0 y1 y2 y3 y4
      unfold siglumref06_gives.l0
      repeat' first
      | (with_reducible exact ih0 _ _ _ _ _)
      | (with_reducible exact LeO.refl _)
      | (with_reducible exact LeO.none _)
      | (with_reducible refine LeO.ite ?_ ?_)
      | (with_reducible refine LeO.bind ?_ (fun _ => ?_))
      | exact ih0 _ _ _ _ _
      | exact LeO.none _
      | refine LeO.ite ?_ ?_
      | refine LeO.bind ?_ (fun _ => ?_)
theorem siglumref06_gives.mono : ∀ a0 a1 a2 a3 k, LeO (siglumref06_gives.f k a0 a1 a2 a3) (siglumref06_gives.f (k + 1) a0 a1 a2 a3) := by
  intro a0 a1 a2 a3 k
  have ih0 := siglumref06_gives.mono_l k
  unfold siglumref06_gives.f
  repeat' first
      | (with_reducible exact ih0 _ _ _ _ _)
      | (with_reducible exact LeO.refl _)
      | (with_reducible exact LeO.none _)
      | (with_reducible refine LeO.ite ?_ ?_)
      | (with_reducible refine LeO.bind ?_ (fun _ => ?_))
      | exact ih0 _ _ _ _ _
      | exact LeO.none _
      | refine LeO.ite ?_ ?_
      | refine LeO.bind ?_ (fun _ => ?_)
set_option maxHeartbeats 8000000 in
set_option maxRecDepth 100000 in
theorem siglumref06_gives.calls (k : Nat) (a0_0 : Int) (A0_1 : Option Addr) (c0_1 : Nat) (l0_1 : List ByteArray) (a0_2 : Int) (a1 : Int) (r : ByteArray) (w : World) (hr0_1 : Kd.C Kd.string w A0_1 l0_1.length l0_1) (hc0_1 : l0_1.length ≤ c0_1) (h : siglumref06_gives.f k a0_0 l0_1 a0_2 a1 = some r) :
    Calls Try.prog 22 #[.agg #[.int .i64 a0_0, .slice A0_1 l0_1.length c0_1, .int .i64 a0_2], .int .i64 a1] w fun e w' => e = .returned (.string r) ∧ Below w.heap.size w w' := by
  have hu37 := Try.underlying37
  have HR0_1 := Aside0.mk hr0_1
  have HC0_1 := Aside0.mk hc0_1
  clear hr0_1 hc0_1
  have HB := Aside0.mk (Below.refl w.heap.size w)
  have H : (if a0_0 = 2 then (siglumref06_gives.l0 k (⟨#[]⟩ : ByteArray) 0 a0_0 l0_1 a0_2) else (if a0_0 = 3 then (if a1 < (l0_1.length : Int) then (if 0 ≤ a1 then (some (rdOf ByteArray.empty l0_1 a1)) else (none)) else (if 0 ≤ (wrap64 ((l0_1.length : Int) - 1)) then (if (wrap64 ((l0_1.length : Int) - 1)) < (l0_1.length : Int) then (some (rdOf ByteArray.empty l0_1 (wrap64 ((l0_1.length : Int) - 1)))) else (none)) else (none))) else (if 0 < (l0_1.length : Int) then (some (rdOf ByteArray.empty l0_1 0)) else (none)))) = some r := h
  clear h
  by_cases c3 : a0_0 = 2
  · rw [if_pos c3] at H
    have c3b0 : (a0_0 == 2) = true := beq_iff_eq.mpr c3
    have c3b1 : (a0_0 != 2) = false := bne_eq_false_iff_eq.mpr c3
    clear c3
    have H' := Aside0.mk H
    clear H
    go_enter Try.func22, Try.ntmps22
    go_wp2_with (first | ((with_reducible refine gate_dst (N := 2) rfl ?_); refine box_event ?hg (N := 2) ?hd (cs := #[.int .i64 a0_0, .slice A0_1 l0_1.length c0_1, .int .i64 a0_2]) (t := 37) ?hr ?_; (case hd => rfl); (case hg => rfl); (case hr => first | (go_simp; done) | (go_simp; rfl)); intro gb126 hg w4 hbox hb; have n0_ := Aside0.mk (below_step (by repeat (first | (with_reducible first | exact HB.out | apply below_alloc | apply pw_below_drewN | apply below_drew1) | exact HB.out)) hb); have n1_ := Aside0.mk (hbox); have n2_ := Aside0.mk ((by rw [hg]; exact (below_size (by repeat (first | (with_reducible first | exact HB.out | apply below_alloc | apply pw_below_drewN | apply below_drew1) | exact HB.out))) : w.heap.size ≤ gb126)); have n3_ := Aside0.mk ((by rw [hg]; exact (below_size (by repeat (first | (with_reducible first | exact HB.out | apply below_alloc | apply pw_below_drewN | apply below_drew1) | exact HB.out))) : w.heap.size ≤ gb126)); clear HB; have HB := n0_; have BK126 := n1_; have GW126 := n2_; have GE126 := n3_; clear n0_ n1_ n2_ n3_; clear hb hbox hg; have hcz5_0 : w4.cell? ⟨gb126, 0, none⟩ = some (.int .i64 a0_0) := (blk_cell BK126.out 0).trans rfl; have hcz5_1 : w4.cell? ⟨gb126, 1, none⟩ = some (.slice A0_1 l0_1.length c0_1) := (blk_cell BK126.out 1).trans rfl; have hcz5_2 : w4.cell? ⟨gb126, 2, none⟩ = some (.int .i64 a0_2) := (blk_cell BK126.out 2).trans rfl; have hfz5_0 := blk_frozen BK126.out 0; have hfz5_1 := blk_frozen BK126.out 1; have hfz5_2 := blk_frozen BK126.out 2))
    go_loopg [5, 6] k (fun kq v5 v6 w' => ∃ (x5_1 : ByteArray) (x6_1 : Int), v5 = .string x5_1 ∧ v6 = .int .i64 x6_1 ∧ Aside0 (siglumref06_gives.l0 kq x5_1 x6_1 a0_0 l0_1 a0_2 = some r) ∧ Aside0 (kq ≤ k) ∧ Aside0 (w'.heap[gb126]? = some (.cells #[.int .i64 a0_0, (.slice A0_1 l0_1.length c0_1), .int .i64 a0_2] 37 (0, 0))) ∧ Aside0 (Below w.heap.size w w'))
    case atStart => exact ⟨((⟨#[]⟩ : ByteArray)), (0), (by first | rfl | (simp; done) | (simp [*]; done)), (by first | rfl | (simp; done) | (simp [*]; done)), H', ⟨Nat.le_refl _⟩, ⟨by (with_reducible repeat (first | refine blk_drewN ?_ _ | refine blk_drew ?_ | refine blk_alloc ?_ _)); exact BK126.out⟩, ⟨by repeat (first | (with_reducible first | exact HB.out | apply below_alloc | apply pw_below_drewN | apply below_drew1 | refine below_set ?_ GE126.out) | exact HB.out)⟩⟩
    case round =>
      clear H'
      try clear c2
      try clear p2
      try clear c3
      try clear c3b0
      try clear c3b1
      try clear hcz5_0
      try clear hcz5_1
      try clear hcz5_2
      try clear hfz5_0
      try clear hfz5_1
      try clear hfz5_2
      obtain ⟨x5_1, x6_1, rfl, rfl, HA, HK1, BK126, HB⟩ := hrel
      cases gk with
      | zero => exact absurd HA.out (by simp [siglumref06_gives.l0])
      | succ k1 =>
        have H := HA.out
        clear HA
        simp only [siglumref06_gives.l0] at H
        by_cases c6 : x6_1 < a0_2
        · rw [if_pos c6] at H
          have c6b0 : decide (x6_1 < a0_2) = true := decide_eq_true c6
          clear c6
          by_cases c7 : x5_1.size + 4 ≤ 9223372036854775807
          · rw [if_pos c7] at H
            have c7b0 := eq_true c7
            have c7b1 : decide (x5_1.size + 4 ≤ 9223372036854775807) = true := decide_eq_true c7
            try have c7b2 : (9223372036854775807 < x5_1.size + 4) = False := eq_false (Nat.not_lt.2 c7)
            have H' := Aside0.mk H
            clear H
            have hcz8_0 : wr.cell? ⟨gb126, 0, none⟩ = some (.int .i64 a0_0) := (blk_cell BK126.out 0).trans rfl
            have hcz8_1 : wr.cell? ⟨gb126, 1, none⟩ = some (.slice A0_1 l0_1.length c0_1) := (blk_cell BK126.out 1).trans rfl
            have hcz8_2 : wr.cell? ⟨gb126, 2, none⟩ = some (.int .i64 a0_2) := (blk_cell BK126.out 2).trans rfl
            have hfz8_0 := blk_frozen BK126.out 0
            have hfz8_1 := blk_frozen BK126.out 1
            have hfz8_2 := blk_frozen BK126.out 2
            go_wp2
            go_roundg k1
            case measure => have := HK1.out; omega
            case rel => exact ⟨(x5_1 ++ (⟨#[226, 151, 140, 32]⟩ : ByteArray)), (wrap64 (x6_1 + 1)), (by first | rfl | (simp; done) | (simp [*]; done)), (by first | rfl | (simp; done) | (simp [*]; done)), H', ⟨by have := HK1.out; omega⟩, ⟨by (with_reducible repeat (first | refine blk_drewN ?_ _ | refine blk_drew ?_ | refine blk_alloc ?_ _)); exact BK126.out⟩, ⟨by repeat (first | (with_reducible first | exact HB.out | apply below_alloc | apply pw_below_drewN | apply below_drew1 | refine below_set ?_ GE126.out) | exact HB.out)⟩⟩
          · rw [if_neg c7] at H
            exact absurd H (by simp)
        · rw [if_neg c6] at H
          have c6b0 : decide (x6_1 < a0_2) = false := decide_eq_false c6
          clear c6
          obtain rfl := Option.some.inj H
          have hcz9_0 : wr.cell? ⟨gb126, 0, none⟩ = some (.int .i64 a0_0) := (blk_cell BK126.out 0).trans rfl
          have hcz9_1 : wr.cell? ⟨gb126, 1, none⟩ = some (.slice A0_1 l0_1.length c0_1) := (blk_cell BK126.out 1).trans rfl
          have hcz9_2 : wr.cell? ⟨gb126, 2, none⟩ = some (.int .i64 a0_2) := (blk_cell BK126.out 2).trans rfl
          have hfz9_0 := blk_frozen BK126.out 0
          have hfz9_1 := blk_frozen BK126.out 1
          have hfz9_2 := blk_frozen BK126.out 2
          go_wp2
          go_ret
          exact ⟨by first | rfl | (simp [errW_none, errW_some] <;> rfl) | (simp [*, errW_none, errW_some] <;> rfl), by repeat (first | (with_reducible first | exact HB.out | apply below_alloc | apply pw_below_drewN | apply below_drew1 | refine below_set ?_ GE126.out) | exact HB.out)⟩
  · rw [if_neg c3] at H
    have c3b0 : (a0_0 == 2) = false := beq_eq_false_iff_ne.mpr c3
    have c3b1 : (a0_0 != 2) = true := bne_iff_ne.mpr c3
    by_cases c10 : a0_0 = 3
    · rw [if_pos c10] at H
      have c10b0 : (a0_0 == 3) = true := beq_iff_eq.mpr c10
      have c10b1 : (a0_0 != 3) = false := bne_eq_false_iff_eq.mpr c10
      clear c10
      by_cases c11 : a1 < (l0_1.length : Int)
      · rw [if_pos c11] at H
        have c11b0 : decide (a1 < (l0_1.length : Int)) = true := decide_eq_true c11
        clear c11
        by_cases c12 : 0 ≤ a1
        · rw [if_pos c12] at H
          have c12b0 : decide (0 ≤ a1) = true := decide_eq_true c12
          clear c12
          obtain rfl := Option.some.inj H
          go_enter Try.func22, Try.ntmps22
          go_wp2_with (first | ((with_reducible refine gate_dst (N := 2) rfl ?_); refine box_event ?hg (N := 2) ?hd (cs := #[.int .i64 a0_0, .slice A0_1 l0_1.length c0_1, .int .i64 a0_2]) (t := 37) ?hr ?_; (case hd => rfl); (case hg => rfl); (case hr => first | (go_simp; done) | (go_simp; rfl)); intro gb126 hg w13 hbox hb; have n0_ := Aside0.mk (below_step (by repeat (first | (with_reducible first | exact HB.out | apply below_alloc | apply pw_below_drewN | apply below_drew1) | exact HB.out)) hb); have n1_ := Aside0.mk (hbox); have n2_ := Aside0.mk ((by rw [hg]; exact (below_size (by repeat (first | (with_reducible first | exact HB.out | apply below_alloc | apply pw_below_drewN | apply below_drew1) | exact HB.out))) : w.heap.size ≤ gb126)); have n3_ := Aside0.mk ((by rw [hg]; exact (below_size (by repeat (first | (with_reducible first | exact HB.out | apply below_alloc | apply pw_below_drewN | apply below_drew1) | exact HB.out))) : w.heap.size ≤ gb126)); clear HB; have HB := n0_; have BK126 := n1_; have GW126 := n2_; have GE126 := n3_; clear n0_ n1_ n2_ n3_; clear hb hbox hg; have hcz14_0 : w13.cell? ⟨gb126, 0, none⟩ = some (.int .i64 a0_0) := (blk_cell BK126.out 0).trans rfl; have hcz14_1 : w13.cell? ⟨gb126, 1, none⟩ = some (.slice A0_1 l0_1.length c0_1) := (blk_cell BK126.out 1).trans rfl; have hcz14_2 : w13.cell? ⟨gb126, 2, none⟩ = some (.int .i64 a0_2) := (blk_cell BK126.out 2).trans rfl; have hfz14_0 := blk_frozen BK126.out 0; have hfz14_1 := blk_frozen BK126.out 1; have hfz14_2 := blk_frozen BK126.out 2; have p127 : 0 ≤ (a1 : Int) := of_decide_eq_true (by first | (with_reducible assumption) | assumption); have q127 : a1 < (l0_1.length : Int) := of_decide_eq_true (by first | (with_reducible assumption) | assumption); obtain ⟨ad127, e127, hx127_0⟩ := Kd.at_string HR0_1.out a1 p127 q127; cases e127; replace hx127_0 := (HB.out.cell (World.block_lt_of_cell? w _ hx127_0)).trans hx127_0; replace p127 := eq_true p127; replace q127 := eq_true q127))
          go_ret
          exact ⟨by first | rfl | (simp [errW_none, errW_some] <;> rfl) | (simp [*, errW_none, errW_some] <;> rfl), by repeat (first | (with_reducible first | exact HB.out | apply below_alloc | apply pw_below_drewN | apply below_drew1 | refine below_set ?_ GE126.out) | exact HB.out)⟩
        · rw [if_neg c12] at H
          exact absurd H (by simp)
      · rw [if_neg c11] at H
        have c11b0 : decide (a1 < (l0_1.length : Int)) = false := decide_eq_false c11
        clear c11
        obtain ⟨ji15, hji15⟩ : ∃ j_ : Int, (wrap64 ((l0_1.length : Int) - 1)) = j_ := ⟨_, rfl⟩
        replace H : (if 0 ≤ (ji15) then (if (ji15) < (l0_1.length : Int) then (some (rdOf ByteArray.empty l0_1 (ji15))) else (none)) else (none)) = some r := by first | (rw [hji15] at H; exact H) | (simp only [hji15] at H ⊢; exact H)
        have hji15w : (IntKind.i64.wrap ((l0_1.length : Int) - 1)) = ji15 := (i64_w _).trans hji15
        by_cases c16 : 0 ≤ (ji15)
        · rw [if_pos c16] at H
          have c16b0 : decide (0 ≤ (ji15)) = true := decide_eq_true c16
          clear c16
          by_cases c17 : (ji15) < (l0_1.length : Int)
          · rw [if_pos c17] at H
            have c17b0 : decide ((ji15) < (l0_1.length : Int)) = true := decide_eq_true c17
            clear c17
            obtain rfl := Option.some.inj H
            go_enter Try.func22, Try.ntmps22
            go_wp2_with (first | ((with_reducible refine gate_dst (N := 2) rfl ?_); refine box_event ?hg (N := 2) ?hd (cs := #[.int .i64 a0_0, .slice A0_1 l0_1.length c0_1, .int .i64 a0_2]) (t := 37) ?hr ?_; (case hd => rfl); (case hg => rfl); (case hr => first | (go_simp; done) | (go_simp; rfl)); intro gb126 hg w18 hbox hb; have n0_ := Aside0.mk (below_step (by repeat (first | (with_reducible first | exact HB.out | apply below_alloc | apply pw_below_drewN | apply below_drew1) | exact HB.out)) hb); have n1_ := Aside0.mk (hbox); have n2_ := Aside0.mk ((by rw [hg]; exact (below_size (by repeat (first | (with_reducible first | exact HB.out | apply below_alloc | apply pw_below_drewN | apply below_drew1) | exact HB.out))) : w.heap.size ≤ gb126)); have n3_ := Aside0.mk ((by rw [hg]; exact (below_size (by repeat (first | (with_reducible first | exact HB.out | apply below_alloc | apply pw_below_drewN | apply below_drew1) | exact HB.out))) : w.heap.size ≤ gb126)); clear HB; have HB := n0_; have BK126 := n1_; have GW126 := n2_; have GE126 := n3_; clear n0_ n1_ n2_ n3_; clear hb hbox hg; have hcz19_0 : w18.cell? ⟨gb126, 0, none⟩ = some (.int .i64 a0_0) := (blk_cell BK126.out 0).trans rfl; have hcz19_1 : w18.cell? ⟨gb126, 1, none⟩ = some (.slice A0_1 l0_1.length c0_1) := (blk_cell BK126.out 1).trans rfl; have hcz19_2 : w18.cell? ⟨gb126, 2, none⟩ = some (.int .i64 a0_2) := (blk_cell BK126.out 2).trans rfl; have hfz19_0 := blk_frozen BK126.out 0; have hfz19_1 := blk_frozen BK126.out 1; have hfz19_2 := blk_frozen BK126.out 2; have p128 : 0 ≤ ((ji15) : Int) := of_decide_eq_true (by first | (with_reducible assumption) | assumption); have q128 : (ji15) < (l0_1.length : Int) := of_decide_eq_true (by first | (with_reducible assumption) | assumption); obtain ⟨ad128, e128, hx128_0⟩ := Kd.at_string HR0_1.out (ji15) p128 q128; cases e128; replace hx128_0 := (HB.out.cell (World.block_lt_of_cell? w _ hx128_0)).trans hx128_0; replace p128 := eq_true p128; replace q128 := eq_true q128))
            go_ret
            exact ⟨by first | rfl | (simp [errW_none, errW_some] <;> rfl) | (simp only [← hji15]; first | rfl | (simp [errW_none, errW_some] <;> rfl)) | (simp [*, errW_none, errW_some] <;> rfl), by repeat (first | (with_reducible first | exact HB.out | apply below_alloc | apply pw_below_drewN | apply below_drew1 | refine below_set ?_ GE126.out) | exact HB.out)⟩
          · rw [if_neg c17] at H
            exact absurd H (by simp)
        · rw [if_neg c16] at H
          exact absurd H (by simp)
    · rw [if_neg c10] at H
      have c10b0 : (a0_0 == 3) = false := beq_eq_false_iff_ne.mpr c10
      have c10b1 : (a0_0 != 3) = true := bne_iff_ne.mpr c10
      by_cases c20 : 0 < (l0_1.length : Int)
      · rw [if_pos c20] at H
        have c20b0 : decide (0 < (l0_1.length : Int)) = true := decide_eq_true c20
        have c20b1 : decide (0 < l0_1.length) = true := decide_eq_true (by omega)
        clear c20
        obtain rfl := Option.some.inj H
        go_enter Try.func22, Try.ntmps22
        go_wp2_with (first | ((with_reducible refine gate_dst (N := 2) rfl ?_); refine box_event ?hg (N := 2) ?hd (cs := #[.int .i64 a0_0, .slice A0_1 l0_1.length c0_1, .int .i64 a0_2]) (t := 37) ?hr ?_; (case hd => rfl); (case hg => rfl); (case hr => first | (go_simp; done) | (go_simp; rfl)); intro gb126 hg w21 hbox hb; have n0_ := Aside0.mk (below_step (by repeat (first | (with_reducible first | exact HB.out | apply below_alloc | apply pw_below_drewN | apply below_drew1) | exact HB.out)) hb); have n1_ := Aside0.mk (hbox); have n2_ := Aside0.mk ((by rw [hg]; exact (below_size (by repeat (first | (with_reducible first | exact HB.out | apply below_alloc | apply pw_below_drewN | apply below_drew1) | exact HB.out))) : w.heap.size ≤ gb126)); have n3_ := Aside0.mk ((by rw [hg]; exact (below_size (by repeat (first | (with_reducible first | exact HB.out | apply below_alloc | apply pw_below_drewN | apply below_drew1) | exact HB.out))) : w.heap.size ≤ gb126)); clear HB; have HB := n0_; have BK126 := n1_; have GW126 := n2_; have GE126 := n3_; clear n0_ n1_ n2_ n3_; clear hb hbox hg; have hcz22_0 : w21.cell? ⟨gb126, 0, none⟩ = some (.int .i64 a0_0) := (blk_cell BK126.out 0).trans rfl; have hcz22_1 : w21.cell? ⟨gb126, 1, none⟩ = some (.slice A0_1 l0_1.length c0_1) := (blk_cell BK126.out 1).trans rfl; have hcz22_2 : w21.cell? ⟨gb126, 2, none⟩ = some (.int .i64 a0_2) := (blk_cell BK126.out 2).trans rfl; have hfz22_0 := blk_frozen BK126.out 0; have hfz22_1 := blk_frozen BK126.out 1; have hfz22_2 := blk_frozen BK126.out 2; have p129 : 0 ≤ (0 : Int) := (by omega); have q129 : 0 < (l0_1.length : Int) := of_decide_eq_true (by first | (with_reducible assumption) | assumption); obtain ⟨ad129, e129, hx129_0⟩ := Kd.at_string HR0_1.out 0 p129 q129; cases e129; have qi129 : (0 < l0_1.length) = True := eq_true (by omega); (try rw [show ((0 : Int)).toNat = 0 from rfl] at hx129_0); (try rw [Addr.add_zero'] at hx129_0); replace hx129_0 := (HB.out.cell (World.block_lt_of_cell? w _ hx129_0)).trans hx129_0; replace p129 := eq_true p129; replace q129 := eq_true q129))
        go_ret
        exact ⟨by first | rfl | (simp [errW_none, errW_some] <;> rfl) | (simp [*, errW_none, errW_some] <;> rfl), by repeat (first | (with_reducible first | exact HB.out | apply below_alloc | apply pw_below_drewN | apply below_drew1 | refine below_set ?_ GE126.out) | exact HB.out)⟩
      · rw [if_neg c20] at H
        exact absurd H (by simp)

end Go.Proofs.Ytpmiaaphmgoapaa.H
