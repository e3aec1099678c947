-- Printed by hprint.py (this session's program over the kit's print) out of the translation; the parts 'by hand' are the session's own.
import Derived.Test.YtfcobfjjcocggaaDoorQx0
namespace Go.Proofs.YtfcobfjjcocggaaDoor.Q
open Go.RowKit Go.Proofs.YtfcobfjjcocggaaDoorW.PrintWords Go.Proofs.YtfcobfjjcocggaaDoorW.PrintLast Go.Proofs.YtfcobfjjcocggaaDoorW.PrintMore
attribute [local go_sem] max2_int min2_int max_two min_two max_three min_three max_four min_four   -- for this text's walks alone
set_option linter.unusedVariables false
set_option linter.unusedSimpArgs false

/-! ### siglumref01_written: function 39 -/
mutual
def siglumref01_written.j0 : Nat → Int → Bool → Option (List Int)
  | 0, _, _ => none
  | k + 1, x0, x16 => if x16 = true then (siglumref01_written.j1 k 65533) else (siglumref01_written.j1 k x0)
def siglumref01_written.j1 : Nat → Int → Option (List Int)
  | 0, _ => none
  | k + 1, x0 => if x0 < 128 then (some (([(x0) % 256] : List Int))) else (if x0 < 2048 then (some (([Go.bits .or .u8 192 ((x0 / 64) % 256), Go.bits .or .u8 128 ((Go.bits .and .i32 x0 63) % 256)] : List Int))) else (if x0 < 65536 then (some (([Go.bits .or .u8 224 ((x0 / 4096) % 256), Go.bits .or .u8 128 ((Go.bits .and .i32 (x0 / 64) 63) % 256), Go.bits .or .u8 128 ((Go.bits .and .i32 x0 63) % 256)] : List Int))) else (some (([Go.bits .or .u8 240 ((x0 / 262144) % 256), Go.bits .or .u8 128 ((Go.bits .and .i32 (x0 / 4096) 63) % 256), Go.bits .or .u8 128 ((Go.bits .and .i32 (x0 / 64) 63) % 256), Go.bits .or .u8 128 ((Go.bits .and .i32 x0 63) % 256)] : List Int)))))
end
def siglumref01_written.f (k : Nat) (a0 : Int) : Option (List Int) := if a0 < 0 then (siglumref01_written.j0 k a0 true) else (if a0 > 1114111 then (siglumref01_written.j0 k a0 true) else (if a0 ≥ 55296 then (siglumref01_written.j0 k a0 (decide (a0 ≤ 57343))) else (siglumref01_written.j0 k a0 false)))
theorem siglumref01_written.mono_l : ∀ k, (∀ y0 y1, LeO (siglumref01_written.j0 k y0 y1) (siglumref01_written.j0 (k + 1) y0 y1)) ∧ (∀ y0, LeO (siglumref01_written.j1 k y0) (siglumref01_written.j1 (k + 1) y0))
  | 0 => ⟨fun _ _ r h => by simp [siglumref01_written.j0] at h, fun _ r h => by simp [siglumref01_written.j1] at h⟩
  | k + 1 => by
    obtain ⟨ih0, ih1⟩ := siglumref01_written.mono_l k
    refine ⟨?_, ?_⟩
    · intro y0 y1
      unfold siglumref01_written.j0
      repeat' first
      | (with_reducible exact ih0 _ _)
      | (with_reducible exact ih1 _)
      | (with_reducible exact LeO.refl _)
      | (with_reducible exact LeO.none _)
      | (with_reducible refine LeO.ite ?_ ?_)
      | (with_reducible refine LeO.bind ?_ (fun _ => ?_))
      | exact ih0 _ _
      | exact ih1 _
      | exact LeO.none _
      | refine LeO.ite ?_ ?_
      | refine LeO.bind ?_ (fun _ => ?_)
    · intro y0
      unfold siglumref01_written.j1
      repeat' first
      | (with_reducible exact ih0 _ _)
      | (with_reducible exact ih1 _)
      | (with_reducible exact LeO.refl _)
      | (with_reducible exact LeO.none _)
      | (with_reducible refine LeO.ite ?_ ?_)
      | (with_reducible refine LeO.bind ?_ (fun _ => ?_))
      | exact ih0 _ _
      | exact ih1 _
      | exact LeO.none _
      | refine LeO.ite ?_ ?_
      | refine LeO.bind ?_ (fun _ => ?_)
theorem siglumref01_written.mono : ∀ a0 k, LeO (siglumref01_written.f k a0) (siglumref01_written.f (k + 1) a0) := by
  intro a0 k
  obtain ⟨ih0, ih1⟩ := siglumref01_written.mono_l k
  unfold siglumref01_written.f
  repeat' first
      | (with_reducible exact ih0 _ _)
      | (with_reducible exact ih1 _)
      | (with_reducible exact LeO.refl _)
      | (with_reducible exact LeO.none _)
      | (with_reducible refine LeO.ite ?_ ?_)
      | (with_reducible refine LeO.bind ?_ (fun _ => ?_))
      | exact ih0 _ _
      | exact ih1 _
      | exact LeO.none _
      | refine LeO.ite ?_ ?_
      | refine LeO.bind ?_ (fun _ => ?_)
set_option maxHeartbeats 8000000 in
set_option maxRecDepth 100000 in
theorem siglumref01_written.calls (k : Nat) (a0 : Int) (r : List Int) (w : World) (h : siglumref01_written.f k a0 = some r) :
    Calls Tryd.prog 39 #[.int .i32 a0] w fun e w' => ∃ v0_ : Value, e = .returned (v0_) ∧ Kd.R (Kd.int .u8) 5 w' w.heap.size (fun _ => True) v0_ r ∧ Below w.heap.size w w' := by
  have HB := Aside0.mk (Below.refl w.heap.size w)
  have H : (if a0 < 0 then (siglumref01_written.j0 k a0 true) else (if a0 > 1114111 then (siglumref01_written.j0 k a0 true) else (if a0 ≥ 55296 then (siglumref01_written.j0 k a0 (decide (a0 ≤ 57343))) else (siglumref01_written.j0 k a0 false)))) = some r := h
  clear h
  have HC2 := Aside0.mk H
  clear H
  go_enter Tryd.func39, Tryd.ntmps39
  go_upto_region 1 with (fail)
  go_cut [16] (fun v16 wc => ∃ (kq : Nat) (x16_1 : Bool), v16 = .bool x16_1 ∧ Aside0 (siglumref01_written.j0 kq a0 x16_1 = some r) ∧ Aside0 (kq ≤ k) ∧ Aside0 (Below w.heap.size w wc))
  case first =>
    have H := HC2.out
    clear HC2
    by_cases c3 : a0 < 0
    · rw [if_pos c3] at H
      have c3b0 : decide (a0 < 0) = true := decide_eq_true c3
      clear c3
      (first | rw [c3b0] | (simp only [i64_w, i32_w]; rw [c3b0]) | skip)
      have H' := Aside0.mk H
      clear H
      go_wp2
      go_meet
      case rel => exact ⟨_, (true), (by first | rfl | (simp; done) | (simp [*]; done)), H', ⟨by first | omega | exact Nat.le_refl _⟩, ⟨by repeat (first | (with_reducible first | exact HB.out | apply below_alloc | apply pw_below_drewN | apply below_drew1) | exact HB.out)⟩⟩
    · rw [if_neg c3] at H
      have c3b0 : decide (a0 < 0) = false := decide_eq_false c3
      clear c3
      (first | rw [c3b0] | (simp only [i64_w, i32_w]; rw [c3b0]) | skip)
      by_cases c4 : a0 > 1114111
      · rw [if_pos c4] at H
        have c4b0 : decide (1114111 < a0) = true := decide_eq_true c4
        clear c4
        have H' := Aside0.mk H
        clear H
        go_wp2
        go_meet
        case rel => exact ⟨_, (true), (by first | rfl | (simp; done) | (simp [*]; done)), H', ⟨by first | omega | exact Nat.le_refl _⟩, ⟨by repeat (first | (with_reducible first | exact HB.out | apply below_alloc | apply pw_below_drewN | apply below_drew1) | exact HB.out)⟩⟩
      · rw [if_neg c4] at H
        have c4b0 : decide (1114111 < a0) = false := decide_eq_false c4
        clear c4
        by_cases c5 : a0 ≥ 55296
        · rw [if_pos c5] at H
          have c5b0 : decide (55296 ≤ a0) = true := decide_eq_true c5
          clear c5
          have H' := Aside0.mk H
          clear H
          go_wp2
          go_meet
          case rel => exact ⟨_, (decide (a0 ≤ 57343)), (by first | rfl | (simp; done) | (simp [*]; done)), H', ⟨by first | omega | exact Nat.le_refl _⟩, ⟨by repeat (first | (with_reducible first | exact HB.out | apply below_alloc | apply pw_below_drewN | apply below_drew1) | exact HB.out)⟩⟩
        · rw [if_neg c5] at H
          have c5b0 : decide (55296 ≤ a0) = false := decide_eq_false c5
          clear c5
          have H' := Aside0.mk H
          clear H
          go_wp2
          go_meet
          case rel => exact ⟨_, (false), (by first | rfl | (simp; done) | (simp [*]; done)), H', ⟨by first | omega | exact Nat.le_refl _⟩, ⟨by repeat (first | (with_reducible first | exact HB.out | apply below_alloc | apply pw_below_drewN | apply below_drew1) | exact HB.out)⟩⟩
  case rest =>
    clear HC2
    try clear p2
    try clear c3
    try clear c3b0
    try clear c4
    try clear c4b0
    try clear c5
    try clear c5b0
    obtain ⟨kq, x16_1, rfl, HA, HJ1, HB⟩ := hcut
    cases kq with
    | zero => exact absurd HA.out (by simp [siglumref01_written.j0])
    | succ kj1 =>
      have H := HA.out
      clear HA
      simp only [siglumref01_written.j0] at H
      have HC6 := Aside0.mk H
      clear H
      go_upto_if 16 with (fail)
      go_cut [0] (fun v0 wc => ∃ (kq : Nat) (x0_5 : Int), v0 = .int .i32 x0_5 ∧ Aside0 (siglumref01_written.j1 kq x0_5 = some r) ∧ Aside0 (kq ≤ kj1) ∧ Aside0 (Below w.heap.size w wc))
      case first =>
        have H := HC6.out
        clear HC6
        by_cases c7 : x16_1 = true
        · subst c7
          have H1 : (siglumref01_written.j1 kj1 65533) = some r := by rw [if_pos rfl] at H; exact H
          clear H
          have H := H1
          clear H1
          have H' := Aside0.mk H
          clear H
          go_wp2
          go_meet
          case rel => exact ⟨_, (65533), (by first | rfl | (simp; done) | (simp [*]; done)), H', ⟨by have := HJ1.out; first | omega | exact Nat.le_refl _⟩, ⟨by repeat (first | (with_reducible first | exact HB.out | apply below_alloc | apply pw_below_drewN | apply below_drew1) | exact HB.out)⟩⟩
        · replace c7 := Bool.eq_false_iff.mpr c7
          subst c7
          have H1 : (siglumref01_written.j1 kj1 a0) = some r := by rw [if_neg (show ¬ (false = true) by decide)] at H; exact H
          clear H
          have H := H1
          clear H1
          have H' := Aside0.mk H
          clear H
          go_wp2
          go_meet
          case rel => exact ⟨_, (a0), (by first | rfl | (simp; done) | (simp [*]; done)), H', ⟨by have := HJ1.out; first | omega | exact Nat.le_refl _⟩, ⟨by repeat (first | (with_reducible first | exact HB.out | apply below_alloc | apply pw_below_drewN | apply below_drew1) | exact HB.out)⟩⟩
      case rest =>
        clear HC6
        try clear p2
        try clear c3
        try clear c3b0
        try clear c4
        try clear c4b0
        try clear c5
        try clear c5b0
        try clear c7
        try clear p2
        obtain ⟨kq, x0_5, rfl, HA, HJ5, HB⟩ := hcut
        cases kq with
        | zero => exact absurd HA.out (by simp [siglumref01_written.j1])
        | succ kj5 =>
          have H := HA.out
          clear HA
          simp only [siglumref01_written.j1] at H
          by_cases c8 : x0_5 < 128
          · rw [if_pos c8] at H
            have c8b0 : decide (x0_5 < 128) = true := decide_eq_true c8
            clear c8
            obtain ⟨y240, hy240⟩ : ∃ y_ : List Int, y_ = (([(x0_5) % 256] : List Int)) := ⟨_, rfl⟩
            replace H : (some y240) = some r := by first | (rw [hy240]; with_reducible exact H) | (have H2_ := (Option.bind_some _ _).symm.trans H; rw [hy240]; with_reducible exact H2_) | (have H2_ := (Option.bind_some _ _).symm.trans H; with_reducible exact H2_) | with_reducible exact H | (rw [hy240]; exact H) | exact H
            have Ny240 := Aside0.mk hy240
            clear hy240
            obtain rfl := Option.some.inj H
            go_wp2_with (first | ((with_reducible refine gate_dst (N := 22) rfl ?_); refine Kd.R_lit (Kd.int .u8) _ 5 ?hg (N := 22) ?hd (xs := ([(x0_5) % 256] : List Int)) (inner := [.int .u8 ((x0_5) % 256)]) (ok := fun _ => True) (okp := fun _ => True) ?hr ?hp (fun _ hk => hk) trivial (Below.refl _ _) (Nat.le_refl _) (by simp) ?_; (case hd => rfl); (case hg => rfl); (case hr => first | (go_simp; done) | (go_simp; rfl)); (case hp => exact (Reps.one (show Kd.M (Kd.int .u8) _ _ _ ((x0_5) % 256) [.int .u8 ((x0_5) % 256)] from rfl) (Reps.none _ _))); intro v241 w9 ho10 hb hg_ hnew_; clear hg_ hnew_; (first | rw [← Ny240.out] at ho10 | (simp only [Int.reduceToNat] at ho10; rw [← Ny240.out] at ho10)); have n0_ := Aside0.mk (Kd.R_lower ho10 (below_size (by repeat (first | (with_reducible first | exact HB.out | apply below_alloc | apply pw_below_drewN | apply below_drew1) | exact HB.out)))); have n1_ := Aside0.mk (below_step (by repeat (first | (with_reducible first | exact HB.out | apply below_alloc | apply pw_below_drewN | apply below_drew1) | exact HB.out)) hb); clear HB; have HO242 := n0_; have HB := n1_; clear n0_ n1_; clear hb ho10))
            go_ret
            exact ⟨_, by first | rfl | (simp [errW_none, errW_some] <;> rfl) | (simp [*, errW_none, errW_some] <;> rfl), by (with_reducible repeat (first | apply Kd.R_alloc | apply Kd.R_drewN | apply Kd.R_drew)); exact HO242.out, by repeat (first | (with_reducible first | exact HB.out | apply below_alloc | apply pw_below_drewN | apply below_drew1) | exact HB.out)⟩
          · rw [if_neg c8] at H
            have c8b0 : decide (x0_5 < 128) = false := decide_eq_false c8
            clear c8
            by_cases c11 : x0_5 < 2048
            · rw [if_pos c11] at H
              have c11b0 : decide (x0_5 < 2048) = true := decide_eq_true c11
              clear c11
              obtain ⟨y243, hy243⟩ : ∃ y_ : List Int, y_ = (([Go.bits .or .u8 192 ((x0_5 / 64) % 256), Go.bits .or .u8 128 ((Go.bits .and .i32 x0_5 63) % 256)] : List Int)) := ⟨_, rfl⟩
              replace H : (some y243) = some r := by first | (rw [hy243]; with_reducible exact H) | (have H2_ := (Option.bind_some _ _).symm.trans H; rw [hy243]; with_reducible exact H2_) | (have H2_ := (Option.bind_some _ _).symm.trans H; with_reducible exact H2_) | with_reducible exact H | (rw [hy243]; exact H) | exact H
              have Ny243 := Aside0.mk hy243
              clear hy243
              obtain rfl := Option.some.inj H
              go_wp2_with (first | ((with_reducible refine gate_dst (N := 34) rfl ?_); refine Kd.R_lit (Kd.int .u8) _ 5 ?hg (N := 34) ?hd (xs := ([Go.bits .or .u8 192 ((x0_5 / 64) % 256), Go.bits .or .u8 128 ((Go.bits .and .i32 x0_5 63) % 256)] : List Int)) (inner := [.int .u8 (Go.bits .or .u8 192 ((x0_5 / 64) % 256)), .int .u8 (Go.bits .or .u8 128 ((Go.bits .and .i32 x0_5 63) % 256))]) (ok := fun _ => True) (okp := fun _ => True) ?hr ?hp (fun _ hk => hk) trivial (Below.refl _ _) (Nat.le_refl _) (by simp) ?_; (case hd => rfl); (case hg => rfl); (case hr => first | (go_simp; done) | (go_simp; rfl)); (case hp => exact (Reps.one (show Kd.M (Kd.int .u8) _ _ _ (Go.bits .or .u8 192 ((x0_5 / 64) % 256)) [.int .u8 (Go.bits .or .u8 192 ((x0_5 / 64) % 256))] from rfl) (Reps.one (show Kd.M (Kd.int .u8) _ _ _ (Go.bits .or .u8 128 ((Go.bits .and .i32 x0_5 63) % 256)) [.int .u8 (Go.bits .or .u8 128 ((Go.bits .and .i32 x0_5 63) % 256))] from rfl) (Reps.none _ _)))); intro v244 w12 ho13 hb hg_ hnew_; clear hg_ hnew_; (first | rw [← Ny243.out] at ho13 | (simp only [Int.reduceToNat] at ho13; rw [← Ny243.out] at ho13)); have n0_ := Aside0.mk (Kd.R_lower ho13 (below_size (by repeat (first | (with_reducible first | exact HB.out | apply below_alloc | apply pw_below_drewN | apply below_drew1) | exact HB.out)))); have n1_ := Aside0.mk (below_step (by repeat (first | (with_reducible first | exact HB.out | apply below_alloc | apply pw_below_drewN | apply below_drew1) | exact HB.out)) hb); clear HB; have HO245 := n0_; have HB := n1_; clear n0_ n1_; clear hb ho13))
              go_ret
              exact ⟨_, by first | rfl | (simp [errW_none, errW_some] <;> rfl) | (simp [*, errW_none, errW_some] <;> rfl), by (with_reducible repeat (first | apply Kd.R_alloc | apply Kd.R_drewN | apply Kd.R_drew)); exact HO245.out, by repeat (first | (with_reducible first | exact HB.out | apply below_alloc | apply pw_below_drewN | apply below_drew1) | exact HB.out)⟩
            · rw [if_neg c11] at H
              have c11b0 : decide (x0_5 < 2048) = false := decide_eq_false c11
              clear c11
              by_cases c14 : x0_5 < 65536
              · rw [if_pos c14] at H
                have c14b0 : decide (x0_5 < 65536) = true := decide_eq_true c14
                clear c14
                obtain ⟨y246, hy246⟩ : ∃ y_ : List Int, y_ = (([Go.bits .or .u8 224 ((x0_5 / 4096) % 256), Go.bits .or .u8 128 ((Go.bits .and .i32 (x0_5 / 64) 63) % 256), Go.bits .or .u8 128 ((Go.bits .and .i32 x0_5 63) % 256)] : List Int)) := ⟨_, rfl⟩
                replace H : (some y246) = some r := by first | (rw [hy246]; with_reducible exact H) | (have H2_ := (Option.bind_some _ _).symm.trans H; rw [hy246]; with_reducible exact H2_) | (have H2_ := (Option.bind_some _ _).symm.trans H; with_reducible exact H2_) | with_reducible exact H | (rw [hy246]; exact H) | exact H
                have Ny246 := Aside0.mk hy246
                clear hy246
                obtain rfl := Option.some.inj H
                go_wp2_with (first | ((with_reducible refine gate_dst (N := 51) rfl ?_); refine Kd.R_lit (Kd.int .u8) _ 5 ?hg (N := 51) ?hd (xs := ([Go.bits .or .u8 224 ((x0_5 / 4096) % 256), Go.bits .or .u8 128 ((Go.bits .and .i32 (x0_5 / 64) 63) % 256), Go.bits .or .u8 128 ((Go.bits .and .i32 x0_5 63) % 256)] : List Int)) (inner := [.int .u8 (Go.bits .or .u8 224 ((x0_5 / 4096) % 256)), .int .u8 (Go.bits .or .u8 128 ((Go.bits .and .i32 (x0_5 / 64) 63) % 256)), .int .u8 (Go.bits .or .u8 128 ((Go.bits .and .i32 x0_5 63) % 256))]) (ok := fun _ => True) (okp := fun _ => True) ?hr ?hp (fun _ hk => hk) trivial (Below.refl _ _) (Nat.le_refl _) (by simp) ?_; (case hd => rfl); (case hg => rfl); (case hr => first | (go_simp; done) | (go_simp; rfl)); (case hp => exact (Reps.one (show Kd.M (Kd.int .u8) _ _ _ (Go.bits .or .u8 224 ((x0_5 / 4096) % 256)) [.int .u8 (Go.bits .or .u8 224 ((x0_5 / 4096) % 256))] from rfl) (Reps.one (show Kd.M (Kd.int .u8) _ _ _ (Go.bits .or .u8 128 ((Go.bits .and .i32 (x0_5 / 64) 63) % 256)) [.int .u8 (Go.bits .or .u8 128 ((Go.bits .and .i32 (x0_5 / 64) 63) % 256))] from rfl) (Reps.one (show Kd.M (Kd.int .u8) _ _ _ (Go.bits .or .u8 128 ((Go.bits .and .i32 x0_5 63) % 256)) [.int .u8 (Go.bits .or .u8 128 ((Go.bits .and .i32 x0_5 63) % 256))] from rfl) (Reps.none _ _))))); intro v247 w15 ho16 hb hg_ hnew_; clear hg_ hnew_; (first | rw [← Ny246.out] at ho16 | (simp only [Int.reduceToNat] at ho16; rw [← Ny246.out] at ho16)); have n0_ := Aside0.mk (Kd.R_lower ho16 (below_size (by repeat (first | (with_reducible first | exact HB.out | apply below_alloc | apply pw_below_drewN | apply below_drew1) | exact HB.out)))); have n1_ := Aside0.mk (below_step (by repeat (first | (with_reducible first | exact HB.out | apply below_alloc | apply pw_below_drewN | apply below_drew1) | exact HB.out)) hb); clear HB; have HO248 := n0_; have HB := n1_; clear n0_ n1_; clear hb ho16))
                go_ret
                exact ⟨_, by first | rfl | (simp [errW_none, errW_some] <;> rfl) | (simp [*, errW_none, errW_some] <;> rfl), by (with_reducible repeat (first | apply Kd.R_alloc | apply Kd.R_drewN | apply Kd.R_drew)); exact HO248.out, by repeat (first | (with_reducible first | exact HB.out | apply below_alloc | apply pw_below_drewN | apply below_drew1) | exact HB.out)⟩
              · rw [if_neg c14] at H
                have c14b0 : decide (x0_5 < 65536) = false := decide_eq_false c14
                clear c14
                obtain ⟨y249, hy249⟩ : ∃ y_ : List Int, y_ = (([Go.bits .or .u8 240 ((x0_5 / 262144) % 256), Go.bits .or .u8 128 ((Go.bits .and .i32 (x0_5 / 4096) 63) % 256), Go.bits .or .u8 128 ((Go.bits .and .i32 (x0_5 / 64) 63) % 256), Go.bits .or .u8 128 ((Go.bits .and .i32 x0_5 63) % 256)] : List Int)) := ⟨_, rfl⟩
                replace H : (some y249) = some r := by first | (rw [hy249]; with_reducible exact H) | (have H2_ := (Option.bind_some _ _).symm.trans H; rw [hy249]; with_reducible exact H2_) | (have H2_ := (Option.bind_some _ _).symm.trans H; with_reducible exact H2_) | with_reducible exact H | (rw [hy249]; exact H) | exact H
                have Ny249 := Aside0.mk hy249
                clear hy249
                obtain rfl := Option.some.inj H
                go_wp2_with (first | ((with_reducible refine gate_dst (N := 70) rfl ?_); refine Kd.R_lit (Kd.int .u8) _ 5 ?hg (N := 70) ?hd (xs := ([Go.bits .or .u8 240 ((x0_5 / 262144) % 256), Go.bits .or .u8 128 ((Go.bits .and .i32 (x0_5 / 4096) 63) % 256), Go.bits .or .u8 128 ((Go.bits .and .i32 (x0_5 / 64) 63) % 256), Go.bits .or .u8 128 ((Go.bits .and .i32 x0_5 63) % 256)] : List Int)) (inner := [.int .u8 (Go.bits .or .u8 240 ((x0_5 / 262144) % 256)), .int .u8 (Go.bits .or .u8 128 ((Go.bits .and .i32 (x0_5 / 4096) 63) % 256)), .int .u8 (Go.bits .or .u8 128 ((Go.bits .and .i32 (x0_5 / 64) 63) % 256)), .int .u8 (Go.bits .or .u8 128 ((Go.bits .and .i32 x0_5 63) % 256))]) (ok := fun _ => True) (okp := fun _ => True) ?hr ?hp (fun _ hk => hk) trivial (Below.refl _ _) (Nat.le_refl _) (by simp) ?_; (case hd => rfl); (case hg => rfl); (case hr => first | (go_simp; done) | (go_simp; rfl)); (case hp => exact (Reps.one (show Kd.M (Kd.int .u8) _ _ _ (Go.bits .or .u8 240 ((x0_5 / 262144) % 256)) [.int .u8 (Go.bits .or .u8 240 ((x0_5 / 262144) % 256))] from rfl) (Reps.one (show Kd.M (Kd.int .u8) _ _ _ (Go.bits .or .u8 128 ((Go.bits .and .i32 (x0_5 / 4096) 63) % 256)) [.int .u8 (Go.bits .or .u8 128 ((Go.bits .and .i32 (x0_5 / 4096) 63) % 256))] from rfl) (Reps.one (show Kd.M (Kd.int .u8) _ _ _ (Go.bits .or .u8 128 ((Go.bits .and .i32 (x0_5 / 64) 63) % 256)) [.int .u8 (Go.bits .or .u8 128 ((Go.bits .and .i32 (x0_5 / 64) 63) % 256))] from rfl) (Reps.one (show Kd.M (Kd.int .u8) _ _ _ (Go.bits .or .u8 128 ((Go.bits .and .i32 x0_5 63) % 256)) [.int .u8 (Go.bits .or .u8 128 ((Go.bits .and .i32 x0_5 63) % 256))] from rfl) (Reps.none _ _)))))); intro v250 w17 ho18 hb hg_ hnew_; clear hg_ hnew_; (first | rw [← Ny249.out] at ho18 | (simp only [Int.reduceToNat] at ho18; rw [← Ny249.out] at ho18)); have n0_ := Aside0.mk (Kd.R_lower ho18 (below_size (by repeat (first | (with_reducible first | exact HB.out | apply below_alloc | apply pw_below_drewN | apply below_drew1) | exact HB.out)))); have n1_ := Aside0.mk (below_step (by repeat (first | (with_reducible first | exact HB.out | apply below_alloc | apply pw_below_drewN | apply below_drew1) | exact HB.out)) hb); clear HB; have HO251 := n0_; have HB := n1_; clear n0_ n1_; clear hb ho18))
                go_ret
                exact ⟨_, by first | rfl | (simp [errW_none, errW_some] <;> rfl) | (simp [*, errW_none, errW_some] <;> rfl), by (with_reducible repeat (first | apply Kd.R_alloc | apply Kd.R_drewN | apply Kd.R_drew)); exact HO251.out, by repeat (first | (with_reducible first | exact HB.out | apply below_alloc | apply pw_below_drewN | apply below_drew1) | exact HB.out)⟩

end Go.Proofs.YtfcobfjjcocggaaDoor.Q
