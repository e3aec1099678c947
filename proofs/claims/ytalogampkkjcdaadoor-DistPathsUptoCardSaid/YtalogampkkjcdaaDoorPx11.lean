-- Printed by hprint.py (this session's program over the kit's print) out of the translation; the parts 'by hand' are the session's own.
import Derived.Test.YtalogampkkjcdaaDoorPx0
import Derived.Test.YtalogampkkjcdaaDoorPx1
import Derived.Test.YtalogampkkjcdaaDoorPx4
import Derived.Test.YtalogampkkjcdaaDoorPx5
import Derived.Test.YtalogampkkjcdaaDoorPx10
namespace Go.Proofs.YtalogampkkjcdaaDoor.P
open Go.RowKit Go.Proofs.YtalogampkkjcdaaDoorW.PrintWords Go.Proofs.YtalogampkkjcdaaDoorW.PrintLast Go.Proofs.YtalogampkkjcdaaDoorW.PrintMore
attribute [local go_sem] max2_int min2_int max_two min_two max_three min_three max_four min_four   -- for this text's walks alone
set_option linter.unusedVariables false
set_option linter.unusedSimpArgs false

attribute [local go_sem high] eqA30
/-! ### siglumlaw08_DistPaths: function 3 -/
mutual
def siglumlaw08_DistPaths.j0 : Nat → List (S30) → List (S30) → Bool → Option (Bool)
 | 0, _, _, _ => none
 | k + 1, x5, x7, x33 => if x33 = true then (some false) else (siglumlaw08_DistPaths.l0 k x5 x7 (x5.length : Int) 0)
def siglumlaw08_DistPaths.l0 : Nat → List (S30) → List (S30) → Int → Int → Option (Bool)
 | 0, _, _, _, _ => none
 | k + 1, x5, x7, x35, x36 => if x36 < x35 then (if 0 ≤ x36 then (if x36 < (x5.length : Int) then (if x36 < (x7.length : Int) then (if (!(((rd_T30 x5 x36).f0) == ((rd_T30 x7 x36).f0)) || (!((((rd_T30 x5 x36).f1).toList) == (((rd_T30 x7 x36).f1).toList)))) = true then (some false) else (siglumlaw08_DistPaths.l0 k x5 x7 x35 (wrap64 (x36 + 1)))) else (none)) else (none)) else (none)) else (some true)
end
def siglumlaw08_DistPaths.f (k : Nat) (a0 : ByteArray) (a1 : ByteArray) : Option (Bool) := (siglumlaw08_awake.f k).bind fun t267 => (if t267 = true then ((dist_Path.f k a0 a1).bind fun bt268 => ((siglumref08_Path.f k a0 a1).bind fun bt272 => (if bt268.2 = bt272.2 then (siglumlaw08_DistPaths.j0 k bt268.1 bt272.1 ((bt268.1.length : Int) != (bt272.1.length : Int))) else (siglumlaw08_DistPaths.j0 k bt268.1 bt272.1 true)))) else (some false))
theorem siglumlaw08_DistPaths.mono_l : ∀ k, (∀ y0 y1 y2, LeO (siglumlaw08_DistPaths.j0 k y0 y1 y2) (siglumlaw08_DistPaths.j0 (k + 1) y0 y1 y2)) ∧ (∀ y0 y1 y2 y3, LeO (siglumlaw08_DistPaths.l0 k y0 y1 y2 y3) (siglumlaw08_DistPaths.l0 (k + 1) y0 y1 y2 y3))
 | 0 => ⟨fun _ _ _ r h => by simp [siglumlaw08_DistPaths.j0] at h, fun _ _ _ _ r h => by simp [siglumlaw08_DistPaths.l0] at h⟩
 | k + 1 => by
  obtain ⟨ih0, ih1⟩ := siglumlaw08_DistPaths.mono_l k
  refine ⟨?_, ?_⟩
  ·
   intro y0 y1 y2
   unfold siglumlaw08_DistPaths.j0
   repeat' first
   | (with_reducible exact ih0 _ _ _)
   | (with_reducible exact ih1 _ _ _ _)
   | (with_reducible exact dist_Path.mono _ _ _)
   | (with_reducible exact siglumlaw08_awake.mono _)
   | (with_reducible exact siglumref08_Path.mono _ _ _)
   | (with_reducible exact LeO.refl _)
   | (with_reducible exact LeO.none _)
   | (with_reducible refine LeO.ite ?_ ?_)
   | (with_reducible refine LeO.bind ?_ (fun _ => ?_))
   | exact ih0 _ _ _
   | exact ih1 _ _ _ _
   | exact dist_Path.mono _ _ _
   | exact siglumlaw08_awake.mono _
   | exact siglumref08_Path.mono _ _ _
   | exact LeO.none _
   | refine LeO.ite ?_ ?_
   | refine LeO.bind ?_ (fun _ => ?_)
  ·
   intro y0 y1 y2 y3
   unfold siglumlaw08_DistPaths.l0
   repeat' first
   | (with_reducible exact ih0 _ _ _)
   | (with_reducible exact ih1 _ _ _ _)
   | (with_reducible exact dist_Path.mono _ _ _)
   | (with_reducible exact siglumlaw08_awake.mono _)
   | (with_reducible exact siglumref08_Path.mono _ _ _)
   | (with_reducible exact LeO.refl _)
   | (with_reducible exact LeO.none _)
   | (with_reducible refine LeO.ite ?_ ?_)
   | (with_reducible refine LeO.bind ?_ (fun _ => ?_))
   | exact ih0 _ _ _
   | exact ih1 _ _ _ _
   | exact dist_Path.mono _ _ _
   | exact siglumlaw08_awake.mono _
   | exact siglumref08_Path.mono _ _ _
   | exact LeO.none _
   | refine LeO.ite ?_ ?_
   | refine LeO.bind ?_ (fun _ => ?_)
theorem siglumlaw08_DistPaths.mono : ∀ a0 a1 k, LeO (siglumlaw08_DistPaths.f k a0 a1) (siglumlaw08_DistPaths.f (k + 1) a0 a1) := by
 intro a0 a1 k
 obtain ⟨ih0, ih1⟩ := siglumlaw08_DistPaths.mono_l k
 unfold siglumlaw08_DistPaths.f
 repeat' first
  | (with_reducible exact ih0 _ _ _)
  | (with_reducible exact ih1 _ _ _ _)
  | (with_reducible exact dist_Path.mono _ _ _)
  | (with_reducible exact siglumlaw08_awake.mono _)
  | (with_reducible exact siglumref08_Path.mono _ _ _)
  | (with_reducible exact LeO.refl _)
  | (with_reducible exact LeO.none _)
  | (with_reducible refine LeO.ite ?_ ?_)
  | (with_reducible refine LeO.bind ?_ (fun _ => ?_))
  | exact ih0 _ _ _
  | exact ih1 _ _ _ _
  | exact dist_Path.mono _ _ _
  | exact siglumlaw08_awake.mono _
  | exact siglumref08_Path.mono _ _ _
  | exact LeO.none _
  | refine LeO.ite ?_ ?_
  | refine LeO.bind ?_ (fun _ => ?_)
set_option maxHeartbeats 8000000 in
set_option maxRecDepth 100000 in
theorem siglumlaw08_DistPaths.calls (k : Nat) (a0 : ByteArray) (a1 : ByteArray) (r : Bool) (w : World) (hT : Lib.Utf8Tabs 0 1 w) (h : siglumlaw08_DistPaths.f k a0 a1 = some r) :
 Calls Tryd.prog 3 #[.string a0, .string a1] w fun e w' => e = .returned (.bool r) ∧ Below w.heap.size w w' := by
 have hu30 := Tryd.underlying30
 have HT := Aside0.mk hT
 clear hT
 have HB := Aside0.mk (Below.refl w.heap.size w)
 have H : ((siglumlaw08_awake.f k).bind fun t267 => (if t267 = true then ((dist_Path.f k a0 a1).bind fun bt268 => ((siglumref08_Path.f k a0 a1).bind fun bt272 => (if bt268.2 = bt272.2 then (siglumlaw08_DistPaths.j0 k bt268.1 bt272.1 ((bt268.1.length : Int) != (bt272.1.length : Int))) else (siglumlaw08_DistPaths.j0 k bt268.1 bt272.1 true)))) else (some false))) = some r := h
 clear h
 replace H := Option.bind_eq_some_iff.mp H
 obtain ⟨t267, A30, H⟩ := H
 replace H : (if t267 = true then ((dist_Path.f k a0 a1).bind fun bt268 => ((siglumref08_Path.f k a0 a1).bind fun bt272 => (if bt268.2 = bt272.2 then (siglumlaw08_DistPaths.j0 k bt268.1 bt272.1 ((bt268.1.length : Int) != (bt272.1.length : Int))) else (siglumlaw08_DistPaths.j0 k bt268.1 bt272.1 true)))) else (some false)) = some r := H
 have A3 := Aside0.mk A30
 clear A30
 by_cases c4 : t267 = true
 ·
  subst c4
  have H1 : ((dist_Path.f k a0 a1).bind fun bt268 => ((siglumref08_Path.f k a0 a1).bind fun bt272 => (if bt268.2 = bt272.2 then (siglumlaw08_DistPaths.j0 k bt268.1 bt272.1 ((bt268.1.length : Int) != (bt272.1.length : Int))) else (siglumlaw08_DistPaths.j0 k bt268.1 bt272.1 true)))) = some r := by rw [if_pos rfl] at H; exact H
  clear H
  have H := H1
  clear H1
  replace H := Option.bind_eq_some_iff.mp H
  obtain ⟨⟨t268, t269⟩, A50, H⟩ := H
  replace H : ((siglumref08_Path.f k a0 a1).bind fun bt272 => (if t269 = bt272.2 then (siglumlaw08_DistPaths.j0 k t268 bt272.1 ((t268.length : Int) != (bt272.1.length : Int))) else (siglumlaw08_DistPaths.j0 k t268 bt272.1 true))) = some r := H
  have A5 := Aside0.mk A50
  clear A50
  replace H := Option.bind_eq_some_iff.mp H
  obtain ⟨⟨t272, t273⟩, A60, H⟩ := H
  replace H : (if t269 = t273 then (siglumlaw08_DistPaths.j0 k t268 t272 ((t268.length : Int) != (t272.length : Int))) else (siglumlaw08_DistPaths.j0 k t268 t272 true)) = some r := H
  have A6 := Aside0.mk A60
  clear A60
  have HC7 := Aside0.mk H
  clear H
  go_enter Tryd.func3, Tryd.ntmps3
  go_upto_region 5 with (first | (go_at_call 15; (with_reducible refine (siglumlaw08_awake.calls k  true _ ?side1 A3.out).mono ?_); (case side1 => exact Utf.tabs_step HT.out (by repeat (first | (with_reducible first | exact HB.out | apply below_alloc | apply pw_below_drewN | apply below_drew1) | exact HB.out))); rintro e w8 ⟨rfl, hb⟩; have n0_ := Aside0.mk (below_step (by repeat (first | (with_reducible first | exact HB.out | apply below_alloc | apply pw_below_drewN | apply below_drew1) | exact HB.out)) hb); clear HB; have HB := n0_; clear n0_; (try clear hb); (try clear hb2); (try clear hk); (try clear hi)) | (go_at_call 16; (with_reducible refine (dist_Path.calls k a0 a1 t268 t269 _ ?side1 A5.out).mono ?_); (case side1 => exact Utf.tabs_step HT.out (by repeat (first | (with_reducible first | exact HB.out | apply below_alloc | apply pw_below_drewN | apply below_drew1) | exact HB.out))); rintro e w9 ⟨v270, rfl, ho0, hb⟩; have n0_ := Aside0.mk (Kd.R_lower ho0 (below_size (by repeat (first | (with_reducible first | exact HB.out | apply below_alloc | apply pw_below_drewN | apply below_drew1) | exact HB.out)))); have n1_ := Aside0.mk (below_step (by repeat (first | (with_reducible first | exact HB.out | apply below_alloc | apply pw_below_drewN | apply below_drew1) | exact HB.out)) hb); clear HB; have HO271 := n0_; have HB := n1_; clear n0_ n1_; (try clear hb); (try clear hb2); (try clear hk); (try clear hi); (try clear ho0)) | (go_at_call 17; (with_reducible refine (siglumref08_Path.calls k a0 a1 t272 t273 _ A6.out).mono ?_); rintro e w10 ⟨v274, rfl, ho0, hb⟩; have n0_ := Aside0.mk (Kd.R_elder' (by (with_reducible repeat (first | apply Kd.R_alloc | apply Kd.R_drewN | apply Kd.R_drew)); exact HO271.out) (Kd.R_base ho0) hb); have n1_ := Aside0.mk (Kd.R_lower (Kd.R_new' ho0 (Kd.R_lt (by (with_reducible repeat (first | apply Kd.R_alloc | apply Kd.R_drewN | apply Kd.R_drew)); exact HO271.out))) (below_size (by repeat (first | (with_reducible first | exact HB.out | apply below_alloc | apply pw_below_drewN | apply below_drew1) | exact HB.out)))); have n2_ := Aside0.mk (below_step (by repeat (first | (with_reducible first | exact HB.out | apply below_alloc | apply pw_below_drewN | apply below_drew1) | exact HB.out)) hb); clear HO271; clear HB; have HO271 := n0_; have HO275 := n1_; have HB := n2_; clear n0_ n1_ n2_; (try clear hb); (try clear hb2); (try clear hk); (try clear hi); (try clear ho0)))
  repeat (go_quiet (first | (go_at_call 15; (with_reducible refine (siglumlaw08_awake.calls k  true _ ?side1 A3.out).mono ?_); (case side1 => exact Utf.tabs_step HT.out (by repeat (first | (with_reducible first | exact HB.out | apply below_alloc | apply pw_below_drewN | apply below_drew1) | exact HB.out))); rintro e w8 ⟨rfl, hb⟩; have n0_ := Aside0.mk (below_step (by repeat (first | (with_reducible first | exact HB.out | apply below_alloc | apply pw_below_drewN | apply below_drew1) | exact HB.out)) hb); clear HB; have HB := n0_; clear n0_; (try clear hb); (try clear hb2); (try clear hk); (try clear hi)) | (go_at_call 16; (with_reducible refine (dist_Path.calls k a0 a1 t268 t269 _ ?side1 A5.out).mono ?_); (case side1 => exact Utf.tabs_step HT.out (by repeat (first | (with_reducible first | exact HB.out | apply below_alloc | apply pw_below_drewN | apply below_drew1) | exact HB.out))); rintro e w9 ⟨v270, rfl, ho0, hb⟩; have n0_ := Aside0.mk (Kd.R_lower ho0 (below_size (by repeat (first | (with_reducible first | exact HB.out | apply below_alloc | apply pw_below_drewN | apply below_drew1) | exact HB.out)))); have n1_ := Aside0.mk (below_step (by repeat (first | (with_reducible first | exact HB.out | apply below_alloc | apply pw_below_drewN | apply below_drew1) | exact HB.out)) hb); clear HB; have HO271 := n0_; have HB := n1_; clear n0_ n1_; (try clear hb); (try clear hb2); (try clear hk); (try clear hi); (try clear ho0)) | (go_at_call 17; (with_reducible refine (siglumref08_Path.calls k a0 a1 t272 t273 _ A6.out).mono ?_); rintro e w10 ⟨v274, rfl, ho0, hb⟩; have n0_ := Aside0.mk (Kd.R_elder' (by (with_reducible repeat (first | apply Kd.R_alloc | apply Kd.R_drewN | apply Kd.R_drew)); exact HO271.out) (Kd.R_base ho0) hb); have n1_ := Aside0.mk (Kd.R_lower (Kd.R_new' ho0 (Kd.R_lt (by (with_reducible repeat (first | apply Kd.R_alloc | apply Kd.R_drewN | apply Kd.R_drew)); exact HO271.out))) (below_size (by repeat (first | (with_reducible first | exact HB.out | apply below_alloc | apply pw_below_drewN | apply below_drew1) | exact HB.out)))); have n2_ := Aside0.mk (below_step (by repeat (first | (with_reducible first | exact HB.out | apply below_alloc | apply pw_below_drewN | apply below_drew1) | exact HB.out)) hb); clear HO271; clear HB; have HO271 := n0_; have HO275 := n1_; have HB := n2_; clear n0_ n1_ n2_; (try clear hb); (try clear hb2); (try clear hk); (try clear hi); (try clear ho0))); go_upto_region 5 with (first | (go_at_call 15; (with_reducible refine (siglumlaw08_awake.calls k  true _ ?side1 A3.out).mono ?_); (case side1 => exact Utf.tabs_step HT.out (by repeat (first | (with_reducible first | exact HB.out | apply below_alloc | apply pw_below_drewN | apply below_drew1) | exact HB.out))); rintro e w8 ⟨rfl, hb⟩; have n0_ := Aside0.mk (below_step (by repeat (first | (with_reducible first | exact HB.out | apply below_alloc | apply pw_below_drewN | apply below_drew1) | exact HB.out)) hb); clear HB; have HB := n0_; clear n0_; (try clear hb); (try clear hb2); (try clear hk); (try clear hi)) | (go_at_call 16; (with_reducible refine (dist_Path.calls k a0 a1 t268 t269 _ ?side1 A5.out).mono ?_); (case side1 => exact Utf.tabs_step HT.out (by repeat (first | (with_reducible first | exact HB.out | apply below_alloc | apply pw_below_drewN | apply below_drew1) | exact HB.out))); rintro e w9 ⟨v270, rfl, ho0, hb⟩; have n0_ := Aside0.mk (Kd.R_lower ho0 (below_size (by repeat (first | (with_reducible first | exact HB.out | apply below_alloc | apply pw_below_drewN | apply below_drew1) | exact HB.out)))); have n1_ := Aside0.mk (below_step (by repeat (first | (with_reducible first | exact HB.out | apply below_alloc | apply pw_below_drewN | apply below_drew1) | exact HB.out)) hb); clear HB; have HO271 := n0_; have HB := n1_; clear n0_ n1_; (try clear hb); (try clear hb2); (try clear hk); (try clear hi); (try clear ho0)) | (go_at_call 17; (with_reducible refine (siglumref08_Path.calls k a0 a1 t272 t273 _ A6.out).mono ?_); rintro e w10 ⟨v274, rfl, ho0, hb⟩; have n0_ := Aside0.mk (Kd.R_elder' (by (with_reducible repeat (first | apply Kd.R_alloc | apply Kd.R_drewN | apply Kd.R_drew)); exact HO271.out) (Kd.R_base ho0) hb); have n1_ := Aside0.mk (Kd.R_lower (Kd.R_new' ho0 (Kd.R_lt (by (with_reducible repeat (first | apply Kd.R_alloc | apply Kd.R_drewN | apply Kd.R_drew)); exact HO271.out))) (below_size (by repeat (first | (with_reducible first | exact HB.out | apply below_alloc | apply pw_below_drewN | apply below_drew1) | exact HB.out)))); have n2_ := Aside0.mk (below_step (by repeat (first | (with_reducible first | exact HB.out | apply below_alloc | apply pw_below_drewN | apply below_drew1) | exact HB.out)) hb); clear HO271; clear HB; have HO271 := n0_; have HO275 := n1_; have HB := n2_; clear n0_ n1_ n2_; (try clear hb); (try clear hb2); (try clear hk); (try clear hi); (try clear ho0))))
  (try simp only [Act.put,List.setIfInBounds_toArray,List.set_cons_zero,List.set_cons_succ])
  go_cut [33] (fun v33 wc => ∃ (kq : Nat) (x33_6 : Bool), v33 = .bool x33_6 ∧ Aside0 (siglumlaw08_DistPaths.j0 kq t268 t272 x33_6 = some r) ∧ Aside0 (kq ≤ k) ∧ Aside0 (Kd.R k30 30 wc w.heap.size (fun k_ => some k_ ≠ (v274 : Value).ownBlock) v270 t268) ∧ Aside0 (Kd.R k30 30 wc w.heap.size (fun k_ => some k_ ≠ (v270 : Value).ownBlock) v274 t272) ∧ Aside0 (Below w.heap.size w wc))
  case first =>
   have H := HC7.out
   clear HC7
   by_cases c11 : t269 = t273
   ·
    rw [if_pos c11] at H
    have c11b0 : (t269 == t273) = true := beq_iff_eq.mpr c11
    have c11b1 : (t269 != t273) = false := bne_eq_false_iff_eq.mpr c11
    clear c11
    (first | rw [c11b0] | (simp only [i64_w, i32_w]; rw [c11b0]) | skip)
    have H' := Aside0.mk H
    clear H
    obtain ⟨Ao12, co12, eo12⟩ := Kd.R_slice HO271.out
    subst eo12
    obtain ⟨Ao13, co13, eo13⟩ := Kd.R_slice HO275.out
    subst eo13
    go_wp2
    repeat (go_quiet (fail); try go_wp2)
    go_meet
    case rel => exact ⟨_, (((t268.length : Int) != (t272.length : Int))), (by first | rfl | (simp; done) | (simp [*]; done)), H', ⟨by first | omega | exact Nat.le_refl _⟩, ⟨by (with_reducible repeat (first | apply Kd.R_alloc | apply Kd.R_drewN | apply Kd.R_drew)); exact Kd.R_mono HO271.out (fun _ hk => hk.2)⟩, ⟨by (with_reducible repeat (first | apply Kd.R_alloc | apply Kd.R_drewN | apply Kd.R_drew)); exact Kd.R_mono HO275.out (fun _ hk => hk.2)⟩, ⟨by repeat (first | (with_reducible first | exact HB.out | apply below_alloc | apply pw_below_drewN | apply below_drew1) | exact HB.out)⟩⟩
   ·
    rw [if_neg c11] at H
    have c11b0 : (t269 == t273) = false := beq_eq_false_iff_ne.mpr c11
    have c11b1 : (t269 != t273) = true := bne_iff_ne.mpr c11
    (first | rw [c11b0] | (simp only [i64_w, i32_w]; rw [c11b0]) | skip)
    have H' := Aside0.mk H
    clear H
    go_wp2
    repeat (go_quiet (fail); try go_wp2)
    go_meet
    case rel => exact ⟨_, (true), (by first | rfl | (simp; done) | (simp [*]; done)), H', ⟨by first | omega | exact Nat.le_refl _⟩, ⟨by (with_reducible repeat (first | apply Kd.R_alloc | apply Kd.R_drewN | apply Kd.R_drew)); exact Kd.R_mono HO271.out (fun _ hk => hk.2)⟩, ⟨by (with_reducible repeat (first | apply Kd.R_alloc | apply Kd.R_drewN | apply Kd.R_drew)); exact Kd.R_mono HO275.out (fun _ hk => hk.2)⟩, ⟨by repeat (first | (with_reducible first | exact HB.out | apply below_alloc | apply pw_below_drewN | apply below_drew1) | exact HB.out)⟩⟩
  case rest =>
   clear HC7
   (try clear c1); (try clear p2); (try clear c3); (try clear c4); (try clear c11); (try clear c11b0); (try clear c11b1)
   obtain ⟨kq, x33_6, rfl, HA, HJ6, HO_5, HO_7, HB⟩ := hcut
   cases kq with
   | zero => exact absurd HA.out (by simp [siglumlaw08_DistPaths.j0])
   | succ kj6 =>
    have H := HA.out
    clear HA
    simp only [siglumlaw08_DistPaths.j0] at H
    by_cases c14 : x33_6 = true
    ·
     subst c14
     have H1 : (some false) = some r := by rw [if_pos rfl] at H; exact H
     clear H
     have H := H1
     clear H1
     obtain rfl := Option.some.inj H
     go_wp2
     repeat (go_quiet (fail); try go_wp2)
     go_ret
     exact ⟨by first | rfl | (simp [errW_none, errW_some] <;> rfl) | (simp [*, errW_none, errW_some] <;> rfl), by repeat (first | (with_reducible first | exact HB.out | apply below_alloc | apply pw_below_drewN | apply below_drew1) | exact HB.out)⟩
    ·
     replace c14 := Bool.eq_false_iff.mpr c14
     subst c14
     have H1 : (siglumlaw08_DistPaths.l0 kj6 t268 t272 (t268.length : Int) 0) = some r := by rw [if_neg (show ¬ (false = true) by decide)] at H; exact H
     clear H
     have H := H1
     clear H1
     have H' := Aside0.mk H
     clear H
     obtain ⟨Ao15, co15, eo15⟩ := Kd.R_slice HO_5.out
     subst eo15
     go_wp2
     repeat (go_quiet (fail); try go_wp2)
     go_loopg [36] kj6 (fun kq v36 w' => ∃ (x36_2 : Int), v36 = .int .i64 x36_2 ∧ Aside0 (siglumlaw08_DistPaths.l0 kq t268 t272 (t268.length : Int) x36_2 = some r) ∧ Aside0 (kq ≤ kj6) ∧ Aside0 (Kd.R k30 30 w' w.heap.size (fun k_ => some k_ ≠ (v274 : Value).ownBlock) (.slice Ao15 t268.length co15) t268) ∧ Aside0 (Kd.R k30 30 w' w.heap.size (fun k_ => some k_ ≠ ((.slice Ao15 t268.length co15) : Value).ownBlock) v274 t272) ∧ Aside0 (Below w.heap.size w w'))
     case atStart => exact ⟨(0), (by first | rfl | (simp; done) | (simp [*]; done)), H', ⟨Nat.le_refl _⟩, ⟨by (with_reducible repeat (first | apply Kd.R_alloc | apply Kd.R_drewN | apply Kd.R_drew)); exact HO_5.out⟩, ⟨by (with_reducible repeat (first | apply Kd.R_alloc | apply Kd.R_drewN | apply Kd.R_drew)); exact HO_7.out⟩, ⟨by repeat (first | (with_reducible first | exact HB.out | apply below_alloc | apply pw_below_drewN | apply below_drew1) | exact HB.out)⟩⟩
     case round =>
      clear H'
      (try clear c1); (try clear p2); (try clear c3); (try clear c4); (try clear c11); (try clear c11b0); (try clear c11b1); (try clear c14)
      obtain ⟨x36_2, rfl, HA, HK2, HO_5, HO_7, HB⟩ := hrel
      cases gk with
      | zero => exact absurd HA.out (by simp [siglumlaw08_DistPaths.l0])
      | succ k2 =>
       have H := HA.out
       clear HA
       simp only [siglumlaw08_DistPaths.l0] at H
       by_cases c16 : x36_2 < (t268.length : Int)
       ·
        rw [if_pos c16] at H
        have c16b0 : decide (x36_2 < (t268.length : Int)) = true := decide_eq_true c16
        clear c16
        by_cases c17 : 0 ≤ x36_2
        rotate_left
        · rw [if_neg c17] at H; exact absurd H (by simp)
        rw [if_pos c17] at H
        have c17b0 : decide (0 ≤ x36_2) = true := decide_eq_true c17
        clear c17
        by_cases c18 : x36_2 < (t268.length : Int)
        rotate_left
        · rw [if_neg c18] at H; exact absurd H (by simp)
        rw [if_pos c18] at H
        have c18b0 : decide (x36_2 < (t268.length : Int)) = true := decide_eq_true c18
        clear c18
        by_cases c19 : x36_2 < (t272.length : Int)
        rotate_left
        · rw [if_neg c19] at H; exact absurd H (by simp)
        rw [if_pos c19] at H
        have c19b0 : decide (x36_2 < (t272.length : Int)) = true := decide_eq_true c19
        clear c19
        by_cases c20 : (!(((rd_T30 t268 x36_2).f0) == ((rd_T30 t272 x36_2).f0)) || (!((((rd_T30 t268 x36_2).f1).toList) == (((rd_T30 t272 x36_2).f1).toList)))) = true
        ·
         rw [if_pos c20] at H
         have c20b0 : (!(((rd_T30 t268 x36_2).f0) == ((rd_T30 t272 x36_2).f0)) || (!((((rd_T30 t268 x36_2).f1).toList) == (((rd_T30 t272 x36_2).f1).toList)))) = true := c20
         clear c20
         obtain rfl := Option.some.inj H
         have p276 : 0 ≤ (x36_2 : Int) := of_decide_eq_true (by assumption)
         have q276 : x36_2 < (t268.length : Int) := of_decide_eq_true (by assumption)
         obtain ⟨ad276, e276, hx276_0, hx276_1⟩ := at_T30 (Kd.R_reads' HO_5.out).2.2 x36_2 p276 q276
         cases e276
         replace p276 := eq_true p276
         replace q276 := eq_true q276
         obtain ⟨Ao21, co21, eo21⟩ := Kd.R_slice HO_7.out
         subst eo21
         have p277 : 0 ≤ (x36_2 : Int) := of_decide_eq_true (by assumption)
         have q277 : x36_2 < (t272.length : Int) := of_decide_eq_true (by assumption)
         obtain ⟨ad277, e277, hx277_0, hx277_1⟩ := at_T30 (Kd.R_reads' HO_7.out).2.2 x36_2 p277 q277
         cases e277
         replace p277 := eq_true p277
         replace q277 := eq_true q277
         go_wp2
         repeat (go_quiet (fail); try go_wp2)
         go_ret
         exact ⟨by first | rfl | (simp [errW_none, errW_some] <;> rfl) | (simp [*, errW_none, errW_some] <;> rfl), by repeat (first | (with_reducible first | exact HB.out | apply below_alloc | apply pw_below_drewN | apply below_drew1) | exact HB.out)⟩
        ·
         rw [if_neg c20] at H
         have c20b0 : (!(((rd_T30 t268 x36_2).f0) == ((rd_T30 t272 x36_2).f0)) || (!((((rd_T30 t268 x36_2).f1).toList) == (((rd_T30 t272 x36_2).f1).toList)))) = false := by simpa using c20
         clear c20
         have H' := Aside0.mk H
         clear H
         have p276 : 0 ≤ (x36_2 : Int) := of_decide_eq_true (by assumption)
         have q276 : x36_2 < (t268.length : Int) := of_decide_eq_true (by assumption)
         obtain ⟨ad276, e276, hx276_0, hx276_1⟩ := at_T30 (Kd.R_reads' HO_5.out).2.2 x36_2 p276 q276
         cases e276
         replace p276 := eq_true p276
         replace q276 := eq_true q276
         obtain ⟨Ao22, co22, eo22⟩ := Kd.R_slice HO_7.out
         subst eo22
         have p277 : 0 ≤ (x36_2 : Int) := of_decide_eq_true (by assumption)
         have q277 : x36_2 < (t272.length : Int) := of_decide_eq_true (by assumption)
         obtain ⟨ad277, e277, hx277_0, hx277_1⟩ := at_T30 (Kd.R_reads' HO_7.out).2.2 x36_2 p277 q277
         cases e277
         replace p277 := eq_true p277
         replace q277 := eq_true q277
         go_wp2
         repeat (go_quiet (fail); try go_wp2)
         go_roundg k2
         case measure => have := HJ6.out; have := HK2.out; omega
         case rel => exact ⟨(wrap64 (x36_2 + 1)), (by first | rfl | (simp; done) | (simp [*]; done)), H', ⟨by have := HJ6.out; have := HK2.out; omega⟩, ⟨by (with_reducible repeat (first | apply Kd.R_alloc | apply Kd.R_drewN | apply Kd.R_drew)); exact HO_5.out⟩, ⟨by (with_reducible repeat (first | apply Kd.R_alloc | apply Kd.R_drewN | apply Kd.R_drew)); exact HO_7.out⟩, ⟨by repeat (first | (with_reducible first | exact HB.out | apply below_alloc | apply pw_below_drewN | apply below_drew1) | exact HB.out)⟩⟩
       ·
        rw [if_neg c16] at H
        have c16b0 : decide (x36_2 < (t268.length : Int)) = false := decide_eq_false c16
        clear c16
        obtain rfl := Option.some.inj H
        go_wp2
        repeat (go_quiet (fail); try go_wp2)
        go_ret
        exact ⟨by first | rfl | (simp [errW_none, errW_some] <;> rfl) | (simp [*, errW_none, errW_some] <;> rfl), by repeat (first | (with_reducible first | exact HB.out | apply below_alloc | apply pw_below_drewN | apply below_drew1) | exact HB.out)⟩
 ·
  replace c4 := Bool.eq_false_iff.mpr c4
  subst c4
  have H1 : (some false) = some r := by rw [if_neg (show ¬ (false = true) by decide)] at H; exact H
  clear H
  have H := H1
  clear H1
  obtain rfl := Option.some.inj H
  go_enter Tryd.func3, Tryd.ntmps3
  go_wp2_with (first | (go_at_call 15; (with_reducible refine (siglumlaw08_awake.calls k  false _ ?side1 A3.out).mono ?_); (case side1 => exact Utf.tabs_step HT.out (by repeat (first | (with_reducible first | exact HB.out | apply below_alloc | apply pw_below_drewN | apply below_drew1) | exact HB.out))); rintro e w23 ⟨rfl, hb⟩; have n0_ := Aside0.mk (below_step (by repeat (first | (with_reducible first | exact HB.out | apply below_alloc | apply pw_below_drewN | apply below_drew1) | exact HB.out)) hb); clear HB; have HB := n0_; clear n0_; (try clear hb); (try clear hb2); (try clear hk); (try clear hi)))
  repeat (go_quiet (first | (go_at_call 15; (with_reducible refine (siglumlaw08_awake.calls k  false _ ?side1 A3.out).mono ?_); (case side1 => exact Utf.tabs_step HT.out (by repeat (first | (with_reducible first | exact HB.out | apply below_alloc | apply pw_below_drewN | apply below_drew1) | exact HB.out))); rintro e w23 ⟨rfl, hb⟩; have n0_ := Aside0.mk (below_step (by repeat (first | (with_reducible first | exact HB.out | apply below_alloc | apply pw_below_drewN | apply below_drew1) | exact HB.out)) hb); clear HB; have HB := n0_; clear n0_; (try clear hb); (try clear hb2); (try clear hk); (try clear hi))); try go_wp2_with (first | (go_at_call 15; (with_reducible refine (siglumlaw08_awake.calls k  false _ ?side1 A3.out).mono ?_); (case side1 => exact Utf.tabs_step HT.out (by repeat (first | (with_reducible first | exact HB.out | apply below_alloc | apply pw_below_drewN | apply below_drew1) | exact HB.out))); rintro e w23 ⟨rfl, hb⟩; have n0_ := Aside0.mk (below_step (by repeat (first | (with_reducible first | exact HB.out | apply below_alloc | apply pw_below_drewN | apply below_drew1) | exact HB.out)) hb); clear HB; have HB := n0_; clear n0_; (try clear hb); (try clear hb2); (try clear hk); (try clear hi))))
  go_ret
  exact ⟨by first | rfl | (simp [errW_none, errW_some] <;> rfl) | (simp [*, errW_none, errW_some] <;> rfl), by repeat (first | (with_reducible first | exact HB.out | apply below_alloc | apply pw_below_drewN | apply below_drew1) | exact HB.out)⟩

end Go.Proofs.YtalogampkkjcdaaDoor.P
