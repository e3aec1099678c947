import Derived.Test.YtcpbalnbgmjhjaaDoorV63
import Derived.Test.YtcpbalnbgmjhjaaDoorV65
import Derived.Test.YtcpbalnbgmjhjaaDoorV612
namespace Go.Proofs.YtcpbalnbgmjhjaaDoor.Q
open Go.RowKit Go.Proofs.YtcpbalnbgmjhjaaDoor.Mi Go.Proofs.YtcpbalnbgmjhjaaDoorW.PrintWords Go.Proofs.YtcpbalnbgmjhjaaDoorW.PrintLast Go.Proofs.YtcpbalnbgmjhjaaDoorW.PrintMore
attribute [local go_sem] min2_int min_two min_three
set_option linter.unusedVariables false
set_option linter.unusedSimpArgs false
def siglumref02_holds.l0 : Nat → List Int → Int → Int → Option (Bool)
 | 0, _, _, _ => none
 | k + 1, x0, x1, x5 => if (wrap64 (x5 + 1)) < (x0.length : Int) then (if 0 ≤ x5 then (if x5 < (x0.length : Int) then (if x1 ≥ (rd x0 x5) then (if 0 ≤ (wrap64 (x5 + 1)) then (if x1 ≤ (rd x0 (wrap64 (x5 + 1))) then (some true) else (siglumref02_holds.l0 k x0 x1 (wrap64 (x5 + 2)))) else (none)) else (siglumref02_holds.l0 k x0 x1 (wrap64 (x5 + 2)))) else (none)) else (none)) else (some false)
def siglumref02_holds.f (k : Nat) (l0 : List Int) (a1 : Int) : Option (Bool) := siglumref02_holds.l0 k l0 a1 0
set_option maxHeartbeats 8000000 in
set_option maxRecDepth 100000 in
theorem siglumref02_holds.calls (k : Nat) (A0 : Option Addr) (c0 : Nat) (l0 : List Int) (a1 : Int) (r : Bool) (w : World) (hr0 : Kd.C (Kd.int .i32) w A0 l0.length l0) (hc0 : l0.length ≤ c0) (h : siglumref02_holds.f k l0 a1 = some r) :
 Calls Tryd.prog 93 #[.slice A0 l0.length c0, .int .i32 a1] w fun e w' => e = .returned (.bool r) ∧ Drawn0 w w' := by
 have HR0 := Aside0.mk hr0; have HC0 := Aside0.mk hc0; clear hr0 hc0; have H := h; clear h; unfold siglumref02_holds.f at H; have H' := Aside0.mk H; clear H; go_enter Tryd.func93, Tryd.ntmps93; go_wp2
 go_loopg [5] k (fun kq v5 w' => ∃ (x5_1 : Int), v5 = .int .i64 x5_1 ∧ Aside0 (siglumref02_holds.l0 kq l0 a1 x5_1 = some r) ∧ Aside0 (kq ≤ k) ∧ Drawn0 w w')
 case atStart => exact ⟨(0), si, H', ⟨Nat.le_refl _⟩, dr⟩
 case round =>
  clear H'; (try clear p2); obtain ⟨x5_1, rfl, HA, HK1, ⟨m1, rfl⟩⟩ := hrel
  cases gk with
  | zero => exact absurd HA.out (by simp [siglumref02_holds.l0])
  | succ k1 =>
   have H := HA.out; clear HA; simp only [siglumref02_holds.l0] at H
   by_cases c3 : (wrap64 (x5_1 + 1)) < (l0.length : Int)
   ·rw [if_pos c3] at H; have c3b0 := decide_eq_true c3; clear c3; replace H := dt H; obtain ⟨c4b0, H⟩ := H; replace H := dt H; obtain ⟨c5b0, H⟩ := H
    by_cases c6 : a1 ≥ (rd l0 x5_1)
    ·rw [if_pos c6] at H; have c6b0 : decide ((rd l0 x5_1) ≤ a1) = true := decide_eq_true c6; clear c6; obtain ⟨ji7, hji7⟩ : ∃ j_ : Int, (wrap64 (x5_1 + 1)) = j_ := ⟨_, rfl⟩
     (first | rw [hji7] at H | simp only [hji7] at H); (try rw [hji7] at c3b0); have hji7w : (IntKind.i64.wrap (x5_1 + 1)) = ji7 := (i64_w _).trans hji7; replace H := dt H; obtain ⟨c8b0, H⟩ := H
     by_cases c9 : a1 ≤ (rd l0 (ji7))
     ·rw [if_pos c9] at H; have c9b0 := decide_eq_true c9; clear c9; obtain rfl := Option.some.inj H; have pU1 : 0 ≤ (x5_1 : Int) := oda; have qU1 : x5_1 < (l0.length : Int) := oda; obtain ⟨adU1, eU1, hxU1_0⟩ := Kd.at_int HR0.out x5_1 pU1 qU1; cases eU1; replace pU1 := eq_true pU1; replace qU1 := eq_true qU1; have pU2 : 0 ≤ ((ji7) : Int) := oda; have qU2 : (ji7) < (l0.length : Int) := oda; obtain ⟨adU2, eU2, hxU2_0⟩ := Kd.at_int HR0.out (ji7) pU2 qU2; obtain rfl : adU1 = adU2 := (by injection eU2); replace pU2 := eq_true pU2; replace qU2 := eq_true qU2; go_wp2; go_ret; exact ⟨by first | rfl | (simp; done) | (simp only [← hji7] <;> (first | rfl | simp)) | (simp [*]; done), dr⟩
     ·rw [if_neg c9] at H; have c9b0 : decide (a1 ≤ (rd l0 (ji7))) = false := decide_eq_false c9; clear c9; have H' := Aside0.mk H; clear H; have pU1 : 0 ≤ (x5_1 : Int) := oda; have qU1 : x5_1 < (l0.length : Int) := oda; obtain ⟨adU1, eU1, hxU1_0⟩ := Kd.at_int HR0.out x5_1 pU1 qU1; cases eU1; replace pU1 := eq_true pU1; replace qU1 := eq_true qU1; have pU2 : 0 ≤ ((ji7) : Int) := oda; have qU2 : (ji7) < (l0.length : Int) := oda; obtain ⟨adU2, eU2, hxU2_0⟩ := Kd.at_int HR0.out (ji7) pU2 qU2; obtain rfl : adU1 = adU2 := (by injection eU2); replace pU2 := eq_true pU2; replace qU2 := eq_true qU2; go_wp2
      go_roundg k1
      case measure => have := HK1.out; omega
      case rel => exact ⟨(wrap64 (x5_1 + 2)), si, H', ⟨by have := HK1.out; omega⟩, dr⟩
    ·rw [if_neg c6] at H; have c6b0 : decide ((rd l0 x5_1) ≤ a1) = false := decide_eq_false c6; clear c6; have H' := Aside0.mk H; clear H; have pU1 : 0 ≤ (x5_1 : Int) := oda; have qU1 : x5_1 < (l0.length : Int) := oda; obtain ⟨adU1, eU1, hxU1_0⟩ := Kd.at_int HR0.out x5_1 pU1 qU1; cases eU1; replace pU1 := eq_true pU1; replace qU1 := eq_true qU1; go_wp2
     go_roundg k1
     case measure => have := HK1.out; omega
     case rel => exact ⟨(wrap64 (x5_1 + 2)), si, H', ⟨by have := HK1.out; omega⟩, dr⟩
   ·rw [if_neg c3] at H; have c3b0 : decide ((wrap64 (x5_1 + 1)) < (l0.length : Int)) = false := decide_eq_false c3; clear c3; obtain rfl := Option.some.inj H; go_wp2; go_ret; exact ⟨si, dr⟩
def siglumref02_Of.f (k : Nat) (a0 : Int) : Option (Int) := ((siglumref02_holds.f k ([39, 39, 45, 45, 173, 173, 8204, 8205, 8217, 8217] : List Int) a0).bind fun t => (if t = true then (some 4) else ((siglumref02_holds.f k ([48, 57, 1632, 1641] : List Int) a0).bind fun t => (if t = true then (some 3) else ((siglumref02_holds.f k ([65, 90, 97, 122, 170, 170, 181, 181, 186, 186, 192, 214, 216, 246, 248, 687, 880, 893, 895, 902, 904, 1153, 1162, 1327, 7680, 8191, 64256, 64262, 9676, 9676] : List Int) a0).bind fun t => (if t = true then (some 1) else ((siglumref02_holds.f k ([768, 879, 1155, 1161, 7616, 7679, 8400, 8447] : List Int) a0).bind fun t => (if t = true then (some 2) else ((siglumref02_holds.f k ([10, 10, 13, 13, 133, 133, 8232, 8233] : List Int) a0).bind fun t => (if t = true then (some 6) else ((siglumref02_holds.f k ([9, 9, 11, 12, 32, 32, 160, 160, 8194, 8202, 8239, 8239, 12288, 12288] : List Int) a0).bind fun t => (if t = true then (some 5) else ((siglumref02_holds.f k ([33, 126, 161, 191, 903, 903, 8208, 8231, 8240, 8286] : List Int) a0).bind fun t => (if t = true then (some 7) else (some 0)))))))))))))))
theorem reps_i32 (W : World) (base : Nat) (ok : Nat → Prop) : ∀ xs : List Int, Reps (Kd.M (Kd.int .i32) W base ok) 1 xs (xs.map fun x => Value.int .i32 x)
 | [] => Reps.none _ _
 | x :: xs => Reps.one (show Kd.M (Kd.int .i32) _ _ _ x [.int .i32 x] from rfl) (reps_i32 W base ok xs)
set_option maxHeartbeats 8000000 in
set_option maxRecDepth 100000 in
theorem siglumref02_Of.calls (k : Nat) (a0 : Int) (r : Int) (w : World) (h : siglumref02_Of.f k a0 = some r) :
 Calls Tryd.prog 86 #[.int .i32 a0] w fun e w' => e = .returned (.int .i64 r) ∧ Below w.heap.size w w' := by
 unfold siglumref02_Of.f at h; have HH := Aside0.mk h; clear h; have HB := Aside0.mk (Below.refl w.heap.size w); go_enter Tryd.func86, Tryd.ntmps86; go_wp2_with (first | ((with_reducible refine gd 3 ?_); refine Kd.R_lit (Kd.int .i32) _ 21 ?hg (N := 3) ?hd (xs := ([39, 39, 45, 45, 173, 173, 8204, 8205, 8217, 8217] : List Int)) (inner := [.int .i32 39, .int .i32 39, .int .i32 45, .int .i32 45, .int .i32 173, .int .i32 173, .int .i32 8204, .int .i32 8205, .int .i32 8217, .int .i32 8217]) (ok := fun _ => True) (okp := fun _ => True) ?hr ?hp (fun _ hk => hk) trivial (Below.refl _ _) (Nat.le_refl _) (by simp) ?_; (case hd => rfl); (case hg => rfl); (case hr => first | (go_simp; done) | (go_simp; rfl)); (case hp => exact reps_i32 _ _ _ [39, 39, 45, 45, 173, 173, 8204, 8205, 8217, 8217]); intro v w4 ho hb hg_ hnew_; clear hg_ hnew_; obtain ⟨y, hy, hY⟩ : ∃ y : List Int, [39, 39, 45, 45, 173, 173, 8204, 8205, 8217, 8217] = y ∧ (siglumref02_holds.f k y a0).bind _ = some r := ⟨_, rfl, HH.out⟩; rw [hy] at ho; clear HH hy; obtain ⟨A, c, rfl, hc, hC⟩ := Kd.R_reads ho; have HC := Aside0.mk hC; have Hc := Aside0.mk hc; have HH := Aside0.mk hY; have HBn := Aside0.mk (below_step HB.out hb); clear HB; have HB := HBn; clear HBn ho hb hC hc hY) | (go_at_call 93; refine Aside0.out ?_)); refine ⟨?_⟩; obtain ⟨t, ht, h2⟩ := Option.bind_eq_some_iff.mp HH.out
 (with_reducible refine (siglumref02_holds.calls k A c y a0 t _ HC.out Hc.out ht).mono ?_)
 rintro e w' ⟨rfl, hd⟩; have HBn := Aside0.mk (below_step HB.out hd.below); clear HB; have HB := HBn; clear HBn HH HC Hc hd ht; cases t
 rotate_left
 ·rw [if_pos rfl] at h2; obtain rfl := Option.some.inj h2; clear h2; go_wp2; go_ret; exact ⟨rfl, HB.out⟩
 rw [if_neg (by decide)] at h2; have HH := Aside0.mk h2; clear h2; go_wp2_with (first | ((with_reducible refine gd 6 ?_); refine Kd.R_lit (Kd.int .i32) _ 21 ?hg (N := 6) ?hd (xs := ([48, 57, 1632, 1641] : List Int)) (inner := [.int .i32 48, .int .i32 57, .int .i32 1632, .int .i32 1641]) (ok := fun _ => True) (okp := fun _ => True) ?hr ?hp (fun _ hk => hk) trivial (Below.refl _ _) (Nat.le_refl _) (by simp) ?_; (case hd => rfl); (case hg => rfl); (case hr => first | (go_simp; done) | (go_simp; rfl)); (case hp => exact reps_i32 _ _ _ [48, 57, 1632, 1641]); intro v w4 ho hb hg_ hnew_; clear hg_ hnew_; obtain ⟨y, hy, hY⟩ : ∃ y : List Int, [48, 57, 1632, 1641] = y ∧ (siglumref02_holds.f k y a0).bind _ = some r := ⟨_, rfl, HH.out⟩; rw [hy] at ho; clear HH hy; obtain ⟨A, c, rfl, hc, hC⟩ := Kd.R_reads ho; have HC := Aside0.mk hC; have Hc := Aside0.mk hc; have HH := Aside0.mk hY; have HBn := Aside0.mk (below_step HB.out hb); clear HB; have HB := HBn; clear HBn ho hb hC hc hY) | (go_at_call 93; refine Aside0.out ?_)); refine ⟨?_⟩; obtain ⟨t, ht, h2⟩ := Option.bind_eq_some_iff.mp HH.out
 (with_reducible refine (siglumref02_holds.calls k A c y a0 t _ HC.out Hc.out ht).mono ?_)
 rintro e w' ⟨rfl, hd⟩; have HBn := Aside0.mk (below_step HB.out hd.below); clear HB; have HB := HBn; clear HBn HH HC Hc hd ht; cases t
 rotate_left
 ·rw [if_pos rfl] at h2; obtain rfl := Option.some.inj h2; clear h2; go_wp2; go_ret; exact ⟨rfl, HB.out⟩
 rw [if_neg (by decide)] at h2; have HH := Aside0.mk h2; clear h2; go_wp2_with (first | ((with_reducible refine gd 9 ?_); refine Kd.R_lit (Kd.int .i32) _ 21 ?hg (N := 9) ?hd (xs := ([65, 90, 97, 122, 170, 170, 181, 181, 186, 186, 192, 214, 216, 246, 248, 687, 880, 893, 895, 902, 904, 1153, 1162, 1327, 7680, 8191, 64256, 64262, 9676, 9676] : List Int)) (inner := [.int .i32 65, .int .i32 90, .int .i32 97, .int .i32 122, .int .i32 170, .int .i32 170, .int .i32 181, .int .i32 181, .int .i32 186, .int .i32 186, .int .i32 192, .int .i32 214, .int .i32 216, .int .i32 246, .int .i32 248, .int .i32 687, .int .i32 880, .int .i32 893, .int .i32 895, .int .i32 902, .int .i32 904, .int .i32 1153, .int .i32 1162, .int .i32 1327, .int .i32 7680, .int .i32 8191, .int .i32 64256, .int .i32 64262, .int .i32 9676, .int .i32 9676]) (ok := fun _ => True) (okp := fun _ => True) ?hr ?hp (fun _ hk => hk) trivial (Below.refl _ _) (Nat.le_refl _) (by simp) ?_; (case hd => rfl); (case hg => rfl); (case hr => first | (go_simp; done) | (go_simp; rfl)); (case hp => exact reps_i32 _ _ _ [65, 90, 97, 122, 170, 170, 181, 181, 186, 186, 192, 214, 216, 246, 248, 687, 880, 893, 895, 902, 904, 1153, 1162, 1327, 7680, 8191, 64256, 64262, 9676, 9676]); intro v w4 ho hb hg_ hnew_; clear hg_ hnew_; obtain ⟨y, hy, hY⟩ : ∃ y : List Int, [65, 90, 97, 122, 170, 170, 181, 181, 186, 186, 192, 214, 216, 246, 248, 687, 880, 893, 895, 902, 904, 1153, 1162, 1327, 7680, 8191, 64256, 64262, 9676, 9676] = y ∧ (siglumref02_holds.f k y a0).bind _ = some r := ⟨_, rfl, HH.out⟩; rw [hy] at ho; clear HH hy; obtain ⟨A, c, rfl, hc, hC⟩ := Kd.R_reads ho; have HC := Aside0.mk hC; have Hc := Aside0.mk hc; have HH := Aside0.mk hY; have HBn := Aside0.mk (below_step HB.out hb); clear HB; have HB := HBn; clear HBn ho hb hC hc hY) | (go_at_call 93; refine Aside0.out ?_)); refine ⟨?_⟩; obtain ⟨t, ht, h2⟩ := Option.bind_eq_some_iff.mp HH.out
 (with_reducible refine (siglumref02_holds.calls k A c y a0 t _ HC.out Hc.out ht).mono ?_)
 rintro e w' ⟨rfl, hd⟩; have HBn := Aside0.mk (below_step HB.out hd.below); clear HB; have HB := HBn; clear HBn HH HC Hc hd ht; cases t
 rotate_left
 ·rw [if_pos rfl] at h2; obtain rfl := Option.some.inj h2; clear h2; go_wp2; go_ret; exact ⟨rfl, HB.out⟩
 rw [if_neg (by decide)] at h2; have HH := Aside0.mk h2; clear h2; go_wp2_with (first | ((with_reducible refine gd 12 ?_); refine Kd.R_lit (Kd.int .i32) _ 21 ?hg (N := 12) ?hd (xs := ([768, 879, 1155, 1161, 7616, 7679, 8400, 8447] : List Int)) (inner := [.int .i32 768, .int .i32 879, .int .i32 1155, .int .i32 1161, .int .i32 7616, .int .i32 7679, .int .i32 8400, .int .i32 8447]) (ok := fun _ => True) (okp := fun _ => True) ?hr ?hp (fun _ hk => hk) trivial (Below.refl _ _) (Nat.le_refl _) (by simp) ?_; (case hd => rfl); (case hg => rfl); (case hr => first | (go_simp; done) | (go_simp; rfl)); (case hp => exact reps_i32 _ _ _ [768, 879, 1155, 1161, 7616, 7679, 8400, 8447]); intro v w4 ho hb hg_ hnew_; clear hg_ hnew_; obtain ⟨y, hy, hY⟩ : ∃ y : List Int, [768, 879, 1155, 1161, 7616, 7679, 8400, 8447] = y ∧ (siglumref02_holds.f k y a0).bind _ = some r := ⟨_, rfl, HH.out⟩; rw [hy] at ho; clear HH hy; obtain ⟨A, c, rfl, hc, hC⟩ := Kd.R_reads ho; have HC := Aside0.mk hC; have Hc := Aside0.mk hc; have HH := Aside0.mk hY; have HBn := Aside0.mk (below_step HB.out hb); clear HB; have HB := HBn; clear HBn ho hb hC hc hY) | (go_at_call 93; refine Aside0.out ?_)); refine ⟨?_⟩; obtain ⟨t, ht, h2⟩ := Option.bind_eq_some_iff.mp HH.out
 (with_reducible refine (siglumref02_holds.calls k A c y a0 t _ HC.out Hc.out ht).mono ?_)
 rintro e w' ⟨rfl, hd⟩; have HBn := Aside0.mk (below_step HB.out hd.below); clear HB; have HB := HBn; clear HBn HH HC Hc hd ht; cases t
 rotate_left
 ·rw [if_pos rfl] at h2; obtain rfl := Option.some.inj h2; clear h2; go_wp2; go_ret; exact ⟨rfl, HB.out⟩
 rw [if_neg (by decide)] at h2; have HH := Aside0.mk h2; clear h2; go_wp2_with (first | ((with_reducible refine gd 15 ?_); refine Kd.R_lit (Kd.int .i32) _ 21 ?hg (N := 15) ?hd (xs := ([10, 10, 13, 13, 133, 133, 8232, 8233] : List Int)) (inner := [.int .i32 10, .int .i32 10, .int .i32 13, .int .i32 13, .int .i32 133, .int .i32 133, .int .i32 8232, .int .i32 8233]) (ok := fun _ => True) (okp := fun _ => True) ?hr ?hp (fun _ hk => hk) trivial (Below.refl _ _) (Nat.le_refl _) (by simp) ?_; (case hd => rfl); (case hg => rfl); (case hr => first | (go_simp; done) | (go_simp; rfl)); (case hp => exact reps_i32 _ _ _ [10, 10, 13, 13, 133, 133, 8232, 8233]); intro v w4 ho hb hg_ hnew_; clear hg_ hnew_; obtain ⟨y, hy, hY⟩ : ∃ y : List Int, [10, 10, 13, 13, 133, 133, 8232, 8233] = y ∧ (siglumref02_holds.f k y a0).bind _ = some r := ⟨_, rfl, HH.out⟩; rw [hy] at ho; clear HH hy; obtain ⟨A, c, rfl, hc, hC⟩ := Kd.R_reads ho; have HC := Aside0.mk hC; have Hc := Aside0.mk hc; have HH := Aside0.mk hY; have HBn := Aside0.mk (below_step HB.out hb); clear HB; have HB := HBn; clear HBn ho hb hC hc hY) | (go_at_call 93; refine Aside0.out ?_)); refine ⟨?_⟩; obtain ⟨t, ht, h2⟩ := Option.bind_eq_some_iff.mp HH.out
 (with_reducible refine (siglumref02_holds.calls k A c y a0 t _ HC.out Hc.out ht).mono ?_)
 rintro e w' ⟨rfl, hd⟩; have HBn := Aside0.mk (below_step HB.out hd.below); clear HB; have HB := HBn; clear HBn HH HC Hc hd ht; cases t
 rotate_left
 ·rw [if_pos rfl] at h2; obtain rfl := Option.some.inj h2; clear h2; go_wp2; go_ret; exact ⟨rfl, HB.out⟩
 rw [if_neg (by decide)] at h2; have HH := Aside0.mk h2; clear h2; go_wp2_with (first | ((with_reducible refine gd 18 ?_); refine Kd.R_lit (Kd.int .i32) _ 21 ?hg (N := 18) ?hd (xs := ([9, 9, 11, 12, 32, 32, 160, 160, 8194, 8202, 8239, 8239, 12288, 12288] : List Int)) (inner := [.int .i32 9, .int .i32 9, .int .i32 11, .int .i32 12, .int .i32 32, .int .i32 32, .int .i32 160, .int .i32 160, .int .i32 8194, .int .i32 8202, .int .i32 8239, .int .i32 8239, .int .i32 12288, .int .i32 12288]) (ok := fun _ => True) (okp := fun _ => True) ?hr ?hp (fun _ hk => hk) trivial (Below.refl _ _) (Nat.le_refl _) (by simp) ?_; (case hd => rfl); (case hg => rfl); (case hr => first | (go_simp; done) | (go_simp; rfl)); (case hp => exact reps_i32 _ _ _ [9, 9, 11, 12, 32, 32, 160, 160, 8194, 8202, 8239, 8239, 12288, 12288]); intro v w4 ho hb hg_ hnew_; clear hg_ hnew_; obtain ⟨y, hy, hY⟩ : ∃ y : List Int, [9, 9, 11, 12, 32, 32, 160, 160, 8194, 8202, 8239, 8239, 12288, 12288] = y ∧ (siglumref02_holds.f k y a0).bind _ = some r := ⟨_, rfl, HH.out⟩; rw [hy] at ho; clear HH hy; obtain ⟨A, c, rfl, hc, hC⟩ := Kd.R_reads ho; have HC := Aside0.mk hC; have Hc := Aside0.mk hc; have HH := Aside0.mk hY; have HBn := Aside0.mk (below_step HB.out hb); clear HB; have HB := HBn; clear HBn ho hb hC hc hY) | (go_at_call 93; refine Aside0.out ?_)); refine ⟨?_⟩; obtain ⟨t, ht, h2⟩ := Option.bind_eq_some_iff.mp HH.out
 (with_reducible refine (siglumref02_holds.calls k A c y a0 t _ HC.out Hc.out ht).mono ?_)
 rintro e w' ⟨rfl, hd⟩; have HBn := Aside0.mk (below_step HB.out hd.below); clear HB; have HB := HBn; clear HBn HH HC Hc hd ht; cases t
 rotate_left
 ·rw [if_pos rfl] at h2; obtain rfl := Option.some.inj h2; clear h2; go_wp2; go_ret; exact ⟨rfl, HB.out⟩
 rw [if_neg (by decide)] at h2; have HH := Aside0.mk h2; clear h2; go_wp2_with (first | ((with_reducible refine gd 21 ?_); refine Kd.R_lit (Kd.int .i32) _ 21 ?hg (N := 21) ?hd (xs := ([33, 126, 161, 191, 903, 903, 8208, 8231, 8240, 8286] : List Int)) (inner := [.int .i32 33, .int .i32 126, .int .i32 161, .int .i32 191, .int .i32 903, .int .i32 903, .int .i32 8208, .int .i32 8231, .int .i32 8240, .int .i32 8286]) (ok := fun _ => True) (okp := fun _ => True) ?hr ?hp (fun _ hk => hk) trivial (Below.refl _ _) (Nat.le_refl _) (by simp) ?_; (case hd => rfl); (case hg => rfl); (case hr => first | (go_simp; done) | (go_simp; rfl)); (case hp => exact reps_i32 _ _ _ [33, 126, 161, 191, 903, 903, 8208, 8231, 8240, 8286]); intro v w4 ho hb hg_ hnew_; clear hg_ hnew_; obtain ⟨y, hy, hY⟩ : ∃ y : List Int, [33, 126, 161, 191, 903, 903, 8208, 8231, 8240, 8286] = y ∧ (siglumref02_holds.f k y a0).bind _ = some r := ⟨_, rfl, HH.out⟩; rw [hy] at ho; clear HH hy; obtain ⟨A, c, rfl, hc, hC⟩ := Kd.R_reads ho; have HC := Aside0.mk hC; have Hc := Aside0.mk hc; have HH := Aside0.mk hY; have HBn := Aside0.mk (below_step HB.out hb); clear HB; have HB := HBn; clear HBn ho hb hC hc hY) | (go_at_call 93; refine Aside0.out ?_)); refine ⟨?_⟩; obtain ⟨t, ht, h2⟩ := Option.bind_eq_some_iff.mp HH.out
 (with_reducible refine (siglumref02_holds.calls k A c y a0 t _ HC.out Hc.out ht).mono ?_)
 rintro e w' ⟨rfl, hd⟩; have HBn := Aside0.mk (below_step HB.out hd.below); clear HB; have HB := HBn; clear HBn HH HC Hc hd ht; cases t
 rotate_left
 ·rw [if_pos rfl] at h2; obtain rfl := Option.some.inj h2; clear h2; go_wp2; go_ret; exact ⟨rfl, HB.out⟩
 rw [if_neg (by decide)] at h2; have HH := Aside0.mk h2; clear h2; go_wp2; go_ret; exact ⟨by rw [← Option.some.inj HH.out]; rfl, HB.out⟩
def siglumref03_drop.l0 : Nat → List Int → Int → List Int → Int → Option (List Int)
 | 0, _, _, _, _ => none
 | k + 1, x0, x1, x5, x6 => if x6 < (x0.length : Int) then (if 0 ≤ x6 then ((siglumref02_Of.f k (rd x0 x6)).bind fun tU2 => (if tU2 = x1 then (siglumref03_drop.l0 k x0 x1 x5 (wrap64 (x6 + 1))) else (if x5.length < 35184372088832 then (siglumref03_drop.l0 k x0 x1 (x5 ++ [rd x0 x6]) (wrap64 (x6 + 1))) else (none)))) else (none)) else (some x5)
def siglumref03_drop.f (k : Nat) (l0 : List Int) (a1 : Int) : Option (List Int) := siglumref03_drop.l0 k l0 a1 ([] : List Int) 0
set_option maxHeartbeats 8000000 in
set_option maxRecDepth 100000 in
theorem siglumref03_drop.calls (k : Nat) (A0 : Option Addr) (c0 : Nat) (l0 : List Int) (a1 : Int) (r : List Int) (w : World) (hr0 : Kd.C (Kd.int .i32) w A0 l0.length l0) (hc0 : l0.length ≤ c0) (h : siglumref03_drop.f k l0 a1 = some r) :
 Calls Tryd.prog 72 #[.slice A0 l0.length c0, .int .i64 a1] w fun e w' => ∃ v0_ : Value, e = .returned (v0_) ∧ Kd.R (Kd.int .i32) 21 w' w.heap.size (fun _ => True) v0_ r ∧ Below w.heap.size w w' := by
 have HR0 := Aside0.mk hr0; have HC0 := Aside0.mk hc0; clear hr0 hc0; have HB := Aside0.mk (Below.refl w.heap.size w); have H := h; clear h; unfold siglumref03_drop.f at H; have H' := Aside0.mk H; clear H; go_enter Tryd.func72, Tryd.ntmps72; go_wp2
 go_loopg [5, 6] k (fun kq v5 v6 w' => ∃ (x5_1 : List Int) (x6_1 : Int), v6 = .int .i64 x6_1 ∧ Aside0 (siglumref03_drop.l0 kq l0 a1 x5_1 x6_1 = some r) ∧ Aside0 (kq ≤ k) ∧ Aside0 (Kd.R (Kd.int .i32) 21 w' w.heap.size (fun _ => True) v5 x5_1) ∧ Aside0 (Below w.heap.size w w'))
 case atStart => exact ⟨(([] : List Int)), (0), si, H', ⟨Nat.le_refl _⟩, ⟨by first | exact Kd.R_nil _ _ _ _ _ | exact Kd.N_nil _ _ _ _ _ | exact Kd.V_nil _ _ _ _ _ | exact Kd.Q_nil _ _ _ _ _ | exact Kd.S_nil _ _ _ _ _⟩, ⟨bel⟩⟩
 case round =>
  clear H'; (try clear p2); obtain ⟨x5_1, x6_1, rfl, HA, HK1, HO_5, HB⟩ := hrel
  cases gk with
  | zero => exact absurd HA.out (by simp [siglumref03_drop.l0])
  | succ k1 =>
   have H := HA.out; clear HA; simp only [siglumref03_drop.l0] at H
   by_cases c3 : x6_1 < (l0.length : Int)
   ·rw [if_pos c3] at H; have c3b0 := decide_eq_true c3; clear c3; replace H := dt H; obtain ⟨c4b0, H⟩ := H; replace H := ob H; obtain ⟨tU2, A5, H⟩ := H; (try dsimp only at H)
    by_cases c6 : tU2 = a1
    ·rw [if_pos c6] at H; have c6b0 := beq_iff_eq.mpr c6; have c6b1 := bne_eq_false_iff_eq.mpr c6; clear c6; have H' := Aside0.mk H; clear H; have pU1 : 0 ≤ (x6_1 : Int) := oda; have qU1 : x6_1 < (l0.length : Int) := oda; obtain ⟨adU1, eU1, hxU1_0⟩ := Kd.at_int HR0.out x6_1 pU1 qU1; cases eU1; replace hxU1_0 := (HB.out.cell (World.block_lt_of_cell? w _ hxU1_0)).trans hxU1_0; replace pU1 := eq_true pU1; replace qU1 := eq_true qU1
     go_wp2_with (first | ((with_reducible refine gc 86 ?_); refine gl 17 Tryd.func86 #[.int .i32 (rd l0 x6_1)] ?_; (with_reducible refine (siglumref02_Of.calls k1 (rd l0 x6_1) tU2 _ A5.out).mono ?_); rintro e w7 ⟨rfl, hb⟩; refine ⟨_, rfl, ?_⟩; replace HO_5 := Aside0.mk (Kd.R_below (rl HO_5) hb); replace HB := bs hb; (try clear hb))); go_roundg k1
     case measure => have := HK1.out; omega
     case rel => exact ⟨(x5_1), (wrap64 (x6_1 + 1)), si, H', ⟨by have := HK1.out; omega⟩, ⟨rl HO_5⟩, ⟨bel⟩⟩
    ·rw [if_neg c6] at H; have c6b0 := beq_eq_false_iff_ne.mpr c6; have c6b1 := bne_iff_ne.mpr c6; replace H := it H; obtain ⟨c8, H⟩ := H; have LMc8 := Aside0.mk c8; clear c8; obtain ⟨yU4, hyU4⟩ : ∃ y_ : List Int, y_ = (x5_1 ++ [rd l0 x6_1]) := ⟨_, rfl⟩
     (try rw [← hyU4] at H); (try rw [Option.bind_some] at H); (try dsimp only at H); have NyU4 := Aside0.mk hyU4; clear hyU4; have H' := Aside0.mk H; clear H; have pU1 : 0 ≤ (x6_1 : Int) := oda; have qU1 : x6_1 < (l0.length : Int) := oda; obtain ⟨adU1, eU1, hxU1_0⟩ := Kd.at_int HR0.out x6_1 pU1 qU1; cases eU1; replace hxU1_0 := (HB.out.cell (World.block_lt_of_cell? w _ hxU1_0)).trans hxU1_0; replace pU1 := eq_true pU1; replace qU1 := eq_true qU1
     go_wp2_with (first | ((with_reducible refine gc 86 ?_); refine gl 17 Tryd.func86 #[.int .i32 (rd l0 x6_1)] ?_; (with_reducible refine (siglumref02_Of.calls k1 (rd l0 x6_1) tU2 _ A5.out).mono ?_); rintro e w9 ⟨rfl, hb⟩; refine ⟨_, rfl, ?_⟩; replace HO_5 := Aside0.mk (Kd.R_below (rl HO_5) hb); replace HB := bs hb; (try clear hb); have pU3 : 0 ≤ (x6_1 : Int) := oda; have qU3 : x6_1 < (l0.length : Int) := oda; obtain ⟨adU3, eU3, hxU3_0⟩ := Kd.at_int HR0.out x6_1 pU3 qU3; obtain rfl : adU1 = adU3 := (by injection eU3); replace hxU3_0 := (HB.out.cell (World.block_lt_of_cell? w _ hxU3_0)).trans hxU3_0; replace pU3 := eq_true pU3; replace qU3 := eq_true qU3) | ((with_reducible refine gate_builtin (b := .append) (xs := #[.tmp 20, .tmp 25]) rfl ?_); at_builtin; refine Kd.R_append (Kd.int .i32) (w0 := w) w.heap.size rfl (.tmp 20) (.tmp 25) 111 21 (.int .i32 0) 4 rfl Tryd.underlying111 info21 rfl (by decide) (by omega) u5 x5_1 (rd l0 x6_1) [.int .i32 (rd l0 x6_1)] (fun _ => True) (fun _ => False) rfl rfl ?aP (fun _ hk => hk.elim) ?aF ?aO ?aB ?aS ?aL ?_; (case aP => exact rfl); (case aB => exact bel); (case aF => exact (fun _ _ => trivial)); (case aO => exact (rl HO_5)); (case aS => exact (below_size bel)); (case aL => have := LMc8.out; omega); intro vU5 w10 ho hb hg hat; rw [← NyU4.out] at ho; replace HB := Aside0.mk (hb); have HOU6 := Aside0.mk (ho); clear HO_5; clear ho hb hg hat)); go_roundg k1
     case measure => have := HK1.out; omega
     case rel => exact ⟨(yU4), (wrap64 (x6_1 + 1)), si, H', ⟨by have := HK1.out; omega⟩, ⟨rl HOU6⟩, ⟨bel⟩⟩
   ·rw [if_neg c3] at H; have c3b0 : decide (x6_1 < (l0.length : Int)) = false := decide_eq_false c3; clear c3; obtain rfl := Option.some.inj H; go_wp2; go_ret; exact ⟨_, fi, by (with_reducible repeat (first | apply Kd.R_alloc | apply Kd.R_drewN | apply Kd.R_drew)); exact HO_5.out, by exact bel⟩
def siglumref03_lig.f (a0 : Int) : Option (ByteArray) := if a0 = 198 then (some (⟨#[65, 69]⟩ : ByteArray)) else (if a0 = 230 then (some (⟨#[97, 101]⟩ : ByteArray)) else (if a0 = 338 then (some (⟨#[79, 69]⟩ : ByteArray)) else (if a0 = 339 then (some (⟨#[111, 101]⟩ : ByteArray)) else (if a0 = 223 then (some (⟨#[115, 115]⟩ : ByteArray)) else (if a0 = 383 then (some (⟨#[115]⟩ : ByteArray)) else (if a0 = 306 then (some (⟨#[73, 74]⟩ : ByteArray)) else (if a0 = 307 then (some (⟨#[105, 106]⟩ : ByteArray)) else (if a0 = 64256 then (some (⟨#[102, 102]⟩ : ByteArray)) else (if a0 = 64257 then (some (⟨#[102, 105]⟩ : ByteArray)) else (if a0 = 64258 then (some (⟨#[102, 108]⟩ : ByteArray)) else (if a0 = 64259 then (some (⟨#[102, 102, 105]⟩ : ByteArray)) else (if a0 = 64260 then (some (⟨#[102, 102, 108]⟩ : ByteArray)) else (if a0 = 64261 then (some (⟨#[115, 116]⟩ : ByteArray)) else (if a0 = 64262 then (some (⟨#[115, 116]⟩ : ByteArray)) else (some (⟨#[]⟩ : ByteArray))))))))))))))))
set_option maxHeartbeats 8000000 in
set_option maxRecDepth 100000 in
theorem siglumref03_lig.calls (a0 : Int) (r : ByteArray) (w : World) (h : siglumref03_lig.f a0 = some r) :
    Calls Tryd.prog 87 #[.int .i32 a0] w fun e w' => e = .returned (.string r) ∧ Drawn0 w w' := by
  have H : (if a0 = 198 then (some (⟨#[65, 69]⟩ : ByteArray)) else (if a0 = 230 then (some (⟨#[97, 101]⟩ : ByteArray)) else (if a0 = 338 then (some (⟨#[79, 69]⟩ : ByteArray)) else (if a0 = 339 then (some (⟨#[111, 101]⟩ : ByteArray)) else (if a0 = 223 then (some (⟨#[115, 115]⟩ : ByteArray)) else (if a0 = 383 then (some (⟨#[115]⟩ : ByteArray)) else (if a0 = 306 then (some (⟨#[73, 74]⟩ : ByteArray)) else (if a0 = 307 then (some (⟨#[105, 106]⟩ : ByteArray)) else (if a0 = 64256 then (some (⟨#[102, 102]⟩ : ByteArray)) else (if a0 = 64257 then (some (⟨#[102, 105]⟩ : ByteArray)) else (if a0 = 64258 then (some (⟨#[102, 108]⟩ : ByteArray)) else (if a0 = 64259 then (some (⟨#[102, 102, 105]⟩ : ByteArray)) else (if a0 = 64260 then (some (⟨#[102, 102, 108]⟩ : ByteArray)) else (if a0 = 64261 then (some (⟨#[115, 116]⟩ : ByteArray)) else (if a0 = 64262 then (some (⟨#[115, 116]⟩ : ByteArray)) else (some (⟨#[]⟩ : ByteArray))))))))))))))))) = some r := h; clear h
  by_cases c2 : a0 = 198
  · rw [if_pos c2] at H
    have c2b0 := beq_iff_eq.mpr c2; have c2b1 := bne_eq_false_iff_eq.mpr c2; clear c2; obtain rfl := Option.some.inj H; go_enter Tryd.func87, Tryd.ntmps87; go_wp2; go_ret; exact ⟨si, dr⟩
  · rw [if_neg c2] at H
    have c2b0 := beq_eq_false_iff_ne.mpr c2; have c2b1 := bne_iff_ne.mpr c2
    by_cases c3 : a0 = 230
    · rw [if_pos c3] at H
      have c3b0 := beq_iff_eq.mpr c3; have c3b1 := bne_eq_false_iff_eq.mpr c3; clear c3; obtain rfl := Option.some.inj H; go_enter Tryd.func87, Tryd.ntmps87; go_wp2; go_ret; exact ⟨si, dr⟩
    · rw [if_neg c3] at H
      have c3b0 := beq_eq_false_iff_ne.mpr c3; have c3b1 := bne_iff_ne.mpr c3
      by_cases c4 : a0 = 338
      · rw [if_pos c4] at H
        have c4b0 := beq_iff_eq.mpr c4; have c4b1 := bne_eq_false_iff_eq.mpr c4; clear c4; obtain rfl := Option.some.inj H; go_enter Tryd.func87, Tryd.ntmps87; go_wp2; go_ret; exact ⟨si, dr⟩
      · rw [if_neg c4] at H
        have c4b0 := beq_eq_false_iff_ne.mpr c4; have c4b1 := bne_iff_ne.mpr c4
        by_cases c5 : a0 = 339
        · rw [if_pos c5] at H
          have c5b0 := beq_iff_eq.mpr c5; have c5b1 := bne_eq_false_iff_eq.mpr c5; clear c5; obtain rfl := Option.some.inj H; go_enter Tryd.func87, Tryd.ntmps87; go_wp2; go_ret; exact ⟨si, dr⟩
        · rw [if_neg c5] at H
          have c5b0 := beq_eq_false_iff_ne.mpr c5; have c5b1 := bne_iff_ne.mpr c5
          by_cases c6 : a0 = 223
          · rw [if_pos c6] at H
            have c6b0 := beq_iff_eq.mpr c6; have c6b1 := bne_eq_false_iff_eq.mpr c6; clear c6; obtain rfl := Option.some.inj H; go_enter Tryd.func87, Tryd.ntmps87; go_wp2; go_ret; exact ⟨si, dr⟩
          · rw [if_neg c6] at H
            have c6b0 := beq_eq_false_iff_ne.mpr c6; have c6b1 := bne_iff_ne.mpr c6
            by_cases c7 : a0 = 383
            · rw [if_pos c7] at H
              have c7b0 := beq_iff_eq.mpr c7; have c7b1 := bne_eq_false_iff_eq.mpr c7; clear c7; obtain rfl := Option.some.inj H; go_enter Tryd.func87, Tryd.ntmps87; go_wp2; go_ret; exact ⟨si, dr⟩
            · rw [if_neg c7] at H
              have c7b0 := beq_eq_false_iff_ne.mpr c7; have c7b1 := bne_iff_ne.mpr c7
              by_cases c8 : a0 = 306
              · rw [if_pos c8] at H
                have c8b0 := beq_iff_eq.mpr c8; have c8b1 := bne_eq_false_iff_eq.mpr c8; clear c8; obtain rfl := Option.some.inj H; go_enter Tryd.func87, Tryd.ntmps87; go_wp2; go_ret; exact ⟨si, dr⟩
              · rw [if_neg c8] at H
                have c8b0 := beq_eq_false_iff_ne.mpr c8; have c8b1 := bne_iff_ne.mpr c8
                by_cases c9 : a0 = 307
                · rw [if_pos c9] at H
                  have c9b0 := beq_iff_eq.mpr c9; have c9b1 := bne_eq_false_iff_eq.mpr c9; clear c9; obtain rfl := Option.some.inj H; go_enter Tryd.func87, Tryd.ntmps87; go_wp2; go_ret; exact ⟨si, dr⟩
                · rw [if_neg c9] at H
                  have c9b0 := beq_eq_false_iff_ne.mpr c9; have c9b1 := bne_iff_ne.mpr c9
                  by_cases c10 : a0 = 64256
                  · rw [if_pos c10] at H
                    have c10b0 := beq_iff_eq.mpr c10; have c10b1 := bne_eq_false_iff_eq.mpr c10; clear c10; obtain rfl := Option.some.inj H; go_enter Tryd.func87, Tryd.ntmps87; go_wp2; go_ret; exact ⟨si, dr⟩
                  · rw [if_neg c10] at H
                    have c10b0 := beq_eq_false_iff_ne.mpr c10; have c10b1 := bne_iff_ne.mpr c10
                    by_cases c11 : a0 = 64257
                    · rw [if_pos c11] at H
                      have c11b0 := beq_iff_eq.mpr c11; have c11b1 := bne_eq_false_iff_eq.mpr c11; clear c11; obtain rfl := Option.some.inj H; go_enter Tryd.func87, Tryd.ntmps87; go_wp2; go_ret; exact ⟨si, dr⟩
                    · rw [if_neg c11] at H
                      have c11b0 := beq_eq_false_iff_ne.mpr c11; have c11b1 := bne_iff_ne.mpr c11
                      by_cases c12 : a0 = 64258
                      · rw [if_pos c12] at H
                        have c12b0 := beq_iff_eq.mpr c12; have c12b1 := bne_eq_false_iff_eq.mpr c12; clear c12; obtain rfl := Option.some.inj H; go_enter Tryd.func87, Tryd.ntmps87; go_wp2; go_ret; exact ⟨si, dr⟩
                      · rw [if_neg c12] at H
                        have c12b0 := beq_eq_false_iff_ne.mpr c12; have c12b1 := bne_iff_ne.mpr c12
                        by_cases c13 : a0 = 64259
                        · rw [if_pos c13] at H
                          have c13b0 := beq_iff_eq.mpr c13; have c13b1 := bne_eq_false_iff_eq.mpr c13; clear c13; obtain rfl := Option.some.inj H; go_enter Tryd.func87, Tryd.ntmps87; go_wp2; go_ret; exact ⟨si, dr⟩
                        · rw [if_neg c13] at H
                          have c13b0 := beq_eq_false_iff_ne.mpr c13; have c13b1 := bne_iff_ne.mpr c13
                          by_cases c14 : a0 = 64260
                          · rw [if_pos c14] at H
                            have c14b0 := beq_iff_eq.mpr c14; have c14b1 := bne_eq_false_iff_eq.mpr c14; clear c14; obtain rfl := Option.some.inj H; go_enter Tryd.func87, Tryd.ntmps87; go_wp2; go_ret; exact ⟨si, dr⟩
                          · rw [if_neg c14] at H
                            have c14b0 := beq_eq_false_iff_ne.mpr c14; have c14b1 := bne_iff_ne.mpr c14
                            by_cases c15 : a0 = 64261
                            · rw [if_pos c15] at H
                              have c15b0 := beq_iff_eq.mpr c15; have c15b1 := bne_eq_false_iff_eq.mpr c15; clear c15; obtain rfl := Option.some.inj H; go_enter Tryd.func87, Tryd.ntmps87; go_wp2; go_ret; exact ⟨si, dr⟩
                            · rw [if_neg c15] at H
                              have c15b0 := beq_eq_false_iff_ne.mpr c15; have c15b1 := bne_iff_ne.mpr c15
                              by_cases c16 : a0 = 64262
                              · rw [if_pos c16] at H
                                have c16b0 := beq_iff_eq.mpr c16; have c16b1 := bne_eq_false_iff_eq.mpr c16; clear c16; obtain rfl := Option.some.inj H; go_enter Tryd.func87, Tryd.ntmps87; go_wp2; go_ret; exact ⟨si, dr⟩
                              · rw [if_neg c16] at H
                                have c16b0 := beq_eq_false_iff_ne.mpr c16; have c16b1 := bne_iff_ne.mpr c16; obtain rfl := Option.some.inj H; go_enter Tryd.func87, Tryd.ntmps87; go_wp2; go_ret; exact ⟨si, dr⟩
mutual
def siglumref03_ligs.l0 : Nat → List Int → List Int → Int → Option (List Int)
 | 0, _, _, _ => none
 | k + 1, x0, x3, x4 => if x4 < (x0.length : Int) then (if 0 ≤ x4 then ((siglumref03_lig.f (rd x0 x4)).bind fun tU2 => (if tU2.toList = ([] : List UInt8) then (if x3.length < 35184372088832 then (siglumref03_ligs.j1 k x0 (x3 ++ [rd x0 x4]) x4 tU2) else (none)) else (siglumref03_ligs.j1 k x0 x3 x4 tU2))) else (none)) else (some x3)
def siglumref03_ligs.j1 : Nat → List Int → List Int → Int → ByteArray → Option (List Int)
 | 0, _, _, _, _ => none
 | k + 1, x0, x3, x4, x5 => siglumref03_ligs.l1 k x0 x3 x4 x5 0
def siglumref03_ligs.l1 : Nat → List Int → List Int → Int → ByteArray → Int → Option (List Int)
 | 0, _, _, _, _, _ => none
 | k + 1, x0, x3, x4, x5, x6 => if x6 < (x5.size : Int) then (if 0 ≤ x6 then (if x3.length < 35184372088832 then (siglumref03_ligs.l1 k x0 (x3 ++ [wrap32 (bt x5 x6)]) x4 x5 (wrap64 (x6 + 1))) else (none)) else (none)) else (siglumref03_ligs.l0 k x0 x3 (wrap64 (x4 + 1)))
end
def siglumref03_ligs.f (k : Nat) (l0 : List Int) : Option (List Int) := siglumref03_ligs.l0 k l0 ([] : List Int) 0
set_option maxHeartbeats 8000000 in
set_option maxRecDepth 100000 in
theorem siglumref03_ligs.calls (k : Nat) (A0 : Option Addr) (c0 : Nat) (l0 : List Int) (r : List Int) (w : World) (hr0 : Kd.C (Kd.int .i32) w A0 l0.length l0) (hc0 : l0.length ≤ c0) (h : siglumref03_ligs.f k l0 = some r) :
 Calls Tryd.prog 73 #[.slice A0 l0.length c0] w fun e w' => ∃ v0_ : Value, e = .returned (v0_) ∧ Kd.R (Kd.int .i32) 21 w' w.heap.size (fun _ => True) v0_ r ∧ Below w.heap.size w w' := by
 have HR0 := Aside0.mk hr0; have HC0 := Aside0.mk hc0; clear hr0 hc0; have HB := Aside0.mk (Below.refl w.heap.size w); have H := h; clear h; unfold siglumref03_ligs.f at H; have H' := Aside0.mk H; clear H; go_enter Tryd.func73, Tryd.ntmps73; go_wp2
 go_loopg [3, 4] k (fun kq v3 v4 w' => ∃ (x3_1 : List Int) (x4_1 : Int), v4 = .int .i64 x4_1 ∧ Aside0 (siglumref03_ligs.l0 kq l0 x3_1 x4_1 = some r) ∧ Aside0 (kq ≤ k) ∧ Aside0 (Kd.R (Kd.int .i32) 21 w' w.heap.size (fun _ => True) v3 x3_1) ∧ Aside0 (Below w.heap.size w w'))
 case atStart => exact ⟨(([] : List Int)), (0), si, H', ⟨Nat.le_refl _⟩, ⟨by first | exact Kd.R_nil _ _ _ _ _ | exact Kd.N_nil _ _ _ _ _ | exact Kd.V_nil _ _ _ _ _ | exact Kd.Q_nil _ _ _ _ _ | exact Kd.S_nil _ _ _ _ _⟩, ⟨bel⟩⟩
 case round =>
  clear H'; obtain ⟨x3_1, x4_1, rfl, HA, HK1, HO_3, HB⟩ := hrel
  cases gk with
  | zero => exact absurd HA.out (by simp [siglumref03_ligs.l0])
  | succ k1 =>
   have H := HA.out; clear HA; simp only [siglumref03_ligs.l0] at H
   by_cases c2 : x4_1 < (l0.length : Int)
   ·rw [if_pos c2] at H; have c2b0 := decide_eq_true c2; clear c2; replace H := dt H; obtain ⟨c3b0, H⟩ := H; replace H := ob H; obtain ⟨tU2, A4, H⟩ := H; (try dsimp only at H); have HC5 := Aside0.mk H; clear H; have pU1 : 0 ≤ (x4_1 : Int) := oda; have qU1 : x4_1 < (l0.length : Int) := oda; obtain ⟨adU1, eU1, hxU1_0⟩ := Kd.at_int HR0.out x4_1 pU1 qU1; cases eU1; replace hxU1_0 := (HB.out.cell (World.block_lt_of_cell? w _ hxU1_0)).trans hxU1_0; replace pU1 := eq_true pU1; replace qU1 := eq_true qU1
    go_upto_if 19 with (first | ((with_reducible refine gc 87 ?_); refine gl 17 Tryd.func87 #[.int .i32 (rd l0 x4_1)] ?_; (with_reducible refine (siglumref03_lig.calls (rd l0 x4_1) tU2 _ A4.out).mono ?_); rintro e w' ⟨rfl, ⟨nd, rfl⟩⟩; refine ⟨_, rfl, ?_⟩))
    (try simp only [Act.put,za,zb,zc])
    go_cut [3] (fun v3 wc => ∃ (kq : Nat) (x3_4 : List Int), Aside0 (siglumref03_ligs.j1 kq l0 x3_4 x4_1 tU2 = some r) ∧ Aside0 (kq ≤ k1) ∧ Aside0 (Kd.R (Kd.int .i32) 21 wc w.heap.size (fun _ => True) v3 x3_4) ∧ Aside0 (Below w.heap.size w wc))
    case first =>
     have H := HC5.out; clear HC5
     by_cases c6 : tU2.toList = ([] : List UInt8)
     ·rw [if_pos c6] at H; have c6b0 := beq_iff_eq.mpr c6; have c6b1 := bne_eq_false_iff_eq.mpr c6; clear c6; (first | rw [c6b0] | (simp only [i64_w, i32_w]; rw [c6b0]) | (have ce_ := c6b0; rw [List.beq_nil_eq] at ce_; rw [ce_]) | skip); replace H := it H; obtain ⟨c7, H⟩ := H; have LMc7 := Aside0.mk c7; clear c7; obtain ⟨yU4, hyU4⟩ : ∃ y_ : List Int, y_ = (x3_1 ++ [rd l0 x4_1]) := ⟨_, rfl⟩
      (try rw [← hyU4] at H); (try rw [Option.bind_some] at H); (try dsimp only at H); have NyU4 := Aside0.mk hyU4; clear hyU4; have H' := Aside0.mk H; clear H; have pU3 : 0 ≤ (x4_1 : Int) := oda; have qU3 : x4_1 < (l0.length : Int) := oda; obtain ⟨adU3, eU3, hxU3_0⟩ := Kd.at_int HR0.out x4_1 pU3 qU3; obtain rfl : adU1 = adU3 := (by injection eU3); replace hxU3_0 := (HB.out.cell (World.block_lt_of_cell? w _ hxU3_0)).trans hxU3_0; replace pU3 := eq_true pU3; replace qU3 := eq_true qU3; go_wp2_with (first | ((with_reducible refine gate_builtin (b := .append) (xs := #[.tmp 20, .tmp 25]) rfl ?_); at_builtin; refine Kd.R_append (Kd.int .i32) (w0 := w) w.heap.size rfl (.tmp 20) (.tmp 25) 111 21 (.int .i32 0) 4 rfl Tryd.underlying111 info21 rfl (by decide) (by omega) u3 x3_1 (rd l0 x4_1) [.int .i32 (rd l0 x4_1)] (fun _ => True) (fun _ => False) rfl rfl ?aP (fun _ hk => hk.elim) ?aF ?aO ?aB ?aS ?aL ?_; (case aP => exact rfl); (case aB => exact bel); (case aF => exact (fun _ _ => trivial)); (case aO => exact (rl HO_3)); (case aS => exact (below_size bel)); (case aL => have := LMc7.out; omega); intro vU5 w8 ho hb hg hat; rw [← NyU4.out] at ho; replace HB := Aside0.mk (hb); have HOU6 := Aside0.mk (ho); clear HO_3; clear ho hb hg hat)); go_meet
      case rel => exact ⟨_, (yU4), H', ⟨by have := HK1.out; first | omega | exact Nat.le_refl _⟩, ⟨rl HOU6⟩, ⟨bel⟩⟩
     ·rw [if_neg c6] at H; have c6b0 := beq_eq_false_iff_ne.mpr c6; have c6b1 := bne_iff_ne.mpr c6; (first | rw [c6b0] | (simp only [i64_w, i32_w]; rw [c6b0]) | (have ce_ := c6b0; rw [List.beq_nil_eq] at ce_; rw [ce_]) | skip); have H' := Aside0.mk H; clear H; go_wp2; go_meet
      case rel => exact ⟨_, (x3_1), H', ⟨by have := HK1.out; first | omega | exact Nat.le_refl _⟩, ⟨rl HO_3⟩, ⟨bel⟩⟩
    case rest =>
     clear HC5; (try clear c2); (try clear c2b0); (try clear p2); (try clear c3); (try clear c3b0); (try clear c6); (try clear c6b0 c6b1); (try clear c7); (try clear p7); (try clear q7); (try clear hx7); (try clear c8); (try clear hxU1_0); (try clear hxU3_0); (try clear pU1); (try clear pU3); (try clear qU1); (try clear qU3); obtain ⟨kq, x3_4, HA, HJ4, HO_3, HB⟩ := hcut
     cases kq with
     | zero => exact absurd HA.out (by simp [siglumref03_ligs.j1])
     | succ kj4 =>
      have H := HA.out; clear HA; simp only [siglumref03_ligs.j1] at H; have H' := Aside0.mk H; clear H; go_wp2
      go_loopg [3, 6] kj4 (fun kq v3 v6 w' => ∃ (x3_3 : List Int) (x6_3 : Int), v6 = .int .i64 x6_3 ∧ Aside0 (siglumref03_ligs.l1 kq l0 x3_3 x4_1 tU2 x6_3 = some r) ∧ Aside0 (kq ≤ kj4) ∧ Aside0 (Kd.R (Kd.int .i32) 21 w' w.heap.size (fun _ => True) v3 x3_3) ∧ Aside0 (Below w.heap.size w w'))
      case atStart => exact ⟨(x3_4), (0), si, H', ⟨Nat.le_refl _⟩, ⟨rl HO_3⟩, ⟨bel⟩⟩
      case round =>
       clear H'; (try clear c2); (try clear c2b0); (try clear p2); (try clear c3); (try clear c3b0); (try clear c6); (try clear c6b0 c6b1); (try clear c7); (try clear p7); (try clear q7); (try clear hx7); (try clear c8); (try clear hxU1_0); (try clear hxU3_0); (try clear pU1); (try clear pU3); (try clear qU1); (try clear qU3); obtain ⟨x3_3, x6_3, rfl, HA, HK3, HO_3, HB⟩ := hrel
       cases gk with
       | zero => exact absurd HA.out (by simp [siglumref03_ligs.l1])
       | succ k3 =>
        have H := HA.out; clear HA; simp only [siglumref03_ligs.l1] at H
        by_cases c9 : x6_3 < (tU2.size : Int)
        ·rw [if_pos c9] at H; have c9b0 := decide_eq_true c9; clear c9; replace H := dt H; obtain ⟨c10b0, H⟩ := H; replace H := it H; obtain ⟨c12, H⟩ := H; have LMc12 := Aside0.mk c12; clear c12; obtain ⟨yU7, hyU7⟩ : ∃ y_ : List Int, y_ = (x3_3 ++ [wrap32 (bt tU2 x6_3)]) := ⟨_, rfl⟩
         (try rw [← hyU7] at H); (try rw [Option.bind_some] at H); (try dsimp only at H); have NyU7 := Aside0.mk hyU7; clear hyU7; have H' := Aside0.mk H; clear H; have p11 : 0 ≤ (x6_3 : Int) := oda; have q11 : x6_3 < (tU2.size : Int) := oda; have hx11 := bt_at tU2 x6_3; replace p11 := eq_true p11; replace q11 := eq_true q11; go_wp2_with (first | ((with_reducible refine gate_builtin (b := .append) (xs := #[.tmp 33, .tmp 38]) rfl ?_); at_builtin; refine Kd.R_append (Kd.int .i32) (w0 := w) w.heap.size rfl (.tmp 33) (.tmp 38) 111 21 (.int .i32 0) 4 rfl Tryd.underlying111 info21 rfl (by decide) (by omega) u3 x3_3 (wrap32 (bt tU2 x6_3)) [.int .i32 (wrap32 (bt tU2 x6_3))] (fun _ => True) (fun _ => False) rfl rfl ?aP (fun _ hk => hk.elim) ?aF ?aO ?aB ?aS ?aL ?_; (case aP => exact rfl); (case aB => exact bel); (case aF => exact (fun _ _ => trivial)); (case aO => exact (rl HO_3)); (case aS => exact (below_size bel)); (case aL => have := LMc12.out; omega); intro vU8 w13 ho hb hg hat; rw [← NyU7.out] at ho; replace HB := Aside0.mk (hb); have HOU9 := Aside0.mk (ho); clear HO_3; clear ho hb hg hat)); go_roundg k3
         case measure => have := HK1.out; have := HJ4.out; have := HK3.out; omega
         case rel => exact ⟨(yU7), (wrap64 (x6_3 + 1)), si, H', ⟨by have := HK1.out; have := HJ4.out; have := HK3.out; omega⟩, ⟨rl HOU9⟩, ⟨bel⟩⟩
        ·rw [if_neg c9] at H; have c9b0 : decide (x6_3 < (tU2.size : Int)) = false := decide_eq_false c9; clear c9; have H' := Aside0.mk H; clear H; go_wp2; go_roundg k3
         case measure => have := HK1.out; have := HJ4.out; have := HK3.out; omega
         case rel => exact ⟨(x3_3), (wrap64 (x4_1 + 1)), si, H', ⟨by have := HK1.out; have := HJ4.out; have := HK3.out; omega⟩, ⟨rl HO_3⟩, ⟨bel⟩⟩
   ·rw [if_neg c2] at H; have c2b0 : decide (x4_1 < (l0.length : Int)) = false := decide_eq_false c2; clear c2; obtain rfl := Option.some.inj H; go_wp2; go_ret; exact ⟨_, fi, by (with_reducible repeat (first | apply Kd.R_alloc | apply Kd.R_drewN | apply Kd.R_drew)); exact HO_3.out, by exact bel⟩
mutual
def siglumref03_small.j0 : Nat → Int → Bool → Bool → Option (Int)
 | 0, _, _, _ => none
 | k + 1, x0, x3, x7 => if x7 = true then (siglumref03_small.j2 k x0 x3 x7) else (if x0 ≥ 192 then (if x0 ≤ 222 then (siglumref03_small.j1 k x0 x3 (x0 != 215)) else (siglumref03_small.j1 k x0 x3 false)) else (siglumref03_small.j1 k x0 x3 false))
def siglumref03_small.j2 : Nat → Int → Bool → Bool → Option (Int)
 | 0, _, _, _ => none
 | k + 1, x0, x3, x7 => if x7 = true then (some (wrap32 (x0 + 32))) else (if x0 ≥ 1024 then (siglumref03_small.j3 k x0 x3 (decide (x0 ≤ 1039))) else (siglumref03_small.j3 k x0 x3 false))
def siglumref03_small.j3 : Nat → Int → Bool → Bool → Option (Int)
 | 0, _, _, _ => none
 | k + 1, x0, x3, x42 => if x42 = true then (some (wrap32 (x0 + 80))) else (if x3 = true then (if x0 ≥ 256 then (if x0 ≤ 311 then (siglumref03_small.j4 k x0 x3 true) else (if x0 ≥ 330 then (if x0 ≤ 375 then (siglumref03_small.j4 k x0 x3 true) else (if x0 ≥ 7680 then (siglumref03_small.j4 k x0 x3 (decide (x0 ≤ 7829))) else (siglumref03_small.j4 k x0 x3 false))) else (if x0 ≥ 7680 then (siglumref03_small.j4 k x0 x3 (decide (x0 ≤ 7829))) else (siglumref03_small.j4 k x0 x3 false)))) else (if x0 ≥ 330 then (if x0 ≤ 375 then (siglumref03_small.j4 k x0 x3 true) else (if x0 ≥ 7680 then (siglumref03_small.j4 k x0 x3 (decide (x0 ≤ 7829))) else (siglumref03_small.j4 k x0 x3 false))) else (if x0 ≥ 7680 then (siglumref03_small.j4 k x0 x3 (decide (x0 ≤ 7829))) else (siglumref03_small.j4 k x0 x3 false)))) else (siglumref03_small.j4 k x0 x3 false))
def siglumref03_small.j4 : Nat → Int → Bool → Bool → Option (Int)
 | 0, _, _, _ => none
 | k + 1, x0, x3, x51 => if x51 = true then (some (wrap32 (x0 + 1))) else (if x3 = true then (siglumref03_small.j5 k x0 false) else (if x0 ≥ 313 then (if x0 ≤ 328 then (siglumref03_small.j5 k x0 true) else (if x0 ≥ 377 then (siglumref03_small.j5 k x0 (decide (x0 ≤ 382))) else (siglumref03_small.j5 k x0 false))) else (if x0 ≥ 377 then (siglumref03_small.j5 k x0 (decide (x0 ≤ 382))) else (siglumref03_small.j5 k x0 false))))
def siglumref03_small.j5 : Nat → Int → Bool → Option (Int)
 | 0, _, _ => none
 | k + 1, x0, x79 => if x79 = true then (some (wrap32 (x0 + 1))) else (if x0 = 376 then (some 255) else (if x0 = 962 then (some 963) else (some x0)))
def siglumref03_small.j1 : Nat → Int → Bool → Bool → Option (Int)
 | 0, _, _, _ => none
 | k + 1, x0, x3, x7 => if x7 = true then (siglumref03_small.j2 k x0 x3 x7) else (if x0 ≥ 913 then (if x0 ≤ 937 then (if x0 = 930 then (if x0 ≥ 1040 then (siglumref03_small.j2 k x0 x3 (decide (x0 ≤ 1071))) else (siglumref03_small.j2 k x0 x3 false)) else (siglumref03_small.j2 k x0 x3 (x0 != 930))) else (if x0 ≥ 1040 then (siglumref03_small.j2 k x0 x3 (decide (x0 ≤ 1071))) else (siglumref03_small.j2 k x0 x3 false))) else (if x0 ≥ 1040 then (siglumref03_small.j2 k x0 x3 (decide (x0 ≤ 1071))) else (siglumref03_small.j2 k x0 x3 false)))
end
def siglumref03_small.f (k : Nat) (a0 : Int) : Option (Int) := if a0 ≥ 65 then (siglumref03_small.j0 k a0 ((Int.tmod a0 2) == 0) (decide (a0 ≤ 90))) else (siglumref03_small.j0 k a0 ((Int.tmod a0 2) == 0) false)
theorem siglumref03_small.mono_l : ∀ k, (∀ y0 y1 y2, LeO (siglumref03_small.j0 k y0 y1 y2) (siglumref03_small.j0 (k + 1) y0 y1 y2)) ∧ (∀ y0 y1 y2, LeO (siglumref03_small.j2 k y0 y1 y2) (siglumref03_small.j2 (k + 1) y0 y1 y2)) ∧ (∀ y0 y1 y2, LeO (siglumref03_small.j3 k y0 y1 y2) (siglumref03_small.j3 (k + 1) y0 y1 y2)) ∧ (∀ y0 y1 y2, LeO (siglumref03_small.j4 k y0 y1 y2) (siglumref03_small.j4 (k + 1) y0 y1 y2)) ∧ (∀ y0 y1, LeO (siglumref03_small.j5 k y0 y1) (siglumref03_small.j5 (k + 1) y0 y1)) ∧ (∀ y0 y1 y2, LeO (siglumref03_small.j1 k y0 y1 y2) (siglumref03_small.j1 (k + 1) y0 y1 y2))
 | 0 => ⟨fun _ _ _ r h => by simp [siglumref03_small.j0] at h, fun _ _ _ r h => by simp [siglumref03_small.j2] at h, fun _ _ _ r h => by simp [siglumref03_small.j3] at h, fun _ _ _ r h => by simp [siglumref03_small.j4] at h, fun _ _ r h => by simp [siglumref03_small.j5] at h, fun _ _ _ r h => by simp [siglumref03_small.j1] at h⟩
 | k + 1 => by
  obtain ⟨ih0, ih1, ih2, ih3, ih4, ih5⟩ := siglumref03_small.mono_l k; refine ⟨?_, ?_, ?_, ?_, ?_, ?_⟩
  ·intro y0 y1 y2; unfold siglumref03_small.j0
   repeat' first
   | (with_reducible exact ih0 _ _ _)
   | (with_reducible exact ih1 _ _ _)
   | (with_reducible exact ih2 _ _ _)
   | (with_reducible exact ih3 _ _ _)
   | (with_reducible exact ih4 _ _)
   | (with_reducible exact ih5 _ _ _)
   | (with_reducible exact LeO.refl _)
   | (with_reducible exact LeO.none _)
   | (with_reducible refine LeO.ite ?_ ?_)
   | (with_reducible refine LeO.bind ?_ (fun _ => ?_))
   | exact ih0 _ _ _
   | exact ih1 _ _ _
   | exact ih2 _ _ _
   | exact ih3 _ _ _
   | exact ih4 _ _
   | exact ih5 _ _ _
   | exact LeO.none _
   | refine LeO.ite ?_ ?_
   | refine LeO.bind ?_ (fun _ => ?_)
  ·intro y0 y1 y2; unfold siglumref03_small.j2
   repeat' first
   | (with_reducible exact ih0 _ _ _)
   | (with_reducible exact ih1 _ _ _)
   | (with_reducible exact ih2 _ _ _)
   | (with_reducible exact ih3 _ _ _)
   | (with_reducible exact ih4 _ _)
   | (with_reducible exact ih5 _ _ _)
   | (with_reducible exact LeO.refl _)
   | (with_reducible exact LeO.none _)
   | (with_reducible refine LeO.ite ?_ ?_)
   | (with_reducible refine LeO.bind ?_ (fun _ => ?_))
   | exact ih0 _ _ _
   | exact ih1 _ _ _
   | exact ih2 _ _ _
   | exact ih3 _ _ _
   | exact ih4 _ _
   | exact ih5 _ _ _
   | exact LeO.none _
   | refine LeO.ite ?_ ?_
   | refine LeO.bind ?_ (fun _ => ?_)
  ·intro y0 y1 y2; unfold siglumref03_small.j3
   repeat' first
   | (with_reducible exact ih0 _ _ _)
   | (with_reducible exact ih1 _ _ _)
   | (with_reducible exact ih2 _ _ _)
   | (with_reducible exact ih3 _ _ _)
   | (with_reducible exact ih4 _ _)
   | (with_reducible exact ih5 _ _ _)
   | (with_reducible exact LeO.refl _)
   | (with_reducible exact LeO.none _)
   | (with_reducible refine LeO.ite ?_ ?_)
   | (with_reducible refine LeO.bind ?_ (fun _ => ?_))
   | exact ih0 _ _ _
   | exact ih1 _ _ _
   | exact ih2 _ _ _
   | exact ih3 _ _ _
   | exact ih4 _ _
   | exact ih5 _ _ _
   | exact LeO.none _
   | refine LeO.ite ?_ ?_
   | refine LeO.bind ?_ (fun _ => ?_)
  ·intro y0 y1 y2; unfold siglumref03_small.j4
   repeat' first
   | (with_reducible exact ih0 _ _ _)
   | (with_reducible exact ih1 _ _ _)
   | (with_reducible exact ih2 _ _ _)
   | (with_reducible exact ih3 _ _ _)
   | (with_reducible exact ih4 _ _)
   | (with_reducible exact ih5 _ _ _)
   | (with_reducible exact LeO.refl _)
   | (with_reducible exact LeO.none _)
   | (with_reducible refine LeO.ite ?_ ?_)
   | (with_reducible refine LeO.bind ?_ (fun _ => ?_))
   | exact ih0 _ _ _
   | exact ih1 _ _ _
   | exact ih2 _ _ _
   | exact ih3 _ _ _
   | exact ih4 _ _
   | exact ih5 _ _ _
   | exact LeO.none _
   | refine LeO.ite ?_ ?_
   | refine LeO.bind ?_ (fun _ => ?_)
  ·intro y0 y1; unfold siglumref03_small.j5
   repeat' first
   | (with_reducible exact ih0 _ _ _)
   | (with_reducible exact ih1 _ _ _)
   | (with_reducible exact ih2 _ _ _)
   | (with_reducible exact ih3 _ _ _)
   | (with_reducible exact ih4 _ _)
   | (with_reducible exact ih5 _ _ _)
   | (with_reducible exact LeO.refl _)
   | (with_reducible exact LeO.none _)
   | (with_reducible refine LeO.ite ?_ ?_)
   | (with_reducible refine LeO.bind ?_ (fun _ => ?_))
   | exact ih0 _ _ _
   | exact ih1 _ _ _
   | exact ih2 _ _ _
   | exact ih3 _ _ _
   | exact ih4 _ _
   | exact ih5 _ _ _
   | exact LeO.none _
   | refine LeO.ite ?_ ?_
   | refine LeO.bind ?_ (fun _ => ?_)
  ·intro y0 y1 y2; unfold siglumref03_small.j1
   repeat' first
   | (with_reducible exact ih0 _ _ _)
   | (with_reducible exact ih1 _ _ _)
   | (with_reducible exact ih2 _ _ _)
   | (with_reducible exact ih3 _ _ _)
   | (with_reducible exact ih4 _ _)
   | (with_reducible exact ih5 _ _ _)
   | (with_reducible exact LeO.refl _)
   | (with_reducible exact LeO.none _)
   | (with_reducible refine LeO.ite ?_ ?_)
   | (with_reducible refine LeO.bind ?_ (fun _ => ?_))
   | exact ih0 _ _ _
   | exact ih1 _ _ _
   | exact ih2 _ _ _
   | exact ih3 _ _ _
   | exact ih4 _ _
   | exact ih5 _ _ _
   | exact LeO.none _
   | refine LeO.ite ?_ ?_
   | refine LeO.bind ?_ (fun _ => ?_)
theorem siglumref03_small.mono : ∀ a0 k, LeO (siglumref03_small.f k a0) (siglumref03_small.f (k + 1) a0) := by
 intro a0 k; obtain ⟨ih0, ih1, ih2, ih3, ih4, ih5⟩ := siglumref03_small.mono_l k; unfold siglumref03_small.f
 repeat' first
  | (with_reducible exact ih0 _ _ _)
  | (with_reducible exact ih1 _ _ _)
  | (with_reducible exact ih2 _ _ _)
  | (with_reducible exact ih3 _ _ _)
  | (with_reducible exact ih4 _ _)
  | (with_reducible exact ih5 _ _ _)
  | (with_reducible exact LeO.refl _)
  | (with_reducible exact LeO.none _)
  | (with_reducible refine LeO.ite ?_ ?_)
  | (with_reducible refine LeO.bind ?_ (fun _ => ?_))
  | exact ih0 _ _ _
  | exact ih1 _ _ _
  | exact ih2 _ _ _
  | exact ih3 _ _ _
  | exact ih4 _ _
  | exact ih5 _ _ _
  | exact LeO.none _
  | refine LeO.ite ?_ ?_
  | refine LeO.bind ?_ (fun _ => ?_)
set_option maxHeartbeats 8000000 in
set_option maxRecDepth 100000 in
theorem siglumref03_small.calls (k : Nat) (a0 : Int) (r : Int) (w : World) (h : siglumref03_small.f k a0 = some r) :
 Calls Tryd.prog 74 #[.int .i32 a0] w fun e w' => e = .returned (.int .i32 r) ∧ Drawn0 w w' := by
 have H := h; clear h; unfold siglumref03_small.f at H; have HC2 := Aside0.mk H; clear H; go_enter Tryd.func74, Tryd.ntmps74
 go_upto_region 2 with (fail)
 go_cut [7] (fun v7 wc => ∃ (kq : Nat) (x7_1 : Bool), v7 = .bool x7_1 ∧ Aside0 (siglumref03_small.j0 kq a0 ((Int.tmod a0 2) == 0) x7_1 = some r) ∧ Aside0 (kq ≤ k) ∧ Drawn0 w wc)
 case first =>
  have H := HC2.out; clear HC2
  by_cases c3 : a0 ≥ 65
  ·rw [if_pos c3] at H; have c3b0 : decide (65 ≤ a0) = true := decide_eq_true c3; clear c3; (first | rw [c3b0] | (simp only [i64_w, i32_w]; rw [c3b0]) | (have ce_ := c3b0; rw [List.beq_nil_eq] at ce_; rw [ce_]) | skip); have H' := Aside0.mk H; clear H; go_wp2; go_meet
   case rel => exact ⟨_, (decide (a0 ≤ 90)), si, H', ⟨lk⟩, dr⟩
  ·rw [if_neg c3] at H; have c3b0 : decide (65 ≤ a0) = false := decide_eq_false c3; clear c3; (first | rw [c3b0] | (simp only [i64_w, i32_w]; rw [c3b0]) | (have ce_ := c3b0; rw [List.beq_nil_eq] at ce_; rw [ce_]) | skip); have H' := Aside0.mk H; clear H; go_wp2; go_meet
   case rel => exact ⟨_, (false), si, H', ⟨lk⟩, dr⟩
 case rest =>
  clear HC2; (try clear p2); (try clear c3); (try clear c3b0); obtain ⟨kq, x7_1, rfl, HA, HJ1, ⟨mc1, rfl⟩⟩ := hcut
  cases kq with
  | zero => exact absurd HA.out (by simp [siglumref03_small.j0])
  | succ kj1 =>
   have H := HA.out; clear HA; simp only [siglumref03_small.j0] at H; have HC4 := Aside0.mk H; clear H
   go_upto_if 7 with (fail)
   go_cut [7] (fun v7 wc => ∃ (kq : Nat) (x7_3 : Bool), v7 = .bool x7_3 ∧ Aside0 (siglumref03_small.j2 kq a0 ((Int.tmod a0 2) == 0) x7_3 = some r) ∧ Aside0 (kq ≤ kj1) ∧ Drawn0 w wc)
   case first =>
    have H := HC4.out; clear HC4
    by_cases c5 : x7_1 = true
    ·subst c5; rw [if_pos rfl] at H; have H' := Aside0.mk H; clear H; go_wp2; go_meet
     case rel => exact ⟨_, (true), si, H', ⟨by have := HJ1.out; first | omega | exact Nat.le_refl _⟩, dr⟩
    ·replace c5 := Bool.eq_false_iff.mpr c5; subst c5; rw [if_neg nf] at H; have HC6 := Aside0.mk H; clear H
     go_upto_region 3 with (fail)
     go_cut [7] (fun v7 wc => ∃ (kq : Nat) (x7_5 : Bool), v7 = .bool x7_5 ∧ Aside0 (siglumref03_small.j1 kq a0 ((Int.tmod a0 2) == 0) x7_5 = some r) ∧ Aside0 (kq ≤ kj1) ∧ Drawn0 w wc)
     case first =>
      have H := HC6.out; clear HC6
      by_cases c7 : a0 ≥ 192
      ·rw [if_pos c7] at H; have c7b0 : decide (192 ≤ a0) = true := decide_eq_true c7; clear c7; (first | rw [c7b0] | (simp only [i64_w, i32_w]; rw [c7b0]) | (have ce_ := c7b0; rw [List.beq_nil_eq] at ce_; rw [ce_]) | skip)
       by_cases c8 : a0 ≤ 222
       ·rw [if_pos c8] at H; have c8b0 := decide_eq_true c8; clear c8; have H' := Aside0.mk H; clear H; go_wp2; go_meet
        case rel => exact ⟨_, ((a0 != 215)), si, H', ⟨by have := HJ1.out; first | omega | exact Nat.le_refl _⟩, dr⟩
       ·rw [if_neg c8] at H; have c8b0 : decide (a0 ≤ 222) = false := decide_eq_false c8; clear c8; have H' := Aside0.mk H; clear H; go_wp2; go_meet
        case rel => exact ⟨_, (false), si, H', ⟨by have := HJ1.out; first | omega | exact Nat.le_refl _⟩, dr⟩
      ·rw [if_neg c7] at H; have c7b0 : decide (192 ≤ a0) = false := decide_eq_false c7; clear c7; (first | rw [c7b0] | (simp only [i64_w, i32_w]; rw [c7b0]) | (have ce_ := c7b0; rw [List.beq_nil_eq] at ce_; rw [ce_]) | skip); have H' := Aside0.mk H; clear H; go_wp2; go_meet
       case rel => exact ⟨_, (false), si, H', ⟨by have := HJ1.out; first | omega | exact Nat.le_refl _⟩, dr⟩
     case rest =>
      clear HC6; (try clear c1); (try clear p2); (try clear c3); (try clear c3b0); (try clear c5); (try clear c7); (try clear c7b0); (try clear c8); (try clear c8b0); obtain ⟨kq, x7_5, rfl, HA, HJ5, ⟨mc5, rfl⟩⟩ := hcut
      cases kq with
      | zero => exact absurd HA.out (by simp [siglumref03_small.j1])
      | succ kj5 =>
       have H := HA.out; clear HA; simp only [siglumref03_small.j1] at H
       by_cases c9 : x7_5 = true
       ·subst c9; rw [if_pos rfl] at H; have H' := Aside0.mk H; clear H; go_wp2; go_meet
        case rel => exact ⟨_, (true), si, H', ⟨by have := HJ1.out; have := HJ5.out; first | omega | exact Nat.le_refl _⟩, dr⟩
       ·replace c9 := Bool.eq_false_iff.mpr c9; subst c9; rw [if_neg nf] at H
        by_cases c10 : a0 ≥ 913
        ·rw [if_pos c10] at H; have c10b0 : decide (913 ≤ a0) = true := decide_eq_true c10; clear c10
         by_cases c11 : a0 ≤ 937
         ·rw [if_pos c11] at H; have c11b0 := decide_eq_true c11; clear c11
          by_cases c12 : a0 = 930
          ·rw [if_pos c12] at H; have c12b0 := beq_iff_eq.mpr c12; have c12b1 := bne_eq_false_iff_eq.mpr c12; clear c12
           by_cases c13 : a0 ≥ 1040
           ·rw [if_pos c13] at H; have c13b0 : decide (1040 ≤ a0) = true := decide_eq_true c13; clear c13; have H' := Aside0.mk H; clear H; go_wp2; go_meet
            case rel => exact ⟨_, (decide (a0 ≤ 1071)), si, H', ⟨by have := HJ1.out; have := HJ5.out; first | omega | exact Nat.le_refl _⟩, dr⟩
           ·rw [if_neg c13] at H; have c13b0 : decide (1040 ≤ a0) = false := decide_eq_false c13; clear c13; have H' := Aside0.mk H; clear H; go_wp2; go_meet
            case rel => exact ⟨_, (false), si, H', ⟨by have := HJ1.out; have := HJ5.out; first | omega | exact Nat.le_refl _⟩, dr⟩
          ·rw [if_neg c12] at H; have c12b0 := beq_eq_false_iff_ne.mpr c12; have c12b1 := bne_iff_ne.mpr c12; have H' := Aside0.mk H; clear H; go_wp2; go_meet
           case rel => exact ⟨_, ((a0 != 930)), si, H', ⟨by have := HJ1.out; have := HJ5.out; first | omega | exact Nat.le_refl _⟩, dr⟩
         ·rw [if_neg c11] at H; have c11b0 : decide (a0 ≤ 937) = false := decide_eq_false c11; clear c11
          by_cases c14 : a0 ≥ 1040
          ·rw [if_pos c14] at H; have c14b0 : decide (1040 ≤ a0) = true := decide_eq_true c14; clear c14; have H' := Aside0.mk H; clear H; go_wp2; go_meet
           case rel => exact ⟨_, (decide (a0 ≤ 1071)), si, H', ⟨by have := HJ1.out; have := HJ5.out; first | omega | exact Nat.le_refl _⟩, dr⟩
          ·rw [if_neg c14] at H; have c14b0 : decide (1040 ≤ a0) = false := decide_eq_false c14; clear c14; have H' := Aside0.mk H; clear H; go_wp2; go_meet
           case rel => exact ⟨_, (false), si, H', ⟨by have := HJ1.out; have := HJ5.out; first | omega | exact Nat.le_refl _⟩, dr⟩
        ·rw [if_neg c10] at H; have c10b0 : decide (913 ≤ a0) = false := decide_eq_false c10; clear c10
         by_cases c15 : a0 ≥ 1040
         ·rw [if_pos c15] at H; have c15b0 : decide (1040 ≤ a0) = true := decide_eq_true c15; clear c15; have H' := Aside0.mk H; clear H; go_wp2; go_meet
          case rel => exact ⟨_, (decide (a0 ≤ 1071)), si, H', ⟨by have := HJ1.out; have := HJ5.out; first | omega | exact Nat.le_refl _⟩, dr⟩
         ·rw [if_neg c15] at H; have c15b0 : decide (1040 ≤ a0) = false := decide_eq_false c15; clear c15; have H' := Aside0.mk H; clear H; go_wp2; go_meet
          case rel => exact ⟨_, (false), si, H', ⟨by have := HJ1.out; have := HJ5.out; first | omega | exact Nat.le_refl _⟩, dr⟩
   case rest =>
    clear HC4; (try clear c1); (try clear p2); (try clear c3); (try clear c3b0); (try clear c5); (try clear c7); (try clear c7b0); (try clear c8); (try clear c8b0); (try clear c9); (try clear c10); (try clear c10b0); (try clear c11); (try clear c11b0); (try clear c12); (try clear c12b0 c12b1); (try clear c13); (try clear c13b0); (try clear c14); (try clear c14b0); (try clear c15); (try clear c15b0); obtain ⟨kq, x7_3, rfl, HA, HJ3, ⟨mc3, rfl⟩⟩ := hcut
    cases kq with
    | zero => exact absurd HA.out (by simp [siglumref03_small.j2])
    | succ kj3 =>
     have H := HA.out; clear HA; simp only [siglumref03_small.j2] at H
     by_cases c16 : x7_3 = true
     ·subst c16; rw [if_pos rfl] at H; obtain rfl := Option.some.inj H; go_wp2; go_ret; exact ⟨si, dr⟩
     ·replace c16 := Bool.eq_false_iff.mpr c16; subst c16; rw [if_neg nf] at H; have HC17 := Aside0.mk H; clear H
      go_upto_region 7 with (fail)
      go_cut [42] (fun v42 wc => ∃ (kq : Nat) (x42_16 : Bool), v42 = .bool x42_16 ∧ Aside0 (siglumref03_small.j3 kq a0 ((Int.tmod a0 2) == 0) x42_16 = some r) ∧ Aside0 (kq ≤ kj3) ∧ Drawn0 w wc)
      case first =>
       have H := HC17.out; clear HC17
       by_cases c18 : a0 ≥ 1024
       ·rw [if_pos c18] at H; have c18b0 : decide (1024 ≤ a0) = true := decide_eq_true c18; clear c18; (first | rw [c18b0] | (simp only [i64_w, i32_w]; rw [c18b0]) | (have ce_ := c18b0; rw [List.beq_nil_eq] at ce_; rw [ce_]) | skip); have H' := Aside0.mk H; clear H; go_wp2; go_meet
        case rel => exact ⟨_, (decide (a0 ≤ 1039)), si, H', ⟨by have := HJ1.out; have := HJ3.out; first | omega | exact Nat.le_refl _⟩, dr⟩
       ·rw [if_neg c18] at H; have c18b0 : decide (1024 ≤ a0) = false := decide_eq_false c18; clear c18; (first | rw [c18b0] | (simp only [i64_w, i32_w]; rw [c18b0]) | (have ce_ := c18b0; rw [List.beq_nil_eq] at ce_; rw [ce_]) | skip); have H' := Aside0.mk H; clear H; go_wp2; go_meet
        case rel => exact ⟨_, (false), si, H', ⟨by have := HJ1.out; have := HJ3.out; first | omega | exact Nat.le_refl _⟩, dr⟩
      case rest =>
       clear HC17; (try clear c1); (try clear p2); (try clear c3); (try clear c3b0); (try clear p3); (try clear c5); (try clear c7); (try clear c7b0); (try clear c8); (try clear c8b0); (try clear c9); (try clear c10); (try clear c10b0); (try clear c11); (try clear c11b0); (try clear c12); (try clear c12b0 c12b1); (try clear c13); (try clear c13b0); (try clear c14); (try clear c14b0); (try clear c15); (try clear c15b0); (try clear c16); (try clear c18); (try clear c18b0); obtain ⟨kq, x42_16, rfl, HA, HJ16, ⟨mc16, rfl⟩⟩ := hcut
       cases kq with
       | zero => exact absurd HA.out (by simp [siglumref03_small.j3])
       | succ kj16 =>
        have H := HA.out; clear HA; simp only [siglumref03_small.j3] at H
        by_cases c19 : x42_16 = true
        ·subst c19; rw [if_pos rfl] at H; obtain rfl := Option.some.inj H; go_wp2; go_ret; exact ⟨si, dr⟩
        ·replace c19 := Bool.eq_false_iff.mpr c19; subst c19; rw [if_neg nf] at H; have HC20 := Aside0.mk H; clear H
         go_upto_region 9 with (fail)
         go_cut [51] (fun v51 wc => ∃ (kq : Nat) (x51_19 : Bool), v51 = .bool x51_19 ∧ Aside0 (siglumref03_small.j4 kq a0 ((Int.tmod a0 2) == 0) x51_19 = some r) ∧ Aside0 (kq ≤ kj16) ∧ Drawn0 w wc)
         case first =>
          have H := HC20.out; clear HC20
          by_cases c21 : ((Int.tmod a0 2) == 0) = true
          ·rw [if_pos c21] at H; have c21b0 : ((Int.tmod a0 2) == 0) = true := c21; (try (have c21b1 : decide ((Int.tmod a0 2) = 0) = true := by simpa using c21)); (try (have c21b2 : ((Int.tmod a0 2) == 0) = true := by simpa using c21)); clear c21; (first | (simp only [c21b0] at *) | rw [c21b0] | (simp only [i64_w, i32_w]; rw [c21b0]) | (have ce_ := c21b0; rw [List.beq_nil_eq] at ce_; rw [ce_]) | skip)
           by_cases c22 : a0 ≥ 256
           ·rw [if_pos c22] at H; have c22b0 : decide (256 ≤ a0) = true := decide_eq_true c22; clear c22
            by_cases c23 : a0 ≤ 311
            ·rw [if_pos c23] at H; have c23b0 := decide_eq_true c23; clear c23; have H' := Aside0.mk H; clear H; go_wp2; go_meet
             case rel => exact ⟨_, (true), si, H', ⟨by have := HJ1.out; have := HJ3.out; have := HJ16.out; first | omega | exact Nat.le_refl _⟩, dr⟩
            ·rw [if_neg c23] at H; have c23b0 : decide (a0 ≤ 311) = false := decide_eq_false c23; clear c23
             by_cases c24 : a0 ≥ 330
             ·rw [if_pos c24] at H; have c24b0 : decide (330 ≤ a0) = true := decide_eq_true c24; clear c24
              by_cases c25 : a0 ≤ 375
              ·rw [if_pos c25] at H; have c25b0 := decide_eq_true c25; clear c25; have H' := Aside0.mk H; clear H; go_wp2; go_meet
               case rel => exact ⟨_, (true), si, H', ⟨by have := HJ1.out; have := HJ3.out; have := HJ16.out; first | omega | exact Nat.le_refl _⟩, dr⟩
              ·rw [if_neg c25] at H; have c25b0 : decide (a0 ≤ 375) = false := decide_eq_false c25; clear c25
               by_cases c26 : a0 ≥ 7680
               ·rw [if_pos c26] at H; have c26b0 : decide (7680 ≤ a0) = true := decide_eq_true c26; clear c26; have H' := Aside0.mk H; clear H; go_wp2; go_meet
                case rel => exact ⟨_, (decide (a0 ≤ 7829)), si, H', ⟨by have := HJ1.out; have := HJ3.out; have := HJ16.out; first | omega | exact Nat.le_refl _⟩, dr⟩
               ·rw [if_neg c26] at H; have c26b0 : decide (7680 ≤ a0) = false := decide_eq_false c26; clear c26; have H' := Aside0.mk H; clear H; go_wp2; go_meet
                case rel => exact ⟨_, (false), si, H', ⟨by have := HJ1.out; have := HJ3.out; have := HJ16.out; first | omega | exact Nat.le_refl _⟩, dr⟩
             ·rw [if_neg c24] at H; have c24b0 : decide (330 ≤ a0) = false := decide_eq_false c24; clear c24
              by_cases c27 : a0 ≥ 7680
              ·rw [if_pos c27] at H; have c27b0 : decide (7680 ≤ a0) = true := decide_eq_true c27; clear c27; have H' := Aside0.mk H; clear H; go_wp2; go_meet
               case rel => exact ⟨_, (decide (a0 ≤ 7829)), si, H', ⟨by have := HJ1.out; have := HJ3.out; have := HJ16.out; first | omega | exact Nat.le_refl _⟩, dr⟩
              ·rw [if_neg c27] at H; have c27b0 : decide (7680 ≤ a0) = false := decide_eq_false c27; clear c27; have H' := Aside0.mk H; clear H; go_wp2; go_meet
               case rel => exact ⟨_, (false), si, H', ⟨by have := HJ1.out; have := HJ3.out; have := HJ16.out; first | omega | exact Nat.le_refl _⟩, dr⟩
           ·rw [if_neg c22] at H; have c22b0 : decide (256 ≤ a0) = false := decide_eq_false c22; clear c22
            by_cases c28 : a0 ≥ 330
            ·rw [if_pos c28] at H; have c28b0 : decide (330 ≤ a0) = true := decide_eq_true c28; clear c28
             by_cases c29 : a0 ≤ 375
             ·rw [if_pos c29] at H; have c29b0 := decide_eq_true c29; clear c29; have H' := Aside0.mk H; clear H; go_wp2; go_meet
              case rel => exact ⟨_, (true), si, H', ⟨by have := HJ1.out; have := HJ3.out; have := HJ16.out; first | omega | exact Nat.le_refl _⟩, dr⟩
             ·rw [if_neg c29] at H; have c29b0 : decide (a0 ≤ 375) = false := decide_eq_false c29; clear c29
              by_cases c30 : a0 ≥ 7680
              ·rw [if_pos c30] at H; have c30b0 : decide (7680 ≤ a0) = true := decide_eq_true c30; clear c30; have H' := Aside0.mk H; clear H; go_wp2; go_meet
               case rel => exact ⟨_, (decide (a0 ≤ 7829)), si, H', ⟨by have := HJ1.out; have := HJ3.out; have := HJ16.out; first | omega | exact Nat.le_refl _⟩, dr⟩
              ·rw [if_neg c30] at H; have c30b0 : decide (7680 ≤ a0) = false := decide_eq_false c30; clear c30; have H' := Aside0.mk H; clear H; go_wp2; go_meet
               case rel => exact ⟨_, (false), si, H', ⟨by have := HJ1.out; have := HJ3.out; have := HJ16.out; first | omega | exact Nat.le_refl _⟩, dr⟩
            ·rw [if_neg c28] at H; have c28b0 : decide (330 ≤ a0) = false := decide_eq_false c28; clear c28
             by_cases c31 : a0 ≥ 7680
             ·rw [if_pos c31] at H; have c31b0 : decide (7680 ≤ a0) = true := decide_eq_true c31; clear c31; have H' := Aside0.mk H; clear H; go_wp2; go_meet
              case rel => exact ⟨_, (decide (a0 ≤ 7829)), si, H', ⟨by have := HJ1.out; have := HJ3.out; have := HJ16.out; first | omega | exact Nat.le_refl _⟩, dr⟩
             ·rw [if_neg c31] at H; have c31b0 : decide (7680 ≤ a0) = false := decide_eq_false c31; clear c31; have H' := Aside0.mk H; clear H; go_wp2; go_meet
              case rel => exact ⟨_, (false), si, H', ⟨by have := HJ1.out; have := HJ3.out; have := HJ16.out; first | omega | exact Nat.le_refl _⟩, dr⟩
          ·rw [if_neg c21] at H; have c21b0 : ((Int.tmod a0 2) == 0) = false := by simpa using c21
           (try (have c21b1 : decide ((Int.tmod a0 2) = 0) = false := by simpa using c21)); (try (have c21b2 : ((Int.tmod a0 2) == 0) = false := by simpa using c21)); (try (have c21b3 : ¬ ((Int.tmod a0 2) = 0) := by simpa using c21)); clear c21; (first | (simp only [c21b0] at *) | rw [c21b0] | (simp only [i64_w, i32_w]; rw [c21b0]) | (have ce_ := c21b0; rw [List.beq_nil_eq] at ce_; rw [ce_]) | skip); have H' := Aside0.mk H; clear H; go_wp2; go_meet
           case rel => exact ⟨_, (false), si, H', ⟨by have := HJ1.out; have := HJ3.out; have := HJ16.out; first | omega | exact Nat.le_refl _⟩, dr⟩
         case rest =>
          clear HC20; (try clear c1); (try clear c2); (try clear p2); (try clear c3); (try clear c3b0); (try clear p3); (try clear c5); (try clear c7); (try clear c7b0); (try clear c8); (try clear c8b0); (try clear c9); (try clear c10); (try clear c10b0); (try clear c11); (try clear c11b0); (try clear c12); (try clear c12b0 c12b1); (try clear c13); (try clear c13b0); (try clear c14); (try clear c14b0); (try clear c15); (try clear c15b0); (try clear c16); (try clear c18); (try clear c18b0); (try clear c19); (try clear c21); (try clear c21b0 c21b1 c21b2); (try clear c22); (try clear c22b0); (try clear c23); (try clear c23b0); (try clear c24); (try clear c24b0); (try clear c25); (try clear c25b0); (try clear c26); (try clear c26b0); (try clear c27); (try clear c27b0); (try clear c28); (try clear c28b0); (try clear c29); (try clear c29b0); (try clear c30); (try clear c30b0); (try clear c31); (try clear c31b0); obtain ⟨kq, x51_19, rfl, HA, HJ19, ⟨mc19, rfl⟩⟩ := hcut
          cases kq with
          | zero => exact absurd HA.out (by simp [siglumref03_small.j4])
          | succ kj19 =>
           have H := HA.out; clear HA; simp only [siglumref03_small.j4] at H
           by_cases c32 : x51_19 = true
           ·subst c32; rw [if_pos rfl] at H; obtain rfl := Option.some.inj H; go_wp2; go_ret; exact ⟨si, dr⟩
           ·replace c32 := Bool.eq_false_iff.mpr c32; subst c32; rw [if_neg nf] at H; have HC33 := Aside0.mk H; clear H
            go_upto_region 11 with (fail)
            go_cut [79] (fun v79 wc => ∃ (kq : Nat) (x79_32 : Bool), v79 = .bool x79_32 ∧ Aside0 (siglumref03_small.j5 kq a0 x79_32 = some r) ∧ Aside0 (kq ≤ kj19) ∧ Drawn0 w wc)
            case first =>
             have H := HC33.out; clear HC33
             by_cases c34 : ((Int.tmod a0 2) == 0) = true
             ·rw [if_pos c34] at H; have c34b0 : ((Int.tmod a0 2) == 0) = true := c34; (try (have c34b1 : decide ((Int.tmod a0 2) = 0) = true := by simpa using c34)); (try (have c34b2 : ((Int.tmod a0 2) == 0) = true := by simpa using c34)); clear c34; (first | (simp only [c34b0] at *) | rw [c34b0] | (simp only [i64_w, i32_w]; rw [c34b0]) | (have ce_ := c34b0; rw [List.beq_nil_eq] at ce_; rw [ce_]) | skip); have H' := Aside0.mk H; clear H; go_wp2; go_meet
              case rel => exact ⟨_, (false), si, H', ⟨by have := HJ1.out; have := HJ3.out; have := HJ16.out; have := HJ19.out; first | omega | exact Nat.le_refl _⟩, dr⟩
             ·rw [if_neg c34] at H; have c34b0 : ((Int.tmod a0 2) == 0) = false := by simpa using c34
              (try (have c34b1 : decide ((Int.tmod a0 2) = 0) = false := by simpa using c34)); (try (have c34b2 : ((Int.tmod a0 2) == 0) = false := by simpa using c34)); (try (have c34b3 : ¬ ((Int.tmod a0 2) = 0) := by simpa using c34)); clear c34; (first | (simp only [c34b0] at *) | rw [c34b0] | (simp only [i64_w, i32_w]; rw [c34b0]) | (have ce_ := c34b0; rw [List.beq_nil_eq] at ce_; rw [ce_]) | skip)
              by_cases c35 : a0 ≥ 313
              ·rw [if_pos c35] at H; have c35b0 : decide (313 ≤ a0) = true := decide_eq_true c35; clear c35
               by_cases c36 : a0 ≤ 328
               ·rw [if_pos c36] at H; have c36b0 := decide_eq_true c36; clear c36; have H' := Aside0.mk H; clear H; go_wp2; go_meet
                case rel => exact ⟨_, (true), si, H', ⟨by have := HJ1.out; have := HJ3.out; have := HJ16.out; have := HJ19.out; first | omega | exact Nat.le_refl _⟩, dr⟩
               ·rw [if_neg c36] at H; have c36b0 : decide (a0 ≤ 328) = false := decide_eq_false c36; clear c36
                by_cases c37 : a0 ≥ 377
                ·rw [if_pos c37] at H; have c37b0 : decide (377 ≤ a0) = true := decide_eq_true c37; clear c37; have H' := Aside0.mk H; clear H; go_wp2; go_meet
                 case rel => exact ⟨_, (decide (a0 ≤ 382)), si, H', ⟨by have := HJ1.out; have := HJ3.out; have := HJ16.out; have := HJ19.out; first | omega | exact Nat.le_refl _⟩, dr⟩
                ·rw [if_neg c37] at H; have c37b0 : decide (377 ≤ a0) = false := decide_eq_false c37; clear c37; have H' := Aside0.mk H; clear H; go_wp2; go_meet
                 case rel => exact ⟨_, (false), si, H', ⟨by have := HJ1.out; have := HJ3.out; have := HJ16.out; have := HJ19.out; first | omega | exact Nat.le_refl _⟩, dr⟩
              ·rw [if_neg c35] at H; have c35b0 : decide (313 ≤ a0) = false := decide_eq_false c35; clear c35
               by_cases c38 : a0 ≥ 377
               ·rw [if_pos c38] at H; have c38b0 : decide (377 ≤ a0) = true := decide_eq_true c38; clear c38; have H' := Aside0.mk H; clear H; go_wp2; go_meet
                case rel => exact ⟨_, (decide (a0 ≤ 382)), si, H', ⟨by have := HJ1.out; have := HJ3.out; have := HJ16.out; have := HJ19.out; first | omega | exact Nat.le_refl _⟩, dr⟩
               ·rw [if_neg c38] at H; have c38b0 : decide (377 ≤ a0) = false := decide_eq_false c38; clear c38; have H' := Aside0.mk H; clear H; go_wp2; go_meet
                case rel => exact ⟨_, (false), si, H', ⟨by have := HJ1.out; have := HJ3.out; have := HJ16.out; have := HJ19.out; first | omega | exact Nat.le_refl _⟩, dr⟩
            case rest =>
             clear HC33; (try clear c1); (try clear c2); (try clear p2); (try clear c3); (try clear c3b0); (try clear p3); (try clear c5); (try clear c7); (try clear c7b0); (try clear c8); (try clear c8b0); (try clear c9); (try clear c10); (try clear c10b0); (try clear c11); (try clear c11b0); (try clear c12); (try clear c12b0 c12b1); (try clear c13); (try clear c13b0); (try clear c14); (try clear c14b0); (try clear c15); (try clear c15b0); (try clear c16); (try clear c18); (try clear c18b0); (try clear c19); (try clear c21); (try clear c21b0 c21b1 c21b2); (try clear c22); (try clear c22b0); (try clear c23); (try clear c23b0); (try clear c24); (try clear c24b0); (try clear c25); (try clear c25b0); (try clear c26); (try clear c26b0); (try clear c27); (try clear c27b0); (try clear c28); (try clear c28b0); (try clear c29); (try clear c29b0); (try clear c30); (try clear c30b0); (try clear c31); (try clear c31b0); (try clear c32); (try clear p32); (try clear c34); (try clear c34b0 c34b1 c34b2); (try clear c35); (try clear c35b0); (try clear c36); (try clear c36b0); (try clear c37); (try clear c37b0); (try clear c38); (try clear c38b0); obtain ⟨kq, x79_32, rfl, HA, HJ32, ⟨mc32, rfl⟩⟩ := hcut
             cases kq with
             | zero => exact absurd HA.out (by simp [siglumref03_small.j5])
             | succ kj32 =>
              have H := HA.out; clear HA; simp only [siglumref03_small.j5] at H
              by_cases c39 : x79_32 = true
              ·subst c39; rw [if_pos rfl] at H; obtain rfl := Option.some.inj H; go_wp2; go_ret; exact ⟨si, dr⟩
              ·replace c39 := Bool.eq_false_iff.mpr c39; subst c39; rw [if_neg nf] at H
               by_cases c40 : a0 = 376
               ·rw [if_pos c40] at H; have c40b0 := beq_iff_eq.mpr c40; have c40b1 := bne_eq_false_iff_eq.mpr c40; clear c40; obtain rfl := Option.some.inj H; go_wp2; go_ret; exact ⟨si, dr⟩
               ·rw [if_neg c40] at H; have c40b0 := beq_eq_false_iff_ne.mpr c40; have c40b1 := bne_iff_ne.mpr c40
                by_cases c41 : a0 = 962
                ·rw [if_pos c41] at H; have c41b0 := beq_iff_eq.mpr c41; have c41b1 := bne_eq_false_iff_eq.mpr c41; clear c41; obtain rfl := Option.some.inj H; go_wp2; go_ret; exact ⟨si, dr⟩
                ·rw [if_neg c41] at H; have c41b0 := beq_eq_false_iff_ne.mpr c41; have c41b1 := bne_iff_ne.mpr c41; obtain rfl := Option.some.inj H; go_wp2; go_ret; exact ⟨si, dr⟩
def siglumref03_bare.f (k : Nat) (a0 : Int) : Option (Int) := if a0 < 192 then (some a0) else (if a0 > 255 then (some a0) else ((siglumref01_Cells.f k (⟨#[65, 65, 65, 65, 65, 65, 195, 134, 67, 69, 69, 69, 69, 73, 73, 73, 73, 195, 144, 78, 79, 79, 79, 79, 79, 195, 151, 79, 85, 85, 85, 85, 89, 195, 158, 195, 159, 97, 97, 97, 97, 97, 97, 195, 166, 99, 101, 101, 101, 101, 105, 105, 105, 105, 195, 176, 110, 111, 111, 111, 111, 111, 195, 183, 111, 117, 117, 117, 117, 121, 195, 190, 121]⟩ : ByteArray)).bind fun tU1 => (if 0 ≤ (wrap32 (a0 - 192)) then (if (wrap32 (a0 - 192)) < (tU1.length : Int) then (some ((rd_T91 tU1 (wrap32 (a0 - 192))).f2)) else (none)) else (none))))
set_option maxHeartbeats 8000000 in
set_option maxRecDepth 100000 in
theorem siglumref03_bare.calls (k : Nat) (a0 : Int) (r : Int) (w : World) (h : siglumref03_bare.f k a0 = some r) :
 Calls Tryd.prog 75 #[.int .i32 a0] w fun e w' => e = .returned (.int .i32 r) ∧ Below w.heap.size w w' := by
 have HB := Aside0.mk (Below.refl w.heap.size w); have H := h; clear h; unfold siglumref03_bare.f at H
 by_cases c2 : a0 < 192
 ·rw [if_pos c2] at H; have c2b0 := decide_eq_true c2; clear c2; obtain rfl := Option.some.inj H; go_enter Tryd.func75, Tryd.ntmps75; go_wp2; go_ret; exact ⟨fi, bel⟩
 ·rw [if_neg c2] at H; have c2b0 : decide (a0 < 192) = false := decide_eq_false c2; clear c2
  by_cases c3 : a0 > 255
  ·rw [if_pos c3] at H; have c3b0 : decide (255 < a0) = true := decide_eq_true c3; clear c3; obtain rfl := Option.some.inj H; go_enter Tryd.func75, Tryd.ntmps75; go_wp2; go_ret; exact ⟨fi, bel⟩
  ·rw [if_neg c3] at H; have c3b0 : decide (255 < a0) = false := decide_eq_false c3; clear c3; replace H := ob H; obtain ⟨tU1, A4, H⟩ := H; (try dsimp only at H); obtain ⟨ji5, hji5⟩ : ∃ j_ : Int, (wrap32 (a0 - 192)) = j_ := ⟨_, rfl⟩
   (first | rw [hji5] at H | simp only [hji5] at H); (try rw [hji5] at A4); have hji5w : (IntKind.i32.wrap (a0 - 192)) = ji5 := (i32_w _).trans hji5; replace H := dt H; obtain ⟨c6b0, H⟩ := H; replace H := dt H; obtain ⟨c7b0, H⟩ := H; obtain rfl := Option.some.inj H; go_enter Tryd.func75, Tryd.ntmps75; go_wp2_with (first | ((with_reducible refine gc 53 ?_); refine gl 11 Tryd.func53 #[.string (⟨#[65, 65, 65, 65, 65, 65, 195, 134, 67, 69, 69, 69, 69, 73, 73, 73, 73, 195, 144, 78, 79, 79, 79, 79, 79, 195, 151, 79, 85, 85, 85, 85, 89, 195, 158, 195, 159, 97, 97, 97, 97, 97, 97, 195, 166, 99, 101, 101, 101, 101, 105, 105, 105, 105, 195, 176, 110, 111, 111, 111, 111, 111, 195, 183, 111, 117, 117, 117, 117, 121, 195, 190, 121]⟩ : ByteArray)] ?_; (with_reducible refine (siglumref01_Cells.calls k (⟨#[65, 65, 65, 65, 65, 65, 195, 134, 67, 69, 69, 69, 69, 73, 73, 73, 73, 195, 144, 78, 79, 79, 79, 79, 79, 195, 151, 79, 85, 85, 85, 85, 89, 195, 158, 195, 159, 97, 97, 97, 97, 97, 97, 195, 166, 99, 101, 101, 101, 101, 105, 105, 105, 105, 195, 176, 110, 111, 111, 111, 111, 111, 195, 183, 111, 117, 117, 117, 117, 121, 195, 190, 121]⟩ : ByteArray) tU1 _ A4.out).mono ?_); rintro e w8 ⟨vU2, rfl, ho0, hb⟩; refine ⟨_, rfl, ?_⟩; have HOU3 := Aside0.mk (Kd.R_lower ho0 (below_size bel)); replace HB := bs hb; (try clear hb); (try clear ho0); obtain ⟨Ao9, co9, eo9⟩ := Kd.R_slice HOU3.out; subst eo9; have pU4 : 0 ≤ ((ji5) : Int) := oda; have qU4 : (ji5) < (tU1.length : Int) := oda; obtain ⟨adU4, eU4, hxU4_0, hxU4_1, hxU4_2, hxU4_3, hxU4_4⟩ := at_T91 (Kd.R_reads' HOU3.out).2.2 (ji5) pU4 qU4; cases eU4; replace pU4 := eq_true pU4; replace qU4 := eq_true qU4)); go_ret; exact ⟨by first | rfl | (simp [errW_none, errW_some] <;> rfl) | (simp only [← hji5]; first | rfl | (simp [errW_none, errW_some] <;> rfl)) | (simp [*, errW_none, errW_some] <;> rfl), by exact bel⟩
def siglumref03_plain.f (a0 : Int) : Option (Int) := if a0 = 118 then (some 117) else (if a0 = 106 then (some 105) else (if a0 = 86 then (some 85) else (if a0 = 74 then (some 73) else (some a0))))
set_option maxHeartbeats 8000000 in
set_option maxRecDepth 100000 in
theorem siglumref03_plain.calls (a0 : Int) (r : Int) (w : World) (h : siglumref03_plain.f a0 = some r) :
    Calls Tryd.prog 76 #[.int .i32 a0] w fun e w' => e = .returned (.int .i32 r) ∧ Drawn0 w w' := by
  have H : (if a0 = 118 then (some 117) else (if a0 = 106 then (some 105) else (if a0 = 86 then (some 85) else (if a0 = 74 then (some 73) else (some a0))))) = some r := h; clear h
  by_cases c2 : a0 = 118
  · rw [if_pos c2] at H
    have c2b0 := beq_iff_eq.mpr c2; have c2b1 := bne_eq_false_iff_eq.mpr c2; clear c2; obtain rfl := Option.some.inj H; go_enter Tryd.func76, Tryd.ntmps76; go_wp2; go_ret; exact ⟨si, dr⟩
  · rw [if_neg c2] at H
    have c2b0 := beq_eq_false_iff_ne.mpr c2; have c2b1 := bne_iff_ne.mpr c2
    by_cases c3 : a0 = 106
    · rw [if_pos c3] at H
      have c3b0 := beq_iff_eq.mpr c3; have c3b1 := bne_eq_false_iff_eq.mpr c3; clear c3; obtain rfl := Option.some.inj H; go_enter Tryd.func76, Tryd.ntmps76; go_wp2; go_ret; exact ⟨si, dr⟩
    · rw [if_neg c3] at H
      have c3b0 := beq_eq_false_iff_ne.mpr c3; have c3b1 := bne_iff_ne.mpr c3
      by_cases c4 : a0 = 86
      · rw [if_pos c4] at H
        have c4b0 := beq_iff_eq.mpr c4; have c4b1 := bne_eq_false_iff_eq.mpr c4; clear c4; obtain rfl := Option.some.inj H; go_enter Tryd.func76, Tryd.ntmps76; go_wp2; go_ret; exact ⟨si, dr⟩
      · rw [if_neg c4] at H
        have c4b0 := beq_eq_false_iff_ne.mpr c4; have c4b1 := bne_iff_ne.mpr c4
        by_cases c5 : a0 = 74
        · rw [if_pos c5] at H
          have c5b0 := beq_iff_eq.mpr c5; have c5b1 := bne_eq_false_iff_eq.mpr c5; clear c5; obtain rfl := Option.some.inj H; go_enter Tryd.func76, Tryd.ntmps76; go_wp2; go_ret; exact ⟨si, dr⟩
        · rw [if_neg c5] at H
          have c5b0 := beq_eq_false_iff_ne.mpr c5; have c5b1 := bne_iff_ne.mpr c5; obtain rfl := Option.some.inj H; go_enter Tryd.func76, Tryd.ntmps76; go_wp2; go_ret; exact ⟨si, dr⟩
mutual
def siglumref01_written.j0 : Nat → Int → Bool → Option (List Int)
 | 0, _, _ => none
 | k + 1, x0, x16 => if x16 = true then (siglumref01_written.j1 k 65533) else (siglumref01_written.j1 k x0)
def siglumref01_written.j1 : Nat → Int → Option (List Int)
 | 0, _ => none
 | k + 1, x0 => if x0 < 128 then (some (([(x0) % 256] : List Int))) else (if x0 < 2048 then (some (([Go.bits .or .u8 192 ((x0 / 64) % 256), Go.bits .or .u8 128 ((Go.bits .and .i32 x0 63) % 256)] : List Int))) else (if x0 < 65536 then (some (([Go.bits .or .u8 224 ((x0 / 4096) % 256), Go.bits .or .u8 128 ((Go.bits .and .i32 (x0 / 64) 63) % 256), Go.bits .or .u8 128 ((Go.bits .and .i32 x0 63) % 256)] : List Int))) else (some (([Go.bits .or .u8 240 ((x0 / 262144) % 256), Go.bits .or .u8 128 ((Go.bits .and .i32 (x0 / 4096) 63) % 256), Go.bits .or .u8 128 ((Go.bits .and .i32 (x0 / 64) 63) % 256), Go.bits .or .u8 128 ((Go.bits .and .i32 x0 63) % 256)] : List Int)))))
end
def siglumref01_written.f (k : Nat) (a0 : Int) : Option (List Int) := if a0 < 0 then (siglumref01_written.j0 k a0 true) else (if a0 > 1114111 then (siglumref01_written.j0 k a0 true) else (if a0 ≥ 55296 then (siglumref01_written.j0 k a0 (decide (a0 ≤ 57343))) else (siglumref01_written.j0 k a0 false)))
set_option maxHeartbeats 8000000 in
set_option maxRecDepth 100000 in
theorem siglumref01_written.calls (k : Nat) (a0 : Int) (r : List Int) (w : World) (h : siglumref01_written.f k a0 = some r) :
 Calls Tryd.prog 88 #[.int .i32 a0] w fun e w' => ∃ v0_ : Value, e = .returned (v0_) ∧ Kd.R (Kd.int .u8) 5 w' w.heap.size (fun _ => True) v0_ r ∧ Below w.heap.size w w' := by
 have HB := Aside0.mk (Below.refl w.heap.size w); have H := h; clear h; unfold siglumref01_written.f at H; have HC2 := Aside0.mk H; clear H; go_enter Tryd.func88, Tryd.ntmps88
 go_upto_region 1 with (fail)
 go_cut [16] (fun v16 wc => ∃ (kq : Nat) (x16_1 : Bool), v16 = .bool x16_1 ∧ Aside0 (siglumref01_written.j0 kq a0 x16_1 = some r) ∧ Aside0 (kq ≤ k) ∧ Aside0 (Below w.heap.size w wc))
 case first =>
  have H := HC2.out; clear HC2
  by_cases c3 : a0 < 0
  ·rw [if_pos c3] at H; have c3b0 := decide_eq_true c3; clear c3; (first | rw [c3b0] | (simp only [i64_w, i32_w]; rw [c3b0]) | (have ce_ := c3b0; rw [List.beq_nil_eq] at ce_; rw [ce_]) | skip); have H' := Aside0.mk H; clear H; go_wp2; go_meet
   case rel => exact ⟨_, (true), si, H', ⟨lk⟩, ⟨bel⟩⟩
  ·rw [if_neg c3] at H; have c3b0 : decide (a0 < 0) = false := decide_eq_false c3; clear c3; (first | rw [c3b0] | (simp only [i64_w, i32_w]; rw [c3b0]) | (have ce_ := c3b0; rw [List.beq_nil_eq] at ce_; rw [ce_]) | skip)
   by_cases c4 : a0 > 1114111
   ·rw [if_pos c4] at H; have c4b0 : decide (1114111 < a0) = true := decide_eq_true c4; clear c4; have H' := Aside0.mk H; clear H; go_wp2; go_meet
    case rel => exact ⟨_, (true), si, H', ⟨lk⟩, ⟨bel⟩⟩
   ·rw [if_neg c4] at H; have c4b0 : decide (1114111 < a0) = false := decide_eq_false c4; clear c4
    by_cases c5 : a0 ≥ 55296
    ·rw [if_pos c5] at H; have c5b0 : decide (55296 ≤ a0) = true := decide_eq_true c5; clear c5; have H' := Aside0.mk H; clear H; go_wp2; go_meet
     case rel => exact ⟨_, (decide (a0 ≤ 57343)), si, H', ⟨lk⟩, ⟨bel⟩⟩
    ·rw [if_neg c5] at H; have c5b0 : decide (55296 ≤ a0) = false := decide_eq_false c5; clear c5; have H' := Aside0.mk H; clear H; go_wp2; go_meet
     case rel => exact ⟨_, (false), si, H', ⟨lk⟩, ⟨bel⟩⟩
 case rest =>
  clear HC2; (try clear p2); (try clear c3); (try clear c3b0); (try clear c4); (try clear c4b0); (try clear c5); (try clear c5b0); obtain ⟨kq, x16_1, rfl, HA, HJ1, HB⟩ := hcut
  cases kq with
  | zero => exact absurd HA.out (by simp [siglumref01_written.j0])
  | succ kj1 =>
   have H := HA.out; clear HA; simp only [siglumref01_written.j0] at H; have HC6 := Aside0.mk H; clear H
   go_upto_if 16 with (fail)
   go_cut [0] (fun v0 wc => ∃ (kq : Nat) (x0_5 : Int), v0 = .int .i32 x0_5 ∧ Aside0 (siglumref01_written.j1 kq x0_5 = some r) ∧ Aside0 (kq ≤ kj1) ∧ Aside0 (Below w.heap.size w wc))
   case first =>
    have H := HC6.out; clear HC6
    by_cases c7 : x16_1 = true
    ·subst c7; rw [if_pos rfl] at H; have H' := Aside0.mk H; clear H; go_wp2; go_meet
     case rel => exact ⟨_, (65533), si, H', ⟨by have := HJ1.out; first | omega | exact Nat.le_refl _⟩, ⟨bel⟩⟩
    ·replace c7 := Bool.eq_false_iff.mpr c7; subst c7; rw [if_neg nf] at H; have H' := Aside0.mk H; clear H; go_wp2; go_meet
     case rel => exact ⟨_, (a0), si, H', ⟨by have := HJ1.out; first | omega | exact Nat.le_refl _⟩, ⟨bel⟩⟩
   case rest =>
    clear HC6; (try clear p2); (try clear c3); (try clear c3b0); (try clear c4); (try clear c4b0); (try clear c5); (try clear c5b0); (try clear c7); obtain ⟨kq, x0_5, rfl, HA, HJ5, HB⟩ := hcut
    cases kq with
    | zero => exact absurd HA.out (by simp [siglumref01_written.j1])
    | succ kj5 =>
     have H := HA.out; clear HA; simp only [siglumref01_written.j1] at H
     by_cases c8 : x0_5 < 128
     ·rw [if_pos c8] at H; have c8b0 := decide_eq_true c8; clear c8; obtain ⟨yU1, hyU1⟩ : ∃ y_ : List Int, y_ = (([(x0_5) % 256] : List Int)) := ⟨_, rfl⟩
      (try rw [← hyU1] at H); (try rw [Option.bind_some] at H); (try dsimp only at H); have NyU1 := Aside0.mk hyU1; clear hyU1; obtain rfl := Option.some.inj H; go_wp2_with (first | ((with_reducible refine gd 22 ?_); refine Kd.R_lit (Kd.int .u8) _ 5 ?hg (N := 22) ?hd (xs := ([(x0_5) % 256] : List Int)) (inner := [.int .u8 ((x0_5) % 256)]) (ok := fun _ => True) (okp := fun _ => True) ?hr ?hp (fun _ hk => hk) trivial (Below.refl _ _) (Nat.le_refl _) (by simp) ?_; (case hd => rfl); (case hg => rfl); (case hr => first | (go_simp; done) | (go_simp; rfl)); (case hp => exact (Reps.one (show Kd.M (Kd.int .u8) _ _ _ ((x0_5) % 256) [.int .u8 ((x0_5) % 256)] from rfl) (Reps.none _ _))); intro vU2 w9 ho10 hb hg_ hnew_; clear hg_ hnew_; (first | rw [← NyU1.out] at ho10 | (simp only [Int.reduceToNat] at ho10; rw [← NyU1.out] at ho10)); have HOU3 := Aside0.mk (Kd.R_lower ho10 (below_size bel)); replace HB := bs hb; clear hb ho10)); go_ret; exact ⟨_, fi, by (with_reducible repeat (first | apply Kd.R_alloc | apply Kd.R_drewN | apply Kd.R_drew)); exact HOU3.out, by exact bel⟩
     ·rw [if_neg c8] at H; have c8b0 : decide (x0_5 < 128) = false := decide_eq_false c8; clear c8
      by_cases c11 : x0_5 < 2048
      ·rw [if_pos c11] at H; have c11b0 := decide_eq_true c11; clear c11; obtain ⟨yU4, hyU4⟩ : ∃ y_ : List Int, y_ = (([Go.bits .or .u8 192 ((x0_5 / 64) % 256), Go.bits .or .u8 128 ((Go.bits .and .i32 x0_5 63) % 256)] : List Int)) := ⟨_, rfl⟩
       (try rw [← hyU4] at H); (try rw [Option.bind_some] at H); (try dsimp only at H); have NyU4 := Aside0.mk hyU4; clear hyU4; obtain rfl := Option.some.inj H; go_wp2_with (first | ((with_reducible refine gd 34 ?_); refine Kd.R_lit (Kd.int .u8) _ 5 ?hg (N := 34) ?hd (xs := ([Go.bits .or .u8 192 ((x0_5 / 64) % 256), Go.bits .or .u8 128 ((Go.bits .and .i32 x0_5 63) % 256)] : List Int)) (inner := [.int .u8 (Go.bits .or .u8 192 ((x0_5 / 64) % 256)), .int .u8 (Go.bits .or .u8 128 ((Go.bits .and .i32 x0_5 63) % 256))]) (ok := fun _ => True) (okp := fun _ => True) ?hr ?hp (fun _ hk => hk) trivial (Below.refl _ _) (Nat.le_refl _) (by simp) ?_; (case hd => rfl); (case hg => rfl); (case hr => first | (go_simp; done) | (go_simp; rfl)); (case hp => exact (Reps.one (show Kd.M (Kd.int .u8) _ _ _ (Go.bits .or .u8 192 ((x0_5 / 64) % 256)) [.int .u8 (Go.bits .or .u8 192 ((x0_5 / 64) % 256))] from rfl) (Reps.one (show Kd.M (Kd.int .u8) _ _ _ (Go.bits .or .u8 128 ((Go.bits .and .i32 x0_5 63) % 256)) [.int .u8 (Go.bits .or .u8 128 ((Go.bits .and .i32 x0_5 63) % 256))] from rfl) (Reps.none _ _)))); intro vU5 w12 ho13 hb hg_ hnew_; clear hg_ hnew_; (first | rw [← NyU4.out] at ho13 | (simp only [Int.reduceToNat] at ho13; rw [← NyU4.out] at ho13)); have HOU6 := Aside0.mk (Kd.R_lower ho13 (below_size bel)); replace HB := bs hb; clear hb ho13)); go_ret; exact ⟨_, fi, by (with_reducible repeat (first | apply Kd.R_alloc | apply Kd.R_drewN | apply Kd.R_drew)); exact HOU6.out, by exact bel⟩
      ·rw [if_neg c11] at H; have c11b0 : decide (x0_5 < 2048) = false := decide_eq_false c11; clear c11
       by_cases c14 : x0_5 < 65536
       ·rw [if_pos c14] at H; have c14b0 := decide_eq_true c14; clear c14; obtain ⟨yU7, hyU7⟩ : ∃ y_ : List Int, y_ = (([Go.bits .or .u8 224 ((x0_5 / 4096) % 256), Go.bits .or .u8 128 ((Go.bits .and .i32 (x0_5 / 64) 63) % 256), Go.bits .or .u8 128 ((Go.bits .and .i32 x0_5 63) % 256)] : List Int)) := ⟨_, rfl⟩
        (try rw [← hyU7] at H); (try rw [Option.bind_some] at H); (try dsimp only at H); have NyU7 := Aside0.mk hyU7; clear hyU7; obtain rfl := Option.some.inj H; go_wp2_with (first | ((with_reducible refine gd 51 ?_); refine Kd.R_lit (Kd.int .u8) _ 5 ?hg (N := 51) ?hd (xs := ([Go.bits .or .u8 224 ((x0_5 / 4096) % 256), Go.bits .or .u8 128 ((Go.bits .and .i32 (x0_5 / 64) 63) % 256), Go.bits .or .u8 128 ((Go.bits .and .i32 x0_5 63) % 256)] : List Int)) (inner := [.int .u8 (Go.bits .or .u8 224 ((x0_5 / 4096) % 256)), .int .u8 (Go.bits .or .u8 128 ((Go.bits .and .i32 (x0_5 / 64) 63) % 256)), .int .u8 (Go.bits .or .u8 128 ((Go.bits .and .i32 x0_5 63) % 256))]) (ok := fun _ => True) (okp := fun _ => True) ?hr ?hp (fun _ hk => hk) trivial (Below.refl _ _) (Nat.le_refl _) (by simp) ?_; (case hd => rfl); (case hg => rfl); (case hr => first | (go_simp; done) | (go_simp; rfl)); (case hp => exact (Reps.one (show Kd.M (Kd.int .u8) _ _ _ (Go.bits .or .u8 224 ((x0_5 / 4096) % 256)) [.int .u8 (Go.bits .or .u8 224 ((x0_5 / 4096) % 256))] from rfl) (Reps.one (show Kd.M (Kd.int .u8) _ _ _ (Go.bits .or .u8 128 ((Go.bits .and .i32 (x0_5 / 64) 63) % 256)) [.int .u8 (Go.bits .or .u8 128 ((Go.bits .and .i32 (x0_5 / 64) 63) % 256))] from rfl) (Reps.one (show Kd.M (Kd.int .u8) _ _ _ (Go.bits .or .u8 128 ((Go.bits .and .i32 x0_5 63) % 256)) [.int .u8 (Go.bits .or .u8 128 ((Go.bits .and .i32 x0_5 63) % 256))] from rfl) (Reps.none _ _))))); intro vU8 w15 ho16 hb hg_ hnew_; clear hg_ hnew_; (first | rw [← NyU7.out] at ho16 | (simp only [Int.reduceToNat] at ho16; rw [← NyU7.out] at ho16)); have HOU9 := Aside0.mk (Kd.R_lower ho16 (below_size bel)); replace HB := bs hb; clear hb ho16)); go_ret; exact ⟨_, fi, by (with_reducible repeat (first | apply Kd.R_alloc | apply Kd.R_drewN | apply Kd.R_drew)); exact HOU9.out, by exact bel⟩
       ·rw [if_neg c14] at H; have c14b0 : decide (x0_5 < 65536) = false := decide_eq_false c14; clear c14; obtain ⟨yU10, hyU10⟩ : ∃ y_ : List Int, y_ = (([Go.bits .or .u8 240 ((x0_5 / 262144) % 256), Go.bits .or .u8 128 ((Go.bits .and .i32 (x0_5 / 4096) 63) % 256), Go.bits .or .u8 128 ((Go.bits .and .i32 (x0_5 / 64) 63) % 256), Go.bits .or .u8 128 ((Go.bits .and .i32 x0_5 63) % 256)] : List Int)) := ⟨_, rfl⟩
        (try rw [← hyU10] at H); (try rw [Option.bind_some] at H); (try dsimp only at H); have NyU10 := Aside0.mk hyU10; clear hyU10; obtain rfl := Option.some.inj H; go_wp2_with (first | ((with_reducible refine gd 70 ?_); refine Kd.R_lit (Kd.int .u8) _ 5 ?hg (N := 70) ?hd (xs := ([Go.bits .or .u8 240 ((x0_5 / 262144) % 256), Go.bits .or .u8 128 ((Go.bits .and .i32 (x0_5 / 4096) 63) % 256), Go.bits .or .u8 128 ((Go.bits .and .i32 (x0_5 / 64) 63) % 256), Go.bits .or .u8 128 ((Go.bits .and .i32 x0_5 63) % 256)] : List Int)) (inner := [.int .u8 (Go.bits .or .u8 240 ((x0_5 / 262144) % 256)), .int .u8 (Go.bits .or .u8 128 ((Go.bits .and .i32 (x0_5 / 4096) 63) % 256)), .int .u8 (Go.bits .or .u8 128 ((Go.bits .and .i32 (x0_5 / 64) 63) % 256)), .int .u8 (Go.bits .or .u8 128 ((Go.bits .and .i32 x0_5 63) % 256))]) (ok := fun _ => True) (okp := fun _ => True) ?hr ?hp (fun _ hk => hk) trivial (Below.refl _ _) (Nat.le_refl _) (by simp) ?_; (case hd => rfl); (case hg => rfl); (case hr => first | (go_simp; done) | (go_simp; rfl)); (case hp => exact (Reps.one (show Kd.M (Kd.int .u8) _ _ _ (Go.bits .or .u8 240 ((x0_5 / 262144) % 256)) [.int .u8 (Go.bits .or .u8 240 ((x0_5 / 262144) % 256))] from rfl) (Reps.one (show Kd.M (Kd.int .u8) _ _ _ (Go.bits .or .u8 128 ((Go.bits .and .i32 (x0_5 / 4096) 63) % 256)) [.int .u8 (Go.bits .or .u8 128 ((Go.bits .and .i32 (x0_5 / 4096) 63) % 256))] from rfl) (Reps.one (show Kd.M (Kd.int .u8) _ _ _ (Go.bits .or .u8 128 ((Go.bits .and .i32 (x0_5 / 64) 63) % 256)) [.int .u8 (Go.bits .or .u8 128 ((Go.bits .and .i32 (x0_5 / 64) 63) % 256))] from rfl) (Reps.one (show Kd.M (Kd.int .u8) _ _ _ (Go.bits .or .u8 128 ((Go.bits .and .i32 x0_5 63) % 256)) [.int .u8 (Go.bits .or .u8 128 ((Go.bits .and .i32 x0_5 63) % 256))] from rfl) (Reps.none _ _)))))); intro vU11 w17 ho18 hb hg_ hnew_; clear hg_ hnew_; (first | rw [← NyU10.out] at ho18 | (simp only [Int.reduceToNat] at ho18; rw [← NyU10.out] at ho18)); have HOU12 := Aside0.mk (Kd.R_lower ho18 (below_size bel)); replace HB := bs hb; clear hb ho18)); go_ret; exact ⟨_, fi, by (with_reducible repeat (first | apply Kd.R_alloc | apply Kd.R_drewN | apply Kd.R_drew)); exact HOU12.out, by exact bel⟩
def siglumref01_Back.l0 : Nat → List Int → List Int → Int → Option (ByteArray)
 | 0, _, _, _ => none
 | k + 1, x0, x3, x4 => if x4 < (x0.length : Int) then (if 0 ≤ x4 then ((siglumref01_written.f k (rd x0 x4)).bind fun tU2 => (if x3.length + tU2.length < 140737488355328 then (siglumref01_Back.l0 k x0 (x3 ++ tU2) (wrap64 (x4 + 1))) else (none))) else (none)) else (some (strOfNums x3))
def siglumref01_Back.f (k : Nat) (l0 : List Int) : Option (ByteArray) := siglumref01_Back.l0 k l0 ([] : List Int) 0
set_option maxHeartbeats 8000000 in
set_option maxRecDepth 100000 in
theorem siglumref01_Back.calls (k : Nat) (A0 : Option Addr) (c0 : Nat) (l0 : List Int) (r : ByteArray) (w : World) (hr0 : Kd.C (Kd.int .i32) w A0 l0.length l0) (hc0 : l0.length ≤ c0) (h : siglumref01_Back.f k l0 = some r) :
 Calls Tryd.prog 77 #[.slice A0 l0.length c0] w fun e w' => e = .returned (.string r) ∧ Below w.heap.size w w' := by
 have HR0 := Aside0.mk hr0; have HC0 := Aside0.mk hc0; clear hr0 hc0; have HB := Aside0.mk (Below.refl w.heap.size w); have H := h; clear h; unfold siglumref01_Back.f at H; have H' := Aside0.mk H; clear H; go_enter Tryd.func77, Tryd.ntmps77; go_wp2
 go_loopg [3, 4] k (fun kq v3 v4 w' => ∃ (x3_1 : List Int) (x4_1 : Int), v4 = .int .i64 x4_1 ∧ Aside0 (siglumref01_Back.l0 kq l0 x3_1 x4_1 = some r) ∧ Aside0 (kq ≤ k) ∧ Aside0 (Kd.R (Kd.int .u8) 5 w' w.heap.size (fun _ => True) v3 x3_1) ∧ Aside0 (Below w.heap.size w w'))
 case atStart => exact ⟨(([] : List Int)), (0), si, H', ⟨Nat.le_refl _⟩, ⟨by first | exact Kd.R_nil _ _ _ _ _ | exact Kd.N_nil _ _ _ _ _ | exact Kd.V_nil _ _ _ _ _ | exact Kd.Q_nil _ _ _ _ _ | exact Kd.S_nil _ _ _ _ _⟩, ⟨bel⟩⟩
 case round =>
  clear H'; obtain ⟨x3_1, x4_1, rfl, HA, HK1, HO_3, HB⟩ := hrel
  cases gk with
  | zero => exact absurd HA.out (by simp [siglumref01_Back.l0])
  | succ k1 =>
   have H := HA.out; clear HA; simp only [siglumref01_Back.l0] at H
   by_cases c2 : x4_1 < (l0.length : Int)
   ·rw [if_pos c2] at H; have c2b0 := decide_eq_true c2; clear c2; replace H := dt H; obtain ⟨c3b0, H⟩ := H; replace H := ob H; obtain ⟨tU2, A4, H⟩ := H; (try dsimp only at H); replace H := it H; obtain ⟨c5, H⟩ := H; have LMc5 := Aside0.mk c5; clear c5; obtain ⟨yU5, hyU5⟩ : ∃ y_ : List Int, y_ = (x3_1 ++ tU2) := ⟨_, rfl⟩
    (try rw [← hyU5] at H); (try rw [Option.bind_some] at H); (try dsimp only at H); have NyU5 := Aside0.mk hyU5; clear hyU5; have H' := Aside0.mk H; clear H; have pU1 : 0 ≤ (x4_1 : Int) := oda; have qU1 : x4_1 < (l0.length : Int) := oda; obtain ⟨adU1, eU1, hxU1_0⟩ := Kd.at_int HR0.out x4_1 pU1 qU1; cases eU1; replace hxU1_0 := (HB.out.cell (World.block_lt_of_cell? w _ hxU1_0)).trans hxU1_0; replace pU1 := eq_true pU1; replace qU1 := eq_true qU1
    go_wp2_with (first | ((with_reducible refine gc 88 ?_); refine gl 16 Tryd.func88 #[.int .i32 (rd l0 x4_1)] ?_; (with_reducible refine (siglumref01_written.calls k1 (rd l0 x4_1) tU2 _ A4.out).mono ?_); rintro e w6 ⟨vU3, rfl, ho0, hb⟩; refine ⟨_, rfl, ?_⟩; have n0_ := Aside0.mk (Kd.R_elder' (rl HO_3) (Kd.R_base ho0) hb); have n1_ := Aside0.mk (Kd.R_lower (Kd.R_new' ho0 (Kd.R_lt (rl HO_3))) (below_size bel)); have n2_ := bs hb; clear HO_3; clear HB; have HO_3 := n0_; have HOU4 := n1_; have HB := n2_; clear n0_ n1_ n2_; (try clear hb); (try clear ho0); obtain ⟨Ao8, co8, eo8⟩ := Kd.R_slice HOU4.out; subst eo8) | ((with_reducible refine gate_builtin (b := .append) (xs := #[.tmp 11, .tmp 16]) rfl ?_); at_builtin; refine Kd.R_append_rows (Kd.int .u8) (w0 := w) w.heap.size rfl (.tmp 11) (.tmp 16) 83 5 (.int .u8 0) 1 rfl Tryd.underlying83 info5 rfl (by decide) (by omega) u3 x3_1 tU2 _ _ _ (fun k_ => some k_ ≠ (.slice Ao8 tU2.length co8 : Value).ownBlock) (fun _ => False) rfl rfl ?aO ?aR (fun _ _ h => h) (fun _ h => h.elim) ?aF ?aB ?aS ?aL ?_; (case aR => repeat (first | exact (Kd.R_reads' HOU4.out).2.2 | (with_reducible refine Kd.C_alloc ?_ _) | (with_reducible refine Kd.C_drewN ?_ _) | (with_reducible refine Kd.C_drew ?_))); (case aB => exact bel); (case aF => exact (fun k_ hk => Kd.fresh' (Kd.R_lt (rl HOU4)) k_ hk)); (case aO => exact (by (with_reducible repeat (first | apply Kd.R_alloc | apply Kd.R_drewN | apply Kd.R_drew)); exact Kd.R_mono HO_3.out (fun _ hk => hk.2))); (case aS => exact (below_size bel)); (case aL => have := LMc5.out; omega); intro vU6 w7 ho hb hg hat; rw [← NyU5.out] at ho; replace HOU4 := Aside0.mk (Kd.R_after (ok := (fun _ => True)) (rl HOU4) hg hat); replace HB := Aside0.mk (hb); have HOU7 := Aside0.mk (ho); clear HO_3; clear ho hb hg hat)); go_roundg k1
    case measure => have := HK1.out; omega
    case rel => exact ⟨(yU5), (wrap64 (x4_1 + 1)), si, H', ⟨by have := HK1.out; omega⟩, ⟨by (with_reducible repeat (first | apply Kd.R_alloc | apply Kd.R_drewN | apply Kd.R_drew)); exact Kd.R_mono HOU7.out (fun _ hk => trivial)⟩, ⟨bel⟩⟩
   ·rw [if_neg c2] at H; have c2b0 : decide (x4_1 < (l0.length : Int)) = false := decide_eq_false c2; clear c2; obtain rfl := Option.some.inj H; have hcv9 := own_string (P := Tryd.prog) Tryd.underlying83 Tryd.underlying5 Tryd.underlying9 (Kd.own_of_R HO_3.out); go_wp2; go_ret; exact ⟨fi, bel⟩
end Go.Proofs.YtcpbalnbgmjhjaaDoor.Q
