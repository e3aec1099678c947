-- Printed by hprint.py (this session's program over the kit's print) out of the translation; the parts 'by hand' are the session's own.
import Derived.Test.YtalogampkkjcdaaDoorPx0
import Derived.Test.YtalogampkkjcdaaDoorPx3
namespace Go.Proofs.YtalogampkkjcdaaDoor.P
open Go.RowKit Go.Proofs.YtalogampkkjcdaaDoorW.PrintWords Go.Proofs.YtalogampkkjcdaaDoorW.PrintLast Go.Proofs.YtalogampkkjcdaaDoorW.PrintMore
attribute [local go_sem] max2_int min2_int max_two min_two max_three min_three max_four min_four   -- for this text's walks alone
set_option linter.unusedVariables false
set_option linter.unusedSimpArgs false

/-! ### dist_Path: function 16: by hand -/
attribute [local go_sem] max2_int min2_int max_two min_two max_three min_three max_four min_four
theorem infoEdit : (Tryd.prog.info? 30).map (fun i => (i.zero, i.size, i.bytes)) = some (some (.agg #[(.int .i64 0), (.string ⟨#[]⟩)]), 2, 24) := by kernel_rfl
theorem infoIntP : (Tryd.prog.info? 3).map (fun i => (i.zero, i.size, i.bytes)) = some (some (.int .i64 0), 1, 8) := by kernel_rfl
theorem pws (x : Int) (h : -9223372036854775808 ≤ x) (h2 : x < 9223372036854775808) : wrap64 x = x := by
  unfold wrap64
  omega
theorem rdset_same (l : List Int) (p : Nat) (h : p < l.length) (v : Int) : rd (l.set p v) (p : Int) = v := by
  unfold rd
  rw [Int.toNat_natCast, List.getD_eq_getElem?_getD, List.getElem?_set, if_pos rfl, if_pos h]
  rfl
theorem rdset_ne (l : List Int) (p q : Nat) (h : p ≠ q) (v : Int) : rd (l.set p v) (q : Int) = rd l (q : Int) := by
  unfold rd
  rw [Int.toNat_natCast, List.getD_eq_getElem?_getD, List.getElem?_set, if_neg h, List.getD_eq_getElem?_getD]
theorem idx_lt {i n j w : Nat} (hi : i ≤ n) (hj : j < w) : i * w + j < (n + 1) * w := by
  have := Nat.mul_le_mul_right w hi
  rw [Nat.succ_mul]
  omega
theorem idx_inj {i p j q w : Nat} (hj : j < w) (hq : q < w) (h : i * w + j = p * w + q) : i = p ∧ j = q := by
  rcases Nat.lt_trichotomy i p with h1 | h1 | h1
  · have := Nat.mul_le_mul_right w h1
    rw [Nat.succ_mul] at this
    omega
  · subst h1
    omega
  · have := Nat.mul_le_mul_right w h1
    rw [Nat.succ_mul] at this
    omega
/-- The distance of what is left of two lists of pieces. -/
def pD (X Y : List ByteArray) (i j : Nat) : Int := (Lv.lev ((X.map (·.toList)).drop i) ((Y.map (·.toList)).drop j) : Nat)
theorem pD_endl (X Y : List ByteArray) (j : Nat) (h : j ≤ Y.length) : pD X Y X.length j = (Y.length : Int) - (j : Int) := by
  unfold pD
  rw [List.drop_of_length_le (by rw [List.length_map]; omega), Lv.lev_nil, List.length_drop, List.length_map]
  omega
theorem pD_endr (X Y : List ByteArray) (i : Nat) (h : i ≤ X.length) : pD X Y i Y.length = (X.length : Int) - (i : Int) := by
  unfold pD
  rw [List.drop_of_length_le (l := Y.map _) (by rw [List.length_map]; omega), Lv.lev_nil', List.length_drop, List.length_map]
  omega
theorem pD_small (X Y : List ByteArray) (hX : X.length ≤ 256) (hY : Y.length ≤ 256) (i j : Nat) : 0 ≤ pD X Y i j ∧ pD X Y i j ≤ 256 := by
  unfold pD
  have := Lv.lev_max ((X.map (·.toList)).drop i) ((Y.map (·.toList)).drop j)
  rw [List.length_drop, List.length_drop, List.length_map, List.length_map] at this
  omega
theorem pD_keep (X Y : List ByteArray) (i j : Nat) (hi : i < X.length) (hj : j < Y.length) (h : X[i].toList = Y[j].toList) : pD X Y i j = pD X Y (i + 1) (j + 1) := by
  unfold pD
  rw [List.drop_eq_getElem_cons (l := X.map _) (by rw [List.length_map]; exact hi), List.drop_eq_getElem_cons (l := Y.map _) (by rw [List.length_map]; exact hj), List.getElem_map, List.getElem_map, h, Lv.lev_keep]
theorem pD_swap (X Y : List ByteArray) (i j : Nat) (hi : i < X.length) (hj : j < Y.length) (h : X[i].toList ≠ Y[j].toList) : pD X Y i j = 1 + min (min (pD X Y (i + 1) j) (pD X Y i (j + 1))) (pD X Y (i + 1) (j + 1)) := by
  unfold pD
  have e1 := List.drop_eq_getElem_cons (l := X.map (·.toList)) (i := i) (by rw [List.length_map]; exact hi)
  have e2 := List.drop_eq_getElem_cons (l := Y.map (·.toList)) (i := j) (by rw [List.length_map]; exact hj)
  rw [List.getElem_map] at e1 e2
  rw [e1, e2, Lv.lev_swap _ _ h, ← e1, ← e2]
  omega
/-- The table is right from a place on. -/
def pTab (X Y : List ByteArray) (T : List Int) (s : Nat) : Prop := T.length = (X.length + 1) * (Y.length + 1) ∧ ∀ p q : Nat, p ≤ X.length → q ≤ Y.length → s ≤ p * (Y.length + 1) + q → rd T ((p * (Y.length + 1) + q : Nat) : Int) = pD X Y p q
theorem pTab_set {X Y : List ByteArray} {T : List Int} {i j s : Nat} (hi : i ≤ X.length) (hj : j ≤ Y.length) (hs : s = i * (Y.length + 1) + j) (h : pTab X Y T (s + 1)) (v : Int) (hv : v = pD X Y i j) : pTab X Y (T.set s v) s := by
  obtain ⟨h1, h2⟩ := h
  have hlt := idx_lt hi (Nat.lt_succ_of_le hj)
  refine ⟨by rw [List.length_set]; exact h1, fun p q hp hq hpq => ?_⟩
  by_cases e : s = p * (Y.length + 1) + q
  · obtain ⟨rfl, rfl⟩ := idx_inj (Nat.lt_succ_of_le hj) (Nat.lt_succ_of_le hq) (hs.symm.trans e)
    rw [← hs, rdset_same _ _ (by rw [h1, hs]; exact hlt), hv]
  · rw [rdset_ne _ _ _ e]
    exact h2 p q hp hq (by omega)
/-- The way that the program goes through what is left of both lists. -/
def pathL (X Y : List ByteArray) : Nat → Nat → Nat → List S30
  | 0, _, _ => []
  | f + 1, i, j =>
    if i < X.length ∧ j < Y.length ∧ (X.getD i ByteArray.empty).toList = (Y.getD j ByteArray.empty).toList then ⟨1, X.getD i ByteArray.empty⟩ :: pathL X Y f (i + 1) (j + 1)
    else if i < X.length ∧ j < Y.length ∧ pD X Y i j = pD X Y (i + 1) (j + 1) + 1 then ⟨2, Y.getD j ByteArray.empty⟩ :: pathL X Y f (i + 1) (j + 1)
    else if i < X.length ∧ pD X Y i j = pD X Y (i + 1) j + 1 then ⟨3, X.getD i ByteArray.empty⟩ :: pathL X Y f (i + 1) j
    else if j < Y.length then ⟨4, Y.getD j ByteArray.empty⟩ :: pathL X Y f i (j + 1) else []
theorem pathL_end (X Y : List ByteArray) (f i j : Nat) (h : ¬ (i < X.length ∨ j < Y.length)) : pathL X Y f i j = [] := by
  cases f with
  | zero => rfl
  | succ f => rw [pathL, if_neg (fun e => h (.inl e.1)), if_neg (fun e => h (.inl e.1)), if_neg (fun e => h (.inl e.1)), if_neg (fun e => h (.inr e))]
theorem pathL_len (X Y : List ByteArray) : ∀ f i j, (pathL X Y f i j).length ≤ f
  | 0, _, _ => Nat.le_refl _
  | f + 1, i, j => by
    unfold pathL
    (repeat' split) <;> first | (rw [List.length_cons]; have := pathL_len X Y f (i + 1) (j + 1); omega) | (rw [List.length_cons]; have := pathL_len X Y f (i + 1) j; omega) | (rw [List.length_cons]; have := pathL_len X Y f i (j + 1); omega) | exact Nat.zero_le _
set_option maxHeartbeats 8000000 in
set_option maxRecDepth 100000 in
theorem path_main (k : Nat) (a0 : ByteArray) (a1 : ByteArray) (X Y : List ByteArray) (hX : X.length ≤ 256) (hY : Y.length ≤ 256) (w : World) (hT : Lib.Utf8Tabs 0 1 w) (A3 : Aside0 (dist_both.f k a0 a1 = some (X, Y, 0))) :
    Calls Tryd.prog 16 #[.string a0, .string a1] w fun e w' => ∃ v0_ : Value, e = .returned (.tuple #[v0_, .int .i64 0]) ∧ Kd.R k30 30 w' w.heap.size (fun _ => True) v0_ (pathL X Y (X.length + Y.length) 0 0) ∧ Below w.heap.size w w' := by
  have hu30 := Tryd.underlying30
  have HT := Aside0.mk hT
  clear hT
  have HB := Aside0.mk (Below.refl w.heap.size w)
  have hXs := Aside0.mk hX
  have hYs := Aside0.mk hY
  have hmul : (X.length + 1) * (Y.length + 1) ≤ 257 * 257 := Nat.mul_le_mul (by omega) (by omega)
  have HMUL := Aside0.mk hmul
  obtain ⟨W, hW⟩ : ∃ W : Int, wrap64 ((Y.length : Int) + 1) = W := ⟨_, rfl⟩
  obtain ⟨N1, hN⟩ : ∃ N : Int, wrap64 ((X.length : Int) + 1) = N := ⟨_, rfl⟩
  obtain ⟨S, hS⟩ : ∃ S : Int, wrap64 (N1 * W) = S := ⟨_, rfl⟩
  have EW : Aside0 (W = ((Y.length + 1 : Nat) : Int)) := ⟨by rw [← hW, pws _ (by omega) (by omega)]; rfl⟩
  have EN : Aside0 (N1 = ((X.length + 1 : Nat) : Int)) := ⟨by rw [← hN, pws _ (by omega) (by omega)]; rfl⟩
  have ES : Aside0 (S = (((X.length + 1) * (Y.length + 1) : Nat) : Int)) := ⟨by rw [← hS, EN.out, EW.out, ← Int.natCast_mul]; exact pws _ (by omega) (by omega)⟩
  have HS0 : Aside0 (0 ≤ S) := ⟨by rw [ES.out]; omega⟩
  have HS1 : Aside0 (S.toNat ≤ 35184372088832) := ⟨by rw [ES.out, Int.toNat_natCast]; omega⟩
  obtain ⟨T0, hT0⟩ : ∃ T : List Int, T = List.replicate S.toNat 0 := ⟨_, rfl⟩
  have NT0 := Aside0.mk hT0
  have LT0 : Aside0 (T0.length = (X.length + 1) * (Y.length + 1)) := ⟨by rw [hT0, List.length_replicate, ES.out, Int.toNat_natCast]⟩
  clear hX hY hmul EN hT0
  have hWw : IntKind.i64.wrap ((Y.length : Int) + 1) = W := (i64_w _).trans hW
  have hNw : IntKind.i64.wrap ((X.length : Int) + 1) = N1 := (i64_w _).trans hN
  have hSw : IntKind.i64.wrap (N1 * W) = S := (i64_w _).trans hS
  go_enter Tryd.func16, Tryd.ntmps16
  go_wp2_with (first | ((with_reducible refine gate_callee (f := 34) rfl ?_); refine goesL_ (some 21) rfl rfl Tryd.func34 (by kernel_rfl) rfl #[.string a0, .string a1] rfl (by (try simp only [List.map_toArray, List.map_cons, List.map_nil]); first | done | rfl | (simp only [List.length_drop, List.length_take]; rfl)) ?_; (with_reducible refine (dist_both.calls k a0 a1 X Y 0 _ ?side1 A3.out).mono ?_); (case side1 => exact Utf.tabs_step HT.out (by repeat (first | (with_reducible first | exact HB.out | apply below_alloc | apply pw_below_drewN | apply below_drew1) | exact HB.out))); rintro e w8 ⟨v118, v120, rfl, ho0, ho1, hb⟩; refine ⟨_, rfl, ?_⟩; have n0_ := Aside0.mk (Kd.R_lower ho0 (below_size (by repeat (first | (with_reducible first | exact HB.out | apply below_alloc | apply pw_below_drewN | apply below_drew1) | exact HB.out)))); have n1_ := Aside0.mk (Kd.R_lower ho1 (below_size (by repeat (first | (with_reducible first | exact HB.out | apply below_alloc | apply pw_below_drewN | apply below_drew1) | exact HB.out)))); have n2_ := Aside0.mk (below_step (by repeat (first | (with_reducible first | exact HB.out | apply below_alloc | apply pw_below_drewN | apply below_drew1) | exact HB.out)) hb); clear HB; have HO6 := n0_; have HO7 := n1_; have HB := n2_; clear n0_ n1_ n2_ hb ho0 ho1; obtain ⟨A7, c7, e7⟩ := Kd.R_slice HO7.out; subst e7; obtain ⟨A6, c6, e6⟩ := Kd.R_slice HO6.out; subst e6) | ((with_reducible refine gate_dst (N := 36) rfl ?_); refine Kd.R_make (Kd.int .i64) _ 3 rfl (N := 36) rfl 68 _ _ rfl S rfl rfl Tryd.underlying68 (.int .i64 0) 8 infoIntP rfl (by decide) (by omega) 0 (ok := fun _ => True) (okp := fun _ => True) rfl (fun _ hk => hk) trivial HS0.out (Nat.le_trans (Nat.mul_le_mul_right _ HS1.out) (by omega)) (Below.refl _ _) (Nat.le_refl _) ?_; intro v123 w11 ho12 hb hg_ hnew_; clear hg_ hnew_; rw [← NT0.out] at ho12; have n0_ := Aside0.mk (Kd.R_below (by (with_reducible repeat (first | apply Kd.R_alloc | apply Kd.R_drewN | apply Kd.R_drew)); exact HO6.out) hb); have n1_ := Aside0.mk (Kd.R_below (by (with_reducible repeat (first | apply Kd.R_alloc | apply Kd.R_drewN | apply Kd.R_drew)); exact HO7.out) hb); have n2_ := Aside0.mk (Kd.R_lower ho12 (below_size (by repeat (first | (with_reducible first | exact HB.out | apply below_alloc | apply pw_below_drewN | apply below_drew1) | exact HB.out)))); have n3_ := Aside0.mk (below_step (by repeat (first | (with_reducible first | exact HB.out | apply below_alloc | apply pw_below_drewN | apply below_drew1) | exact HB.out)) hb); clear HO6 HO7 HB; have HO6 := n0_; have HO7 := n1_; have HO10 := n2_; have HB := n3_; clear n0_ n1_ n2_ n3_ hb ho12; obtain ⟨A10, c10, e10⟩ := Kd.R_slice HO10.out; subst e10))
  clear hS hSw hN hNw HS0 HS1
  go_loopw [11] (fun v11 wr => ∃ (I : Nat) (Iv : Int) (T : List Int), v11 = .int .i64 Iv ∧ Aside0 (Iv = (I : Int) - 1) ∧ Aside0 (I ≤ X.length + 1) ∧ Aside0 (pTab X Y T (I * (Y.length + 1))) ∧ Aside0 (Kd.R Kd.string 9 wr w.heap.size (fun k_ => some k_ ≠ (Value.slice A7 Y.length c7).ownBlock) (.slice A6 X.length c6) X) ∧ Aside0 (Kd.R Kd.string 9 wr w.heap.size (fun k_ => some k_ ≠ (Value.slice A6 X.length c6).ownBlock) (.slice A7 Y.length c7) Y) ∧ Aside0 (Kd.R (Kd.int .i64) 3 wr w.heap.size (fun _ => True) (.slice A10 T0.length c10) T) ∧ Aside0 (Below w.heap.size w wr)) (fun v11 _ => (intOf v11 + 1).toNat)
  case atStart => exact ⟨X.length + 1, _, T0, rfl, ⟨by omega⟩, ⟨Nat.le_refl _⟩, ⟨⟨LT0.out, fun p q hp hq h => by exact absurd (idx_lt hp (Nat.lt_succ_of_le hq)) (Nat.not_lt.2 h)⟩⟩, HO6, HO7, HO10, HB⟩
  case round =>
    obtain ⟨I, Iv, T, rfl, EI, HI, HTb, HO6, HO7, HO10, HB⟩ := hrel
    by_cases hI0 : I = 0
    · have c1 : decide (Iv ≥ 0) = false := decide_eq_false (by have := EI.out; omega)
      have c1b : decide (0 ≤ Iv) = false := c1
      have HTT : Aside0 (pTab X Y T 0) := ⟨by have := HTb.out; rw [hI0, Nat.zero_mul] at this; exact this⟩
      clear hI0
      go_wp2
      go_loopw [14, 15, 16] (fun v14 v15 v16 wr => ∃ (f i j : Nat) (Iv Jv : Int) (acc : List S30), v15 = .int .i64 Iv ∧ v16 = .int .i64 Jv ∧ Aside0 (Iv = (i : Int)) ∧ Aside0 (Jv = (j : Int)) ∧ Aside0 (i ≤ X.length) ∧ Aside0 (j ≤ Y.length) ∧ Aside0 (X.length + Y.length ≤ f + i + j) ∧ Aside0 (acc ++ pathL X Y f i j = pathL X Y (X.length + Y.length) 0 0) ∧ Aside0 (Kd.R k30 30 wr w.heap.size (fun _ => True) v14 acc) ∧ Aside0 (Kd.R Kd.string 9 wr w.heap.size (fun k_ => some k_ ≠ (Value.slice A7 Y.length c7).ownBlock) (.slice A6 X.length c6) X) ∧ Aside0 (Kd.R Kd.string 9 wr w.heap.size (fun k_ => some k_ ≠ (Value.slice A6 X.length c6).ownBlock) (.slice A7 Y.length c7) Y) ∧ Aside0 (Kd.R (Kd.int .i64) 3 wr w.heap.size (fun _ => True) (.slice A10 T0.length c10) T) ∧ Aside0 (Below w.heap.size w wr)) (fun _ v15 v16 _ => (X.length - (intOf v15).toNat) + (Y.length - (intOf v16).toNat))
      case atStart => exact ⟨X.length + Y.length, 0, 0, 0, 0, [], rfl, rfl, ⟨rfl⟩, ⟨rfl⟩, ⟨Nat.zero_le _⟩, ⟨Nat.zero_le _⟩, ⟨by omega⟩, ⟨rfl⟩, ⟨Kd.R_nil _ _ _ _ _⟩, HO6, HO7, HO10, HB⟩
      case round =>
        clear HTb HO6 HO7 HO10 HB
        obtain ⟨f0, i, j, Iv, Jv, acc, rfl, rfl, EI, EJ, Hi, Hj, HF0, HA, HO14, HO6, HO7, HO10, HB⟩ := hrel
        have LM : Aside0 (acc.length ≤ 512) := ⟨by have := congrArg List.length HA.out; rw [List.length_append] at this; have := pathL_len X Y (X.length + Y.length) 0 0; have := hXs.out; have := hYs.out; omega⟩
        by_cases hij : i < X.length ∨ j < Y.length
        · obtain ⟨f, rfl⟩ : ∃ f, f0 = f + 1 := ⟨f0 - 1, by have := HF0.out; have := Hi.out; have := Hj.out; omega⟩
          have HF : Aside0 (X.length + Y.length ≤ f + 1 + i + j) := HF0
          clear HF0
          obtain ⟨M0, hM0⟩ : ∃ x : Int, wrap64 (Iv * W) = x := ⟨_, rfl⟩
          have hM0w : IntKind.i64.wrap (Iv * W) = M0 := (i64_w _).trans hM0
          obtain ⟨P, hP⟩ : ∃ x : Int, wrap64 (M0 + Jv) = x := ⟨_, rfl⟩
          have hPw : IntKind.i64.wrap (M0 + Jv) = P := (i64_w _).trans hP
          obtain ⟨s, hs⟩ : ∃ s, i * (Y.length + 1) + j = s := ⟨_, rfl⟩
          have HSe := Aside0.mk hs
          have BBP : Aside0 (s < (X.length + 1) * (Y.length + 1)) := ⟨by rw [← hs]; exact idx_lt Hi.out (Nat.lt_succ_of_le Hj.out)⟩
          have EM : Aside0 (M0 = ((i * (Y.length + 1) : Nat) : Int)) := ⟨by rw [← hM0, EI.out, EW.out, ← Int.natCast_mul]; exact pws _ (by omega) (by have := BBP.out; have := HMUL.out; omega)⟩
          have EP : Aside0 (P = (s : Int)) := ⟨by rw [← hP, EM.out, EJ.out, ← Int.natCast_add, hs]; exact pws _ (by omega) (by have := BBP.out; have := HMUL.out; omega)⟩
          have GP : Aside0 (rd T P = pD X Y i j) := ⟨by have := HTT.out.2 i j Hi.out Hj.out (Nat.zero_le _); rw [HSe.out, ← EP.out] at this; exact this⟩
          clear hs
          have LT : Aside0 (0 < T.length) := ⟨by rw [HTT.out.1]; have := BBP.out; omega⟩
          obtain ⟨go, co, eo, gb, gl, cl, HG⟩ := Kd.R_form HO10.out LT.out
          have ec := (Kd.R_reads' HO10.out).1
          rw [← ec] at eo
          clear ec gl gb HG
          cases eo
          obtain ⟨D0, hD_⟩ : ∃ x : Int, rd T P = x := ⟨_, rfl⟩
          have lP : 0 ≤ P := by have := EP.out; omega
          have uP : P < (T0.length : Int) := by rw [LT0.out, EP.out]; exact Int.ofNat_lt.2 BBP.out
          have hxP : wr.cell? ⟨go, P.toNat, none⟩ = some (.int .i64 D0) := by have := (Kd.R_celln 0 HO10.out P lP uP).1; rw [← hD_]; exact this
          rw [hD_] at GP
          clear hD_
          replace lP := eq_true lP
          replace uP := eq_true uP
          by_cases hi : i < X.length
          · have HIL := Aside0.mk hi
            have c1 : decide (Iv < (X.length : Int)) = true := decide_eq_true (by rw [EI.out]; exact Int.ofNat_lt.2 hi)
            have i0 : 0 ≤ Iv := by have := EI.out; omega
            have i1 : Iv < (X.length : Int) := by rw [EI.out]; exact Int.ofNat_lt.2 HIL.out
            obtain ⟨ad6, e6, hs6⟩ := Kd.at_string (Kd.R_reads' HO6.out).2.2 Iv i0 i1
            subst e6
            have ES6 : Aside0 (rdOf ByteArray.empty X Iv = X.getD i ByteArray.empty) := ⟨by rw [EI.out]; unfold rdOf; rw [Int.toNat_natCast]⟩
            obtain ⟨SX, hSX⟩ : ∃ x, rdOf ByteArray.empty X Iv = x := ⟨_, rfl⟩
            rw [hSX] at hs6 ES6
            clear hSX
            replace i0 := eq_true i0
            replace i1 := eq_true i1
            obtain ⟨I3, hI3⟩ : ∃ x : Int, wrap64 (Iv + 1) = x := ⟨_, rfl⟩
            have hI3w : IntKind.i64.wrap (Iv + 1) = I3 := (i64_w _).trans hI3
            have EI3 : Aside0 (I3 = ((i + 1 : Nat) : Int)) := ⟨by rw [← hI3, EI.out, pws _ (by omega) (by have := Hi.out; have := hXs.out; omega)]; rfl⟩
            have I1 : Aside0 ((i + 1) * (Y.length + 1) = i * (Y.length + 1) + (Y.length + 1)) := ⟨Nat.succ_mul _ _⟩
            obtain ⟨Q1, hQ1⟩ : ∃ x : Int, wrap64 (P + W) = x := ⟨_, rfl⟩
            have hQ1w : IntKind.i64.wrap (P + W) = Q1 := (i64_w _).trans hQ1
            have BBQ1 : Aside0 (s + (Y.length + 1) < (X.length + 1) * (Y.length + 1)) := ⟨by have := idx_lt (w := Y.length + 1) (j := j) (show i + 1 ≤ X.length from HIL.out) (Nat.lt_succ_of_le Hj.out); have := I1.out; have := HSe.out; omega⟩
            have EQ1 : Aside0 (Q1 = ((s + (Y.length + 1) : Nat) : Int)) := ⟨by rw [← hQ1, EP.out, EW.out, ← Int.natCast_add]; exact pws _ (by omega) (by have := BBQ1.out; have := HMUL.out; omega)⟩
            have GQ1 : Aside0 (rd T Q1 = pD X Y (i + 1) j) := ⟨by have := HTT.out.2 (i + 1) j HIL.out Hj.out (Nat.zero_le _); rw [I1.out, Nat.add_right_comm, HSe.out, ← EQ1.out] at this; exact this⟩
            obtain ⟨D1, hD_⟩ : ∃ x : Int, rd T Q1 = x := ⟨_, rfl⟩
            have lQ1 : 0 ≤ Q1 := by have := EQ1.out; omega
            have uQ1 : Q1 < (T0.length : Int) := by rw [LT0.out, EQ1.out]; exact Int.ofNat_lt.2 BBQ1.out
            have hxQ1 : wr.cell? ⟨go, Q1.toNat, none⟩ = some (.int .i64 D1) := by have := (Kd.R_celln 0 HO10.out Q1 lQ1 uQ1).1; rw [← hD_]; exact this
            rw [hD_] at GQ1
            clear hD_
            replace lQ1 := eq_true lQ1
            replace uQ1 := eq_true uQ1
            obtain ⟨E1, hE1⟩ : ∃ x : Int, wrap64 (D1 + 1) = x := ⟨_, rfl⟩
            have hE1w : IntKind.i64.wrap (D1 + 1) = E1 := (i64_w _).trans hE1
            have EE1 : Aside0 (E1 = pD X Y (i + 1) j + 1) := ⟨by rw [← hE1, GQ1.out]; have b1 := pD_small X Y hXs.out hYs.out (i + 1) j; exact pws _ (by omega) (by omega)⟩
            by_cases hj : j < Y.length
            · have HJL := Aside0.mk hj
              have c2 : decide (Jv < (Y.length : Int)) = true := decide_eq_true (by rw [EJ.out]; exact Int.ofNat_lt.2 hj)
              have j0 : 0 ≤ Jv := by have := EJ.out; omega
              have j1 : Jv < (Y.length : Int) := by rw [EJ.out]; exact Int.ofNat_lt.2 HJL.out
              obtain ⟨ad7, e7, hs7⟩ := Kd.at_string (Kd.R_reads' HO7.out).2.2 Jv j0 j1
              subst e7
              have ES7 : Aside0 (rdOf ByteArray.empty Y Jv = Y.getD j ByteArray.empty) := ⟨by rw [EJ.out]; unfold rdOf; rw [Int.toNat_natCast]⟩
              obtain ⟨SY, hSY⟩ : ∃ x, rdOf ByteArray.empty Y Jv = x := ⟨_, rfl⟩
              rw [hSY] at hs7 ES7
              clear hSY
              replace j0 := eq_true j0
              replace j1 := eq_true j1
              obtain ⟨J3, hJ3⟩ : ∃ x : Int, wrap64 (Jv + 1) = x := ⟨_, rfl⟩
              have hJ3w : IntKind.i64.wrap (Jv + 1) = J3 := (i64_w _).trans hJ3
              have EJ3 : Aside0 (J3 = ((j + 1 : Nat) : Int)) := ⟨by rw [← hJ3, EJ.out, pws _ (by omega) (by have := Hj.out; have := hYs.out; omega)]; rfl⟩
              obtain ⟨Q3, hQ3⟩ : ∃ x : Int, wrap64 (Q1 + 1) = x := ⟨_, rfl⟩
              have hQ3w : IntKind.i64.wrap (Q1 + 1) = Q3 := (i64_w _).trans hQ3
              have BBQ3 : Aside0 (s + (Y.length + 1) + 1 < (X.length + 1) * (Y.length + 1)) := ⟨by have := idx_lt (w := Y.length + 1) (j := j + 1) (show i + 1 ≤ X.length from HIL.out) (by have := HJL.out; omega); have := I1.out; have := HSe.out; omega⟩
              have EQ3 : Aside0 (Q3 = ((s + (Y.length + 1) + 1 : Nat) : Int)) := ⟨by rw [← hQ3, EQ1.out, pws _ (by omega) (by have := BBQ3.out; have := HMUL.out; omega)]; rfl⟩
              have GQ3 : Aside0 (rd T Q3 = pD X Y (i + 1) (j + 1)) := ⟨by have := HTT.out.2 (i + 1) (j + 1) HIL.out HJL.out (Nat.zero_le _); rw [I1.out, ← Nat.add_assoc, Nat.add_right_comm (i * _), HSe.out, ← EQ3.out] at this; exact this⟩
              obtain ⟨D3, hD_⟩ : ∃ x : Int, rd T Q3 = x := ⟨_, rfl⟩
              have lQ3 : 0 ≤ Q3 := by have := EQ3.out; omega
              have uQ3 : Q3 < (T0.length : Int) := by rw [LT0.out, EQ3.out]; exact Int.ofNat_lt.2 BBQ3.out
              have hxQ3 : wr.cell? ⟨go, Q3.toNat, none⟩ = some (.int .i64 D3) := by have := (Kd.R_celln 0 HO10.out Q3 lQ3 uQ3).1; rw [← hD_]; exact this
              rw [hD_] at GQ3
              clear hD_
              replace lQ3 := eq_true lQ3
              replace uQ3 := eq_true uQ3
              obtain ⟨E3, hE3⟩ : ∃ x : Int, wrap64 (D3 + 1) = x := ⟨_, rfl⟩
              have hE3w : IntKind.i64.wrap (D3 + 1) = E3 := (i64_w _).trans hE3
              have EE3 : Aside0 (E3 = pD X Y (i + 1) (j + 1) + 1) := ⟨by rw [← hE3, GQ3.out]; have b1 := pD_small X Y hXs.out hYs.out (i + 1) (j + 1); exact pws _ (by omega) (by omega)⟩
              clear hij hi hj
              by_cases hsame : SX.toList = SY.toList
              · have hb1 : (SX.toList == SY.toList) = true := beq_iff_eq.2 hsame
                have HA2 : Aside0 ((acc ++ [(⟨1, SX⟩ : S30)]) ++ pathL X Y f (i + 1) (j + 1) = pathL X Y (X.length + Y.length) 0 0) := ⟨by have := HA.out; rw [pathL] at this; rw [if_pos ⟨HIL.out, HJL.out, by rw [← ES6.out, ← ES7.out]; exact hsame⟩] at this; rw [← this, ES6.out]; simp⟩
                clear hsame
                go_wp2
                go_quiet (fail)
                go_wp2_with ((with_reducible refine gate_builtin (b := .append) (xs := #[.tmp 165, .tmp 171]) rfl ?_); at_builtin; refine Kd.R_append k30 (w0 := w) w.heap.size rfl (.tmp 165) (.tmp 171) 23 30 (.agg #[(.int .i64 0), (.string ⟨#[]⟩)]) 24 rfl Tryd.underlying23 infoEdit rfl (by decide) (by omega) u14 acc (⟨1, SX⟩ : S30) [.int .i64 1, .string SX] (fun _ => True) (fun _ => False) rfl rfl ?aP (fun _ hk => hk.elim) ?aF ?aO ?aB ?aS ?aL ?_; (case aP => exact k30_mkM _ _ _ (⟨1, SX⟩ : S30)); (case aB => exact (by repeat (first | (with_reducible first | exact HB.out | apply below_alloc | apply pw_below_drewN | apply below_drew1) | exact HB.out))); (case aF => exact (fun _ _ => trivial)); (case aO => exact (by (with_reducible repeat (first | apply Kd.R_alloc | apply Kd.R_drewN | apply Kd.R_drew)); exact HO14.out)); (case aS => exact (below_size (by repeat (first | (with_reducible first | exact HB.out | apply below_alloc | apply pw_below_drewN | apply below_drew1) | exact HB.out)))); (case aL => have := LM.out; omega); intro v138 w72 ho hb hg hat; have n0_ := Aside0.mk (Kd.R_over' (by (with_reducible repeat (first | apply Kd.R_alloc | apply Kd.R_drewN | apply Kd.R_drew)); exact HO6.out) (Kd.R_typed (by (with_reducible repeat (first | apply Kd.R_alloc | apply Kd.R_drewN | apply Kd.R_drew)); exact HO14.out)) (by decide) hg); have n1_ := Aside0.mk (Kd.R_over' (by (with_reducible repeat (first | apply Kd.R_alloc | apply Kd.R_drewN | apply Kd.R_drew)); exact HO7.out) (Kd.R_typed (by (with_reducible repeat (first | apply Kd.R_alloc | apply Kd.R_drewN | apply Kd.R_drew)); exact HO14.out)) (by decide) hg); have n2_ := Aside0.mk (Kd.R_over' (by (with_reducible repeat (first | apply Kd.R_alloc | apply Kd.R_drewN | apply Kd.R_drew)); exact HO10.out) (Kd.R_typed (by (with_reducible repeat (first | apply Kd.R_alloc | apply Kd.R_drewN | apply Kd.R_drew)); exact HO14.out)) (by decide) hg); have n3_ := Aside0.mk hb; have n4_ := Aside0.mk ho; clear HO6 HO7 HO10 HB HO14; have HO6 := n0_; have HO7 := n1_; have HO10 := n2_; have HB := n3_; have HO14 := n4_; clear n0_ n1_ n2_ n3_ n4_ ho hb hg hat)
                go_roundw
                case rel => exact ⟨f, i + 1, j + 1, I3, J3, _, rfl, rfl, EI3, EJ3, ⟨by have := Hi.out; have := Hj.out; have := HIL.out; omega⟩, ⟨by have := Hi.out; have := Hj.out; have := HJL.out; omega⟩, ⟨by have := HF.out; omega⟩, HA2, HO14, HO6, HO7, HO10, HB⟩
                case measure => have := EI.out; have := EJ.out; have := EI3.out; have := EJ3.out; have := Hi.out; have := Hj.out; have := HIL.out; have := HJL.out; simp [intOf]; omega
              · have hb1 : (SX.toList == SY.toList) = false := beq_eq_false_iff_ne.2 hsame
                have HN1 : Aside0 (¬ (i < X.length ∧ j < Y.length ∧ (X.getD i ByteArray.empty).toList = (Y.getD j ByteArray.empty).toList)) := ⟨fun h => hsame (by rw [ES6.out, ES7.out]; exact h.2.2)⟩
                clear hsame
                by_cases hsw : D0 = E3
                · have hb3 : (D0 == E3) = true := beq_iff_eq.2 hsw
                  have HA2 : Aside0 ((acc ++ [(⟨2, SY⟩ : S30)]) ++ pathL X Y f (i + 1) (j + 1) = pathL X Y (X.length + Y.length) 0 0) := ⟨by have := HA.out; rw [pathL] at this; rw [if_neg HN1.out, if_pos ⟨HIL.out, HJL.out, by rw [← GP.out, ← EE3.out]; exact hsw⟩] at this; rw [← this, ES7.out]; simp⟩
                  clear hsw
                  go_wp2
                  go_quiet (fail)
                  go_wp2
                  go_quiet (fail)
                  go_wp2_with ((with_reducible refine gate_builtin (b := .append) (xs := #[.tmp 203, .tmp 209]) rfl ?_); at_builtin; refine Kd.R_append k30 (w0 := w) w.heap.size rfl (.tmp 203) (.tmp 209) 23 30 (.agg #[(.int .i64 0), (.string ⟨#[]⟩)]) 24 rfl Tryd.underlying23 infoEdit rfl (by decide) (by omega) u14 acc (⟨2, SY⟩ : S30) [.int .i64 2, .string SY] (fun _ => True) (fun _ => False) rfl rfl ?aP (fun _ hk => hk.elim) ?aF ?aO ?aB ?aS ?aL ?_; (case aP => exact k30_mkM _ _ _ (⟨2, SY⟩ : S30)); (case aB => exact (by repeat (first | (with_reducible first | exact HB.out | apply below_alloc | apply pw_below_drewN | apply below_drew1) | exact HB.out))); (case aF => exact (fun _ _ => trivial)); (case aO => exact (by (with_reducible repeat (first | apply Kd.R_alloc | apply Kd.R_drewN | apply Kd.R_drew)); exact HO14.out)); (case aS => exact (below_size (by repeat (first | (with_reducible first | exact HB.out | apply below_alloc | apply pw_below_drewN | apply below_drew1) | exact HB.out)))); (case aL => have := LM.out; omega); intro v138 w72 ho hb hg hat; have n0_ := Aside0.mk (Kd.R_over' (by (with_reducible repeat (first | apply Kd.R_alloc | apply Kd.R_drewN | apply Kd.R_drew)); exact HO6.out) (Kd.R_typed (by (with_reducible repeat (first | apply Kd.R_alloc | apply Kd.R_drewN | apply Kd.R_drew)); exact HO14.out)) (by decide) hg); have n1_ := Aside0.mk (Kd.R_over' (by (with_reducible repeat (first | apply Kd.R_alloc | apply Kd.R_drewN | apply Kd.R_drew)); exact HO7.out) (Kd.R_typed (by (with_reducible repeat (first | apply Kd.R_alloc | apply Kd.R_drewN | apply Kd.R_drew)); exact HO14.out)) (by decide) hg); have n2_ := Aside0.mk (Kd.R_over' (by (with_reducible repeat (first | apply Kd.R_alloc | apply Kd.R_drewN | apply Kd.R_drew)); exact HO10.out) (Kd.R_typed (by (with_reducible repeat (first | apply Kd.R_alloc | apply Kd.R_drewN | apply Kd.R_drew)); exact HO14.out)) (by decide) hg); have n3_ := Aside0.mk hb; have n4_ := Aside0.mk ho; clear HO6 HO7 HO10 HB HO14; have HO6 := n0_; have HO7 := n1_; have HO10 := n2_; have HB := n3_; have HO14 := n4_; clear n0_ n1_ n2_ n3_ n4_ ho hb hg hat)
                  go_roundw
                  case rel => exact ⟨f, i + 1, j + 1, I3, J3, _, rfl, rfl, EI3, EJ3, ⟨by have := Hi.out; have := Hj.out; have := HIL.out; omega⟩, ⟨by have := Hi.out; have := Hj.out; have := HJL.out; omega⟩, ⟨by have := HF.out; omega⟩, HA2, HO14, HO6, HO7, HO10, HB⟩
                  case measure => have := EI.out; have := EJ.out; have := EI3.out; have := EJ3.out; have := Hi.out; have := Hj.out; have := HIL.out; have := HJL.out; simp [intOf]; omega
                · have hb3 : (D0 == E3) = false := beq_eq_false_iff_ne.2 hsw
                  have HN2 : Aside0 (¬ (i < X.length ∧ j < Y.length ∧ pD X Y i j = pD X Y (i + 1) (j + 1) + 1)) := ⟨fun h => hsw (by rw [GP.out, EE3.out]; exact h.2.2)⟩
                  clear hsw
                  by_cases hct : D0 = E1
                  · have hb4 : (D0 == E1) = true := beq_iff_eq.2 hct
                    have HA2 : Aside0 ((acc ++ [(⟨3, SX⟩ : S30)]) ++ pathL X Y f (i + 1) (j) = pathL X Y (X.length + Y.length) 0 0) := ⟨by have := HA.out; rw [pathL] at this; rw [if_neg HN1.out, if_neg HN2.out, if_pos ⟨HIL.out, by rw [← GP.out, ← EE1.out]; exact hct⟩] at this; rw [← this, ES6.out]; simp⟩
                    clear hct
                    go_wp2
                    go_quiet (fail)
                    go_wp2
                    go_quiet (fail)
                    go_wp2
                    go_quiet (fail)
                    go_wp2_with ((with_reducible refine gate_builtin (b := .append) (xs := #[.tmp 234, .tmp 240]) rfl ?_); at_builtin; refine Kd.R_append k30 (w0 := w) w.heap.size rfl (.tmp 234) (.tmp 240) 23 30 (.agg #[(.int .i64 0), (.string ⟨#[]⟩)]) 24 rfl Tryd.underlying23 infoEdit rfl (by decide) (by omega) u14 acc (⟨3, SX⟩ : S30) [.int .i64 3, .string SX] (fun _ => True) (fun _ => False) rfl rfl ?aP (fun _ hk => hk.elim) ?aF ?aO ?aB ?aS ?aL ?_; (case aP => exact k30_mkM _ _ _ (⟨3, SX⟩ : S30)); (case aB => exact (by repeat (first | (with_reducible first | exact HB.out | apply below_alloc | apply pw_below_drewN | apply below_drew1) | exact HB.out))); (case aF => exact (fun _ _ => trivial)); (case aO => exact (by (with_reducible repeat (first | apply Kd.R_alloc | apply Kd.R_drewN | apply Kd.R_drew)); exact HO14.out)); (case aS => exact (below_size (by repeat (first | (with_reducible first | exact HB.out | apply below_alloc | apply pw_below_drewN | apply below_drew1) | exact HB.out)))); (case aL => have := LM.out; omega); intro v138 w72 ho hb hg hat; have n0_ := Aside0.mk (Kd.R_over' (by (with_reducible repeat (first | apply Kd.R_alloc | apply Kd.R_drewN | apply Kd.R_drew)); exact HO6.out) (Kd.R_typed (by (with_reducible repeat (first | apply Kd.R_alloc | apply Kd.R_drewN | apply Kd.R_drew)); exact HO14.out)) (by decide) hg); have n1_ := Aside0.mk (Kd.R_over' (by (with_reducible repeat (first | apply Kd.R_alloc | apply Kd.R_drewN | apply Kd.R_drew)); exact HO7.out) (Kd.R_typed (by (with_reducible repeat (first | apply Kd.R_alloc | apply Kd.R_drewN | apply Kd.R_drew)); exact HO14.out)) (by decide) hg); have n2_ := Aside0.mk (Kd.R_over' (by (with_reducible repeat (first | apply Kd.R_alloc | apply Kd.R_drewN | apply Kd.R_drew)); exact HO10.out) (Kd.R_typed (by (with_reducible repeat (first | apply Kd.R_alloc | apply Kd.R_drewN | apply Kd.R_drew)); exact HO14.out)) (by decide) hg); have n3_ := Aside0.mk hb; have n4_ := Aside0.mk ho; clear HO6 HO7 HO10 HB HO14; have HO6 := n0_; have HO7 := n1_; have HO10 := n2_; have HB := n3_; have HO14 := n4_; clear n0_ n1_ n2_ n3_ n4_ ho hb hg hat)
                    go_roundw
                    case rel => exact ⟨f, i + 1, j, I3, Jv, _, rfl, rfl, EI3, EJ, ⟨by have := Hi.out; have := Hj.out; have := HIL.out; omega⟩, ⟨by have := Hi.out; have := Hj.out;  omega⟩, ⟨by have := HF.out; omega⟩, HA2, HO14, HO6, HO7, HO10, HB⟩
                    case measure => have := EI.out; have := EJ.out; have := EI3.out;  have := Hi.out; have := Hj.out; have := HIL.out;  simp [intOf]; omega
                  · have hb4 : (D0 == E1) = false := beq_eq_false_iff_ne.2 hct
                    have HA2 : Aside0 ((acc ++ [(⟨4, SY⟩ : S30)]) ++ pathL X Y f (i) (j + 1) = pathL X Y (X.length + Y.length) 0 0) := ⟨by have := HA.out; rw [pathL] at this; rw [if_neg HN1.out, if_neg HN2.out, if_neg (fun h => hct (by rw [GP.out, EE1.out]; exact h.2)), if_pos HJL.out] at this; rw [← this, ES7.out]; simp⟩
                    clear hct
                    go_wp2
                    go_quiet (fail)
                    go_wp2
                    go_quiet (fail)
                    go_wp2
                    go_quiet (fail)
                    go_wp2_with ((with_reducible refine gate_builtin (b := .append) (xs := #[.tmp 133, .tmp 139]) rfl ?_); at_builtin; refine Kd.R_append k30 (w0 := w) w.heap.size rfl (.tmp 133) (.tmp 139) 23 30 (.agg #[(.int .i64 0), (.string ⟨#[]⟩)]) 24 rfl Tryd.underlying23 infoEdit rfl (by decide) (by omega) u14 acc (⟨4, SY⟩ : S30) [.int .i64 4, .string SY] (fun _ => True) (fun _ => False) rfl rfl ?aP (fun _ hk => hk.elim) ?aF ?aO ?aB ?aS ?aL ?_; (case aP => exact k30_mkM _ _ _ (⟨4, SY⟩ : S30)); (case aB => exact (by repeat (first | (with_reducible first | exact HB.out | apply below_alloc | apply pw_below_drewN | apply below_drew1) | exact HB.out))); (case aF => exact (fun _ _ => trivial)); (case aO => exact (by (with_reducible repeat (first | apply Kd.R_alloc | apply Kd.R_drewN | apply Kd.R_drew)); exact HO14.out)); (case aS => exact (below_size (by repeat (first | (with_reducible first | exact HB.out | apply below_alloc | apply pw_below_drewN | apply below_drew1) | exact HB.out)))); (case aL => have := LM.out; omega); intro v138 w72 ho hb hg hat; have n0_ := Aside0.mk (Kd.R_over' (by (with_reducible repeat (first | apply Kd.R_alloc | apply Kd.R_drewN | apply Kd.R_drew)); exact HO6.out) (Kd.R_typed (by (with_reducible repeat (first | apply Kd.R_alloc | apply Kd.R_drewN | apply Kd.R_drew)); exact HO14.out)) (by decide) hg); have n1_ := Aside0.mk (Kd.R_over' (by (with_reducible repeat (first | apply Kd.R_alloc | apply Kd.R_drewN | apply Kd.R_drew)); exact HO7.out) (Kd.R_typed (by (with_reducible repeat (first | apply Kd.R_alloc | apply Kd.R_drewN | apply Kd.R_drew)); exact HO14.out)) (by decide) hg); have n2_ := Aside0.mk (Kd.R_over' (by (with_reducible repeat (first | apply Kd.R_alloc | apply Kd.R_drewN | apply Kd.R_drew)); exact HO10.out) (Kd.R_typed (by (with_reducible repeat (first | apply Kd.R_alloc | apply Kd.R_drewN | apply Kd.R_drew)); exact HO14.out)) (by decide) hg); have n3_ := Aside0.mk hb; have n4_ := Aside0.mk ho; clear HO6 HO7 HO10 HB HO14; have HO6 := n0_; have HO7 := n1_; have HO10 := n2_; have HB := n3_; have HO14 := n4_; clear n0_ n1_ n2_ n3_ n4_ ho hb hg hat)
                    go_roundw
                    case rel => exact ⟨f, i, j + 1, Iv, J3, _, rfl, rfl, EI, EJ3, ⟨by have := Hi.out; have := Hj.out;  omega⟩, ⟨by have := Hi.out; have := Hj.out; have := HJL.out; omega⟩, ⟨by have := HF.out; omega⟩, HA2, HO14, HO6, HO7, HO10, HB⟩
                    case measure => have := EI.out; have := EJ.out;  have := EJ3.out; have := Hi.out; have := Hj.out;  have := HJL.out; simp [intOf]; omega
            · have c2 : decide (Jv < (Y.length : Int)) = false := decide_eq_false (by rw [EJ.out]; omega)
              have HJN := Aside0.mk hj
              have hct : D0 = E1 := by rw [GP.out, EE1.out, show j = Y.length from (by have := Hj.out; omega), pD_endr X Y i Hi.out, pD_endr X Y (i + 1) HIL.out]; omega
              have hb4 : (D0 == E1) = true := beq_iff_eq.2 hct
              have HA2 : Aside0 ((acc ++ [(⟨3, SX⟩ : S30)]) ++ pathL X Y f (i + 1) (j) = pathL X Y (X.length + Y.length) 0 0) := ⟨by have := HA.out; rw [pathL] at this; rw [if_neg (fun h => HJN.out h.2.1), if_neg (fun h => HJN.out h.2.1), if_pos ⟨HIL.out, by rw [← GP.out, ← EE1.out]; exact hct⟩] at this; rw [← this, ES6.out]; simp⟩
              clear hct hij hi hj
              go_wp2
              go_quiet (fail)
              go_wp2
              go_quiet (fail)
              go_wp2
              go_quiet (fail)
              go_wp2_with ((with_reducible refine gate_builtin (b := .append) (xs := #[.tmp 234, .tmp 240]) rfl ?_); at_builtin; refine Kd.R_append k30 (w0 := w) w.heap.size rfl (.tmp 234) (.tmp 240) 23 30 (.agg #[(.int .i64 0), (.string ⟨#[]⟩)]) 24 rfl Tryd.underlying23 infoEdit rfl (by decide) (by omega) u14 acc (⟨3, SX⟩ : S30) [.int .i64 3, .string SX] (fun _ => True) (fun _ => False) rfl rfl ?aP (fun _ hk => hk.elim) ?aF ?aO ?aB ?aS ?aL ?_; (case aP => exact k30_mkM _ _ _ (⟨3, SX⟩ : S30)); (case aB => exact (by repeat (first | (with_reducible first | exact HB.out | apply below_alloc | apply pw_below_drewN | apply below_drew1) | exact HB.out))); (case aF => exact (fun _ _ => trivial)); (case aO => exact (by (with_reducible repeat (first | apply Kd.R_alloc | apply Kd.R_drewN | apply Kd.R_drew)); exact HO14.out)); (case aS => exact (below_size (by repeat (first | (with_reducible first | exact HB.out | apply below_alloc | apply pw_below_drewN | apply below_drew1) | exact HB.out)))); (case aL => have := LM.out; omega); intro v138 w72 ho hb hg hat; have n0_ := Aside0.mk (Kd.R_over' (by (with_reducible repeat (first | apply Kd.R_alloc | apply Kd.R_drewN | apply Kd.R_drew)); exact HO6.out) (Kd.R_typed (by (with_reducible repeat (first | apply Kd.R_alloc | apply Kd.R_drewN | apply Kd.R_drew)); exact HO14.out)) (by decide) hg); have n1_ := Aside0.mk (Kd.R_over' (by (with_reducible repeat (first | apply Kd.R_alloc | apply Kd.R_drewN | apply Kd.R_drew)); exact HO7.out) (Kd.R_typed (by (with_reducible repeat (first | apply Kd.R_alloc | apply Kd.R_drewN | apply Kd.R_drew)); exact HO14.out)) (by decide) hg); have n2_ := Aside0.mk (Kd.R_over' (by (with_reducible repeat (first | apply Kd.R_alloc | apply Kd.R_drewN | apply Kd.R_drew)); exact HO10.out) (Kd.R_typed (by (with_reducible repeat (first | apply Kd.R_alloc | apply Kd.R_drewN | apply Kd.R_drew)); exact HO14.out)) (by decide) hg); have n3_ := Aside0.mk hb; have n4_ := Aside0.mk ho; clear HO6 HO7 HO10 HB HO14; have HO6 := n0_; have HO7 := n1_; have HO10 := n2_; have HB := n3_; have HO14 := n4_; clear n0_ n1_ n2_ n3_ n4_ ho hb hg hat)
              go_roundw
              case rel => exact ⟨f, i + 1, j, I3, Jv, _, rfl, rfl, EI3, EJ, ⟨by have := Hi.out; have := Hj.out; have := HIL.out; omega⟩, ⟨by have := Hi.out; have := Hj.out;  omega⟩, ⟨by have := HF.out; omega⟩, HA2, HO14, HO6, HO7, HO10, HB⟩
              case measure => have := EI.out; have := EJ.out; have := EI3.out;  have := Hi.out; have := Hj.out; have := HIL.out;  simp [intOf]; omega
          · have c1 : decide (Iv < (X.length : Int)) = false := decide_eq_false (by rw [EI.out]; omega)
            have HIN := Aside0.mk hi
            have HJL : Aside0 (j < Y.length) := ⟨by omega⟩
            have c2 : decide (Jv < (Y.length : Int)) = true := decide_eq_true (by rw [EJ.out]; exact Int.ofNat_lt.2 HJL.out)
            have j0 : 0 ≤ Jv := by have := EJ.out; omega
            have j1 : Jv < (Y.length : Int) := by rw [EJ.out]; exact Int.ofNat_lt.2 HJL.out
            obtain ⟨ad7, e7, hs7⟩ := Kd.at_string (Kd.R_reads' HO7.out).2.2 Jv j0 j1
            subst e7
            have ES7 : Aside0 (rdOf ByteArray.empty Y Jv = Y.getD j ByteArray.empty) := ⟨by rw [EJ.out]; unfold rdOf; rw [Int.toNat_natCast]⟩
            obtain ⟨SY, hSY⟩ : ∃ x, rdOf ByteArray.empty Y Jv = x := ⟨_, rfl⟩
            rw [hSY] at hs7 ES7
            clear hSY
            replace j0 := eq_true j0
            replace j1 := eq_true j1
            obtain ⟨J3, hJ3⟩ : ∃ x : Int, wrap64 (Jv + 1) = x := ⟨_, rfl⟩
            have hJ3w : IntKind.i64.wrap (Jv + 1) = J3 := (i64_w _).trans hJ3
            have EJ3 : Aside0 (J3 = ((j + 1 : Nat) : Int)) := ⟨by rw [← hJ3, EJ.out, pws _ (by omega) (by have := Hj.out; have := hYs.out; omega)]; rfl⟩
            have HA2 : Aside0 ((acc ++ [(⟨4, SY⟩ : S30)]) ++ pathL X Y f (i) (j + 1) = pathL X Y (X.length + Y.length) 0 0) := ⟨by have := HA.out; rw [pathL] at this; rw [if_neg (fun h => HIN.out h.1), if_neg (fun h => HIN.out h.1), if_neg (fun h => HIN.out h.1), if_pos HJL.out] at this; rw [← this, ES7.out]; simp⟩
            clear hij hi
            go_wp2
            go_quiet (fail)
            go_wp2
            go_quiet (fail)
            go_wp2
            go_quiet (fail)
            go_wp2_with ((with_reducible refine gate_builtin (b := .append) (xs := #[.tmp 133, .tmp 139]) rfl ?_); at_builtin; refine Kd.R_append k30 (w0 := w) w.heap.size rfl (.tmp 133) (.tmp 139) 23 30 (.agg #[(.int .i64 0), (.string ⟨#[]⟩)]) 24 rfl Tryd.underlying23 infoEdit rfl (by decide) (by omega) u14 acc (⟨4, SY⟩ : S30) [.int .i64 4, .string SY] (fun _ => True) (fun _ => False) rfl rfl ?aP (fun _ hk => hk.elim) ?aF ?aO ?aB ?aS ?aL ?_; (case aP => exact k30_mkM _ _ _ (⟨4, SY⟩ : S30)); (case aB => exact (by repeat (first | (with_reducible first | exact HB.out | apply below_alloc | apply pw_below_drewN | apply below_drew1) | exact HB.out))); (case aF => exact (fun _ _ => trivial)); (case aO => exact (by (with_reducible repeat (first | apply Kd.R_alloc | apply Kd.R_drewN | apply Kd.R_drew)); exact HO14.out)); (case aS => exact (below_size (by repeat (first | (with_reducible first | exact HB.out | apply below_alloc | apply pw_below_drewN | apply below_drew1) | exact HB.out)))); (case aL => have := LM.out; omega); intro v138 w72 ho hb hg hat; have n0_ := Aside0.mk (Kd.R_over' (by (with_reducible repeat (first | apply Kd.R_alloc | apply Kd.R_drewN | apply Kd.R_drew)); exact HO6.out) (Kd.R_typed (by (with_reducible repeat (first | apply Kd.R_alloc | apply Kd.R_drewN | apply Kd.R_drew)); exact HO14.out)) (by decide) hg); have n1_ := Aside0.mk (Kd.R_over' (by (with_reducible repeat (first | apply Kd.R_alloc | apply Kd.R_drewN | apply Kd.R_drew)); exact HO7.out) (Kd.R_typed (by (with_reducible repeat (first | apply Kd.R_alloc | apply Kd.R_drewN | apply Kd.R_drew)); exact HO14.out)) (by decide) hg); have n2_ := Aside0.mk (Kd.R_over' (by (with_reducible repeat (first | apply Kd.R_alloc | apply Kd.R_drewN | apply Kd.R_drew)); exact HO10.out) (Kd.R_typed (by (with_reducible repeat (first | apply Kd.R_alloc | apply Kd.R_drewN | apply Kd.R_drew)); exact HO14.out)) (by decide) hg); have n3_ := Aside0.mk hb; have n4_ := Aside0.mk ho; clear HO6 HO7 HO10 HB HO14; have HO6 := n0_; have HO7 := n1_; have HO10 := n2_; have HB := n3_; have HO14 := n4_; clear n0_ n1_ n2_ n3_ n4_ ho hb hg hat)
            go_roundw
            case rel => exact ⟨f, i, j + 1, Iv, J3, _, rfl, rfl, EI, EJ3, ⟨by have := Hi.out; have := Hj.out;  omega⟩, ⟨by have := Hi.out; have := Hj.out; have := HJL.out; omega⟩, ⟨by have := HF.out; omega⟩, HA2, HO14, HO6, HO7, HO10, HB⟩
            case measure => have := EI.out; have := EJ.out;  have := EJ3.out; have := Hi.out; have := Hj.out;  have := HJL.out; simp [intOf]; omega
        · have c1 : decide (Iv < (X.length : Int)) = false := decide_eq_false (by rw [EI.out]; omega)
          have c2 : decide (Jv < (Y.length : Int)) = false := decide_eq_false (by rw [EJ.out]; omega)
          have HE : Aside0 (acc = pathL X Y (X.length + Y.length) 0 0) := ⟨by have := HA.out; rw [pathL_end X Y f0 i j hij, List.append_nil] at this; exact this⟩
          clear hij
          go_wp2
          go_ret2
          rw [← HE.out]
          exact ⟨_, rfl, HO14.out, HB.out⟩
    · obtain ⟨i, rfl⟩ : ∃ i, I = i + 1 := ⟨I - 1, by omega⟩
      have EI2 : Aside0 (Iv = (i : Int)) := ⟨by have := EI.out; omega⟩
      have Hi : Aside0 (i ≤ X.length) := ⟨by have := HI.out; omega⟩
      have c1 : decide (Iv ≥ 0) = true := decide_eq_true (by have := EI2.out; omega)
      have c1b : decide (0 ≤ Iv) = true := c1
      have HTb2 : Aside0 (pTab X Y T (i * (Y.length + 1) + (Y.length + 1))) := ⟨by have := HTb.out; rwa [Nat.succ_mul] at this⟩
      clear hI0 HTb EI HI
      go_wp2
      go_loopw [12] (fun v12 wr => ∃ (J : Nat) (Jv : Int) (T : List Int), v12 = .int .i64 Jv ∧ Aside0 (Jv = (J : Int) - 1) ∧ Aside0 (J ≤ Y.length + 1) ∧ Aside0 (pTab X Y T (i * (Y.length + 1) + J)) ∧ Aside0 (Kd.R Kd.string 9 wr w.heap.size (fun k_ => some k_ ≠ (Value.slice A7 Y.length c7).ownBlock) (.slice A6 X.length c6) X) ∧ Aside0 (Kd.R Kd.string 9 wr w.heap.size (fun k_ => some k_ ≠ (Value.slice A6 X.length c6).ownBlock) (.slice A7 Y.length c7) Y) ∧ Aside0 (Kd.R (Kd.int .i64) 3 wr w.heap.size (fun _ => True) (.slice A10 T0.length c10) T) ∧ Aside0 (Below w.heap.size w wr)) (fun v12 _ => (intOf v12 + 1).toNat)
      case atStart => exact ⟨Y.length + 1, _, T, rfl, ⟨by omega⟩, ⟨Nat.le_refl _⟩, HTb2, HO6, HO7, HO10, HB⟩
      case round =>
        clear HTb2 HO6 HO7 HO10 HB
        obtain ⟨J, Jv, T, rfl, EJ, HJ, HTb, HO6, HO7, HO10, HB⟩ := hrel
        by_cases hJ0 : J = 0
        · have c2 : decide (Jv ≥ 0) = false := decide_eq_false (by have := EJ.out; omega)
          have c2b : decide (0 ≤ Jv) = false := c2
          subst hJ0
          obtain ⟨I2, hI2⟩ : ∃ x : Int, wrap64 (Iv - 1) = x := ⟨_, rfl⟩
          have hI2w : IntKind.i64.wrap (Iv - 1) = I2 := (i64_w _).trans hI2
          have EI3 : Aside0 (I2 = (i : Int) - 1) := ⟨by rw [← hI2, EI2.out]; exact pws _ (by omega) (by have := Hi.out; have := hXs.out; omega)⟩
          go_wp2
          go_roundw
          case rel => exact ⟨i, I2, T, rfl, EI3, ⟨by have := Hi.out; omega⟩, HTb, HO6, HO7, HO10, HB⟩
          case measure => have := EI2.out; have := EI3.out; simp [intOf]; omega
        · obtain ⟨j, rfl⟩ : ∃ j, J = j + 1 := ⟨J - 1, by omega⟩
          have EJ2 : Aside0 (Jv = (j : Int)) := ⟨by have := EJ.out; omega⟩
          have Hj : Aside0 (j ≤ Y.length) := ⟨by have := HJ.out; omega⟩
          have c2 : decide (Jv ≥ 0) = true := decide_eq_true (by have := EJ2.out; omega)
          have c2b : decide (0 ≤ Jv) = true := c2
          obtain ⟨s, hs⟩ : ∃ s, i * (Y.length + 1) + j = s := ⟨_, rfl⟩
          have HSe := Aside0.mk hs
          have HTb2 : Aside0 (pTab X Y T (s + 1)) := ⟨by rw [← hs]; exact HTb.out⟩
          have Hs1 : Aside0 (s < (X.length + 1) * (Y.length + 1)) := ⟨by rw [← hs]; exact idx_lt Hi.out (Nat.lt_succ_of_le Hj.out)⟩
          obtain ⟨M0, hM0⟩ : ∃ x : Int, wrap64 (Iv * W) = x := ⟨_, rfl⟩
          have hM0w : IntKind.i64.wrap (Iv * W) = M0 := (i64_w _).trans hM0
          obtain ⟨P, hP⟩ : ∃ x : Int, wrap64 (M0 + Jv) = x := ⟨_, rfl⟩
          have hPw : IntKind.i64.wrap (M0 + Jv) = P := (i64_w _).trans hP
          have EM : Aside0 (M0 = ((i * (Y.length + 1) : Nat) : Int)) := ⟨by rw [← hM0, EI2.out, EW.out, ← Int.natCast_mul]; exact pws _ (by omega) (by have := Hs1.out; have := HMUL.out; omega)⟩
          have EP : Aside0 (P = (s : Int)) := ⟨by rw [← hP, EM.out, EJ2.out, ← Int.natCast_add, hs]; exact pws _ (by omega) (by have := Hs1.out; have := HMUL.out; omega)⟩
          obtain ⟨J2, hJ2⟩ : ∃ x : Int, wrap64 (Jv - 1) = x := ⟨_, rfl⟩
          have hJ2w : IntKind.i64.wrap (Jv - 1) = J2 := (i64_w _).trans hJ2
          have EJ3 : Aside0 (J2 = (j : Int) - 1) := ⟨by rw [← hJ2, EJ2.out]; exact pws _ (by omega) (by have := Hj.out; have := hYs.out; omega)⟩
          clear hJ0 HTb EJ HJ hs
          have p0 : 0 ≤ P := by have := EP.out; omega
          have p1 : P < (T0.length : Int) := by rw [LT0.out, EP.out]; exact Int.ofNat_lt.2 Hs1.out
          obtain ⟨go, co, eo, gb, gl, cl, HG⟩ := Kd.R_form HO10.out (by rw [← (Kd.R_reads' HO10.out).1]; omega)
          have ec := (Kd.R_reads' HO10.out).1
          rw [← ec] at eo
          clear ec gl
          cases eo
          have GB := Aside0.mk gb
          have GG := Aside0.mk HG
          clear gb HG
          obtain ⟨hx, hf⟩ := Kd.R_celln 0 HO10.out P p0 p1
          replace p0 := eq_true p0
          replace p1 := eq_true p1
          by_cases hin : i = X.length
          · have d1 : (Iv == (X.length : Int)) = true := beq_iff_eq.2 (by rw [EI2.out, hin])
            obtain ⟨V1, hV1⟩ : ∃ x : Int, wrap64 ((X.length : Int) - Iv) = x := ⟨_, rfl⟩
            have hV1w : IntKind.i64.wrap ((X.length : Int) - Iv) = V1 := (i64_w _).trans hV1
            obtain ⟨V2, hV2⟩ : ∃ x : Int, wrap64 (V1 + (Y.length : Int)) = x := ⟨_, rfl⟩
            have hV2w : IntKind.i64.wrap (V1 + (Y.length : Int)) = V2 := (i64_w _).trans hV2
            obtain ⟨V, hV⟩ : ∃ x : Int, wrap64 (V2 - Jv) = x := ⟨_, rfl⟩
            have hVw : IntKind.i64.wrap (V2 - Jv) = V := (i64_w _).trans hV
            have EV1 : Aside0 (V1 = (X.length : Int) - (i : Int)) := ⟨by rw [← hV1, EI2.out]; exact pws _ (by have := Hi.out; omega) (by have := hXs.out; omega)⟩
            have EV2 : Aside0 (V2 = (X.length : Int) - (i : Int) + (Y.length : Int)) := ⟨by rw [← hV2, EV1.out]; exact pws _ (by have := Hi.out; omega) (by have := hXs.out; have := hYs.out; omega)⟩
            have EV : Aside0 (V = pD X Y i j) := ⟨by rw [← hV, EV2.out, EJ2.out, hin, pD_endl X Y j Hj.out]; exact (pws _ (by have := Hi.out; have := Hj.out; omega) (by have := hXs.out; have := hYs.out; omega)).trans (by omega)⟩
            obtain ⟨T2, hT2⟩ : ∃ T2 : List Int, T2 = T.set P.toNat V := ⟨_, rfl⟩
            have NT2 := Aside0.mk hT2
            have HTb3 : Aside0 (pTab X Y T2 s) := ⟨by rw [hT2, EP.out, Int.toNat_natCast]; exact pTab_set Hi.out Hj.out HSe.out.symm HTb2.out V EV.out⟩
            have HP := Kd.R_putg HO10.out P V
            clear hT2 hin
            try clear hjm
            go_wp2_with ((with_reducible refine gate_store (t := 3) (p := 75) rfl ?_); refine store_event (t := 3) (p := 75) (v := ?vo_wE12) (w1 := (wr.setCell ⟨go, P.toNat, none⟩ (.int .i64 V))) ?hg ?ho ?hn ?hr ?_; (case ho => rfl); (case hg => rfl); (case hn => rfl); (case hr => first | (go_simp; done) | (go_simp; rfl)); intro wE12 hw; have hg : wr.grownBy wE12 (some go) := (by rw [hw]; exact HP.2); have hp_ : Kd.R (Kd.int .i64) 3 wE12 w.heap.size (fun _ => True) (.slice (some ⟨go, 0, none⟩) T0.length c10) T2 := (by rw [hw, NT2.out]; exact HP.1); clear HP; have n0_ := Aside0.mk (Kd.R_over' (v := (.slice (some ⟨go, 0, none⟩) T0.length c10)) (by (with_reducible repeat (first | apply Kd.R_alloc | apply Kd.R_drewN | apply Kd.R_drew)); exact HO6.out) (Kd.R_typed HO10.out) (by decide) hg); have n1_ := Aside0.mk (Kd.R_over' (v := (.slice (some ⟨go, 0, none⟩) T0.length c10)) (by (with_reducible repeat (first | apply Kd.R_alloc | apply Kd.R_drewN | apply Kd.R_drew)); exact HO7.out) (Kd.R_typed HO10.out) (by decide) hg); have n2_ := Aside0.mk hp_; have n3_ := Aside0.mk ((by rw [hw]; exact below_set (HB.out) GB.out : Below w.heap.size w wE12)); clear HO6; clear HO7; clear HO10; clear HB; have HO6 := n0_; have HO7 := n1_; have HO10 := n2_; have HB := n3_; clear n0_ n1_ n2_ n3_; clear hg hw hp_)
            go_roundw
            case rel => exact ⟨j, J2, T2, rfl, EJ3, ⟨by have := Hj.out; omega⟩, ⟨by have := HTb3.out; rw [← HSe.out] at this; exact this⟩, HO6, HO7, HO10, HB⟩
            case measure => have := EJ2.out; have := EJ3.out; simp [intOf]; omega
          · have d1 : (Iv == (X.length : Int)) = false := beq_eq_false_iff_ne.2 (by rw [EI2.out]; omega)
            by_cases hjm : j = Y.length
            · have d2 : (Jv == (Y.length : Int)) = true := beq_iff_eq.2 (by rw [EJ2.out, hjm])
              obtain ⟨V1, hV1⟩ : ∃ x : Int, wrap64 ((X.length : Int) - Iv) = x := ⟨_, rfl⟩
              have hV1w : IntKind.i64.wrap ((X.length : Int) - Iv) = V1 := (i64_w _).trans hV1
              obtain ⟨V2, hV2⟩ : ∃ x : Int, wrap64 (V1 + (Y.length : Int)) = x := ⟨_, rfl⟩
              have hV2w : IntKind.i64.wrap (V1 + (Y.length : Int)) = V2 := (i64_w _).trans hV2
              obtain ⟨V, hV⟩ : ∃ x : Int, wrap64 (V2 - Jv) = x := ⟨_, rfl⟩
              have hVw : IntKind.i64.wrap (V2 - Jv) = V := (i64_w _).trans hV
              have EV1 : Aside0 (V1 = (X.length : Int) - (i : Int)) := ⟨by rw [← hV1, EI2.out]; exact pws _ (by have := Hi.out; omega) (by have := hXs.out; omega)⟩
              have EV2 : Aside0 (V2 = (X.length : Int) - (i : Int) + (Y.length : Int)) := ⟨by rw [← hV2, EV1.out]; exact pws _ (by have := Hi.out; omega) (by have := hXs.out; have := hYs.out; omega)⟩
              have EV : Aside0 (V = pD X Y i j) := ⟨by rw [← hV, EV2.out, EJ2.out, hjm, pD_endr X Y i Hi.out]; exact (pws _ (by have := Hi.out; have := Hj.out; omega) (by have := hXs.out; have := hYs.out; omega)).trans (by omega)⟩
              obtain ⟨T2, hT2⟩ : ∃ T2 : List Int, T2 = T.set P.toNat V := ⟨_, rfl⟩
              have NT2 := Aside0.mk hT2
              have HTb3 : Aside0 (pTab X Y T2 s) := ⟨by rw [hT2, EP.out, Int.toNat_natCast]; exact pTab_set Hi.out Hj.out HSe.out.symm HTb2.out V EV.out⟩
              have HP := Kd.R_putg HO10.out P V
              clear hT2 hin
              try clear hjm
              go_wp2_with ((with_reducible refine gate_store (t := 3) (p := 75) rfl ?_); refine store_event (t := 3) (p := 75) (v := ?vo_wE14) (w1 := (wr.setCell ⟨go, P.toNat, none⟩ (.int .i64 V))) ?hg ?ho ?hn ?hr ?_; (case ho => rfl); (case hg => rfl); (case hn => rfl); (case hr => first | (go_simp; done) | (go_simp; rfl)); intro wE14 hw; have hg : wr.grownBy wE14 (some go) := (by rw [hw]; exact HP.2); have hp_ : Kd.R (Kd.int .i64) 3 wE14 w.heap.size (fun _ => True) (.slice (some ⟨go, 0, none⟩) T0.length c10) T2 := (by rw [hw, NT2.out]; exact HP.1); clear HP; have n0_ := Aside0.mk (Kd.R_over' (v := (.slice (some ⟨go, 0, none⟩) T0.length c10)) (by (with_reducible repeat (first | apply Kd.R_alloc | apply Kd.R_drewN | apply Kd.R_drew)); exact HO6.out) (Kd.R_typed HO10.out) (by decide) hg); have n1_ := Aside0.mk (Kd.R_over' (v := (.slice (some ⟨go, 0, none⟩) T0.length c10)) (by (with_reducible repeat (first | apply Kd.R_alloc | apply Kd.R_drewN | apply Kd.R_drew)); exact HO7.out) (Kd.R_typed HO10.out) (by decide) hg); have n2_ := Aside0.mk hp_; have n3_ := Aside0.mk ((by rw [hw]; exact below_set (HB.out) GB.out : Below w.heap.size w wE14)); clear HO6; clear HO7; clear HO10; clear HB; have HO6 := n0_; have HO7 := n1_; have HO10 := n2_; have HB := n3_; clear n0_ n1_ n2_ n3_; clear hg hw hp_)
              go_roundw
              case rel => exact ⟨j, J2, T2, rfl, EJ3, ⟨by have := Hj.out; omega⟩, ⟨by have := HTb3.out; rw [← HSe.out] at this; exact this⟩, HO6, HO7, HO10, HB⟩
              case measure => have := EJ2.out; have := EJ3.out; simp [intOf]; omega
            · have d2 : (Jv == (Y.length : Int)) = false := beq_eq_false_iff_ne.2 (by rw [EJ2.out]; omega)
              have hil : i < X.length := by have := Hi.out; omega
              have hjl : j < Y.length := by have := Hj.out; omega
              have HIL := Aside0.mk hil
              have HJL := Aside0.mk hjl
              have I1 : Aside0 ((i + 1) * (Y.length + 1) = i * (Y.length + 1) + (Y.length + 1)) := ⟨Nat.succ_mul _ _⟩
              have B3 : Aside0 (s + (Y.length + 1) + 1 < (X.length + 1) * (Y.length + 1)) := ⟨by have := idx_lt (w := Y.length + 1) (j := j + 1) (show i + 1 ≤ X.length from hil) (by omega); have := I1.out; have := HSe.out; omega⟩
              obtain ⟨Q1, hQ1⟩ : ∃ x : Int, wrap64 (P + W) = x := ⟨_, rfl⟩
              have hQ1w : IntKind.i64.wrap (P + W) = Q1 := (i64_w _).trans hQ1
              obtain ⟨Q2, hQ2⟩ : ∃ x : Int, wrap64 (P + 1) = x := ⟨_, rfl⟩
              have hQ2w : IntKind.i64.wrap (P + 1) = Q2 := (i64_w _).trans hQ2
              obtain ⟨Q3, hQ3⟩ : ∃ x : Int, wrap64 (Q1 + 1) = x := ⟨_, rfl⟩
              have hQ3w : IntKind.i64.wrap (Q1 + 1) = Q3 := (i64_w _).trans hQ3
              have EQ1 : Aside0 (Q1 = ((s + (Y.length + 1) : Nat) : Int)) := ⟨by rw [← hQ1, EP.out, EW.out, ← Int.natCast_add]; exact pws _ (by omega) (by have := B3.out; have := HMUL.out; omega)⟩
              have EQ2 : Aside0 (Q2 = ((s + 1 : Nat) : Int)) := ⟨by rw [← hQ2, EP.out, pws _ (by omega) (by have := B3.out; have := HMUL.out; omega)]; rfl⟩
              have EQ3 : Aside0 (Q3 = ((s + (Y.length + 1) + 1 : Nat) : Int)) := ⟨by rw [← hQ3, EQ1.out, pws _ (by omega) (by have := B3.out; have := HMUL.out; omega)]; rfl⟩
              have g1 : Aside0 (rd T Q1 = pD X Y (i + 1) j) := ⟨by have := HTb2.out.2 (i + 1) j hil (by omega) (by have := I1.out; have := HSe.out; omega); rw [I1.out, Nat.add_right_comm, HSe.out, ← EQ1.out] at this; exact this⟩
              have g2 : Aside0 (rd T Q2 = pD X Y i (j + 1)) := ⟨by have := HTb2.out.2 i (j + 1) (by omega) hjl (by have := HSe.out; omega); rw [← Nat.add_assoc, HSe.out, ← EQ2.out] at this; exact this⟩
              have g3 : Aside0 (rd T Q3 = pD X Y (i + 1) (j + 1)) := ⟨by have := HTb2.out.2 (i + 1) (j + 1) hil hjl (by have := I1.out; have := HSe.out; omega); rw [I1.out, ← Nat.add_assoc, Nat.add_right_comm (i * _), HSe.out, ← EQ3.out] at this; exact this⟩
              obtain ⟨D1, hD1⟩ : ∃ x : Int, rd T Q1 = x := ⟨_, rfl⟩
              have q10 : 0 ≤ Q1 := by have := EQ1.out; omega
              have q11 : Q1 < (T0.length : Int) := by have := EQ1.out; rw [LT0.out, this]; exact Int.ofNat_lt.2 (by have := B3.out; omega)
              have hx1 : wr.cell? ⟨go, Q1.toNat, none⟩ = some (.int .i64 D1) := by have := (Kd.R_celln 0 HO10.out Q1 q10 q11).1; rw [← hD1]; exact this
              have g1r := Aside0.mk hD1
              replace g1 := Aside0.mk (hD1.symm.trans g1.out)
              clear hD1
              replace q10 := eq_true q10
              replace q11 := eq_true q11
              obtain ⟨D2, hD2⟩ : ∃ x : Int, rd T Q2 = x := ⟨_, rfl⟩
              have q20 : 0 ≤ Q2 := by have := EQ2.out; omega
              have q21 : Q2 < (T0.length : Int) := by have := EQ2.out; rw [LT0.out, this]; exact Int.ofNat_lt.2 (by have := B3.out; omega)
              have hx2 : wr.cell? ⟨go, Q2.toNat, none⟩ = some (.int .i64 D2) := by have := (Kd.R_celln 0 HO10.out Q2 q20 q21).1; rw [← hD2]; exact this
              have g2r := Aside0.mk hD2
              replace g2 := Aside0.mk (hD2.symm.trans g2.out)
              clear hD2
              replace q20 := eq_true q20
              replace q21 := eq_true q21
              obtain ⟨D3, hD3⟩ : ∃ x : Int, rd T Q3 = x := ⟨_, rfl⟩
              have q30 : 0 ≤ Q3 := by have := EQ3.out; omega
              have q31 : Q3 < (T0.length : Int) := by have := EQ3.out; rw [LT0.out, this]; exact Int.ofNat_lt.2 (by have := B3.out; omega)
              have hx3 : wr.cell? ⟨go, Q3.toNat, none⟩ = some (.int .i64 D3) := by have := (Kd.R_celln 0 HO10.out Q3 q30 q31).1; rw [← hD3]; exact this
              have g3r := Aside0.mk hD3
              replace g3 := Aside0.mk (hD3.symm.trans g3.out)
              clear hD3
              replace q30 := eq_true q30
              replace q31 := eq_true q31
              obtain ⟨M1, hM1⟩ : ∃ x : Int, (if D2 < D1 then D2 else D1) = x := ⟨_, rfl⟩
              obtain ⟨Mn, hMn⟩ : ∃ x : Int, (if D3 < M1 then D3 else M1) = x := ⟨_, rfl⟩
              obtain ⟨V, hV⟩ : ∃ x : Int, wrap64 (1 + Mn) = x := ⟨_, rfl⟩
              have hVw : IntKind.i64.wrap (1 + Mn) = V := (i64_w _).trans hV
              have EMn : Aside0 (Mn = min (min (pD X Y (i + 1) j) (pD X Y i (j + 1))) (pD X Y (i + 1) (j + 1))) := ⟨by rw [← hMn, ← hM1, g1.out, g2.out, g3.out]; (repeat' split) <;> omega⟩
              have EV : Aside0 (V = 1 + min (min (pD X Y (i + 1) j) (pD X Y i (j + 1))) (pD X Y (i + 1) (j + 1))) := ⟨by rw [← hV, EMn.out]; have b1 := pD_small X Y hXs.out hYs.out (i + 1) j; have b2 := pD_small X Y hXs.out hYs.out i (j + 1); have b3 := pD_small X Y hXs.out hYs.out (i + 1) (j + 1); exact pws _ (by omega) (by omega)⟩
              clear hil hjl hin hjm
              go_wp2
              go_still_tail 23, (by kernel_rfl)
              change wpList _ _ _ _ _ wr.drew
              have n0_ := Aside0.mk (Kd.R_drew HO6.out)
              have n1_ := Aside0.mk (Kd.R_drew HO7.out)
              have n2_ := Aside0.mk (Kd.R_drew HO10.out)
              have n3_ := Aside0.mk (below_drew1 HB.out)
              clear HO6 HO7 HO10 HB hx hf hx1 hx2 hx3
              have HO6 := n0_
              have HO7 := n1_
              have HO10 := n2_
              have HB := n3_
              clear n0_ n1_ n2_ n3_
              generalize wr.drew = w2 at HO6 HO7 HO10 HB ⊢
              obtain ⟨hx, hf⟩ := Kd.R_celln 0 HO10.out P (of_eq_true p0) (of_eq_true p1)
              obtain ⟨T2, hT2⟩ : ∃ T2 : List Int, T2 = T.set P.toNat V := ⟨_, rfl⟩
              have NT2 := Aside0.mk hT2
              clear hT2
              have HP := Kd.R_putg HO10.out P V
              (with_reducible refine gate_store (t := 3) (p := 98) rfl ?_); refine store_event (t := 3) (p := 98) (v := ?vo_wN) (w1 := (w2.setCell ⟨go, P.toNat, none⟩ (.int .i64 V))) ?hg ?ho ?hn ?hr ?_; (case ho => rfl); (case hg => rfl); (case hn => rfl); (case hr => first | (go_simp; done) | (go_simp; rfl)); intro wN hw; have hg : w2.grownBy wN (some go) := (by rw [hw]; exact HP.2); have hp_ : Kd.R (Kd.int .i64) 3 wN w.heap.size (fun _ => True) (.slice (some ⟨go, 0, none⟩) T0.length c10) T2 := (by rw [hw, NT2.out]; exact HP.1); clear HP; have n0_ := Aside0.mk (Kd.R_over' (v := (.slice (some ⟨go, 0, none⟩) T0.length c10)) (by (with_reducible repeat (first | apply Kd.R_alloc | apply Kd.R_drewN | apply Kd.R_drew)); exact HO6.out) (Kd.R_typed HO10.out) (by decide) hg); have n1_ := Aside0.mk (Kd.R_over' (v := (.slice (some ⟨go, 0, none⟩) T0.length c10)) (by (with_reducible repeat (first | apply Kd.R_alloc | apply Kd.R_drewN | apply Kd.R_drew)); exact HO7.out) (Kd.R_typed HO10.out) (by decide) hg); have n2_ := Aside0.mk hp_; have n3_ := Aside0.mk ((by rw [hw]; exact below_set (HB.out) GB.out : Below w.heap.size w wN)); clear HO6; clear HO7; clear HO10; clear HB; have HO6 := n0_; have HO7 := n1_; have HO10 := n2_; have HB := n3_; clear n0_ n1_ n2_ n3_; clear hg hw hp_
              go_wp2
              have i0 : 0 ≤ Iv := by have := EI2.out; omega
              have i1 : Iv < (X.length : Int) := by rw [EI2.out]; exact Int.ofNat_lt.2 HIL.out
              have j0 : 0 ≤ Jv := by have := EJ2.out; omega
              have j1 : Jv < (Y.length : Int) := by rw [EJ2.out]; exact Int.ofNat_lt.2 HJL.out
              obtain ⟨ad6, e6, hs6⟩ := Kd.at_string (Kd.R_reads' HO6.out).2.2 Iv i0 i1
              obtain ⟨ad7, e7, hs7⟩ := Kd.at_string (Kd.R_reads' HO7.out).2.2 Jv j0 j1
              subst e6
              subst e7
              have ES6 : Aside0 (rdOf ByteArray.empty X Iv = X[i]'HIL.out) := ⟨by rw [EI2.out]; unfold rdOf; rw [Int.toNat_natCast, List.getD_eq_getElem?_getD, List.getElem?_eq_getElem HIL.out]; rfl⟩
              have ES7 : Aside0 (rdOf ByteArray.empty Y Jv = Y[j]'HJL.out) := ⟨by rw [EJ2.out]; unfold rdOf; rw [Int.toNat_natCast, List.getD_eq_getElem?_getD, List.getElem?_eq_getElem HJL.out]; rfl⟩
              obtain ⟨SX, hSX⟩ : ∃ x, rdOf ByteArray.empty X Iv = x := ⟨_, rfl⟩
              obtain ⟨SY, hSY⟩ : ∃ x, rdOf ByteArray.empty Y Jv = x := ⟨_, rfl⟩
              rw [hSX] at hs6 ES6
              rw [hSY] at hs7 ES7
              clear hSX hSY
              replace i0 := eq_true i0
              replace i1 := eq_true i1
              replace j0 := eq_true j0
              replace j1 := eq_true j1
              by_cases hsame : SX.toList = SY.toList
              · have hb1 : (SX.toList == SY.toList) = true := beq_iff_eq.2 hsame
                have EK : Aside0 (D3 = pD X Y i j) := ⟨by rw [g3.out]; exact (pD_keep X Y i j HIL.out HJL.out (by rw [← ES6.out, ← ES7.out]; exact hsame)).symm⟩
                clear hsame
                go_quiet (fail)
                have n0_ := Aside0.mk (Kd.R_drewN HO6.out nq)
                have n1_ := Aside0.mk (Kd.R_drewN HO7.out nq)
                have n2_ := Aside0.mk (Kd.R_drewN HO10.out nq)
                have n3_ := Aside0.mk (pw_below_drewN HB.out nq)
                clear HO6 HO7 HO10 HB hx hf hs6 hs7
                have HO6 := n0_
                have HO7 := n1_
                have HO10 := n2_
                have HB := n3_
                clear n0_ n1_ n2_ n3_
                generalize wN.drewN nq = w4 at HO6 HO7 HO10 HB ⊢
                have r3 : Aside0 (rd T2 Q3 = D3) := ⟨by rw [NT2.out, EP.out, Int.toNat_natCast, EQ3.out, rdset_ne _ _ _ (by omega), ← EQ3.out, g3r.out]⟩
                have hx3 : w4.cell? ⟨go, Q3.toNat, none⟩ = some (.int .i64 D3) := by have := (Kd.R_celln 0 HO10.out Q3 (of_eq_true q30) (of_eq_true q31)).1; rw [← r3.out]; exact this
                obtain ⟨hx, hf⟩ := Kd.R_celln 0 HO10.out P (of_eq_true p0) (of_eq_true p1)
                obtain ⟨T3, hT3⟩ : ∃ T3 : List Int, T3 = T2.set P.toNat D3 := ⟨_, rfl⟩
                have NT3 := Aside0.mk hT3
                have HTb3 : Aside0 (pTab X Y T3 s) := ⟨by rw [hT3, NT2.out, List.set_set, EP.out, Int.toNat_natCast]; exact pTab_set Hi.out Hj.out HSe.out.symm HTb2.out D3 EK.out⟩
                clear hT3
                have HP := Kd.R_putg HO10.out P D3
                go_wp2_with ((with_reducible refine gate_store (t := 3) (p := 117) rfl ?_); refine store_event (t := 3) (p := 117) (v := ?vo_wK) (w1 := (w4.setCell ⟨go, P.toNat, none⟩ (.int .i64 D3))) ?hg ?ho ?hn ?hr ?_; (case ho => rfl); (case hg => rfl); (case hn => rfl); (case hr => first | (go_simp; done) | (go_simp; rfl)); intro wK hw; have hg : w4.grownBy wK (some go) := (by rw [hw]; exact HP.2); have hp_ : Kd.R (Kd.int .i64) 3 wK w.heap.size (fun _ => True) (.slice (some ⟨go, 0, none⟩) T0.length c10) T3 := (by rw [hw, NT3.out]; exact HP.1); clear HP; have n0_ := Aside0.mk (Kd.R_over' (v := (.slice (some ⟨go, 0, none⟩) T0.length c10)) (by (with_reducible repeat (first | apply Kd.R_alloc | apply Kd.R_drewN | apply Kd.R_drew)); exact HO6.out) (Kd.R_typed HO10.out) (by decide) hg); have n1_ := Aside0.mk (Kd.R_over' (v := (.slice (some ⟨go, 0, none⟩) T0.length c10)) (by (with_reducible repeat (first | apply Kd.R_alloc | apply Kd.R_drewN | apply Kd.R_drew)); exact HO7.out) (Kd.R_typed HO10.out) (by decide) hg); have n2_ := Aside0.mk hp_; have n3_ := Aside0.mk ((by rw [hw]; exact below_set (HB.out) GB.out : Below w.heap.size w wK)); clear HO6; clear HO7; clear HO10; clear HB; have HO6 := n0_; have HO7 := n1_; have HO10 := n2_; have HB := n3_; clear n0_ n1_ n2_ n3_; clear hg hw hp_)
                go_roundw
                case rel => exact ⟨j, J2, T3, rfl, EJ3, ⟨by have := Hj.out; omega⟩, ⟨by have := HTb3.out; rw [← HSe.out] at this; exact this⟩, HO6, HO7, HO10, HB⟩
                case measure => have := EJ2.out; have := EJ3.out; simp [intOf]; omega
              · have hb1 : (SX.toList == SY.toList) = false := beq_eq_false_iff_ne.2 hsame
                have HTb3 : Aside0 (pTab X Y T2 s) := ⟨by rw [NT2.out, EP.out, Int.toNat_natCast]; exact pTab_set Hi.out Hj.out HSe.out.symm HTb2.out V (by rw [EV.out]; exact (pD_swap X Y i j HIL.out HJL.out (by rw [← ES6.out, ← ES7.out]; exact hsame)).symm)⟩
                clear hsame
                go_quiet (fail)
                go_wp2
                go_roundw
                case rel => exact ⟨j, J2, T2, rfl, EJ3, ⟨by have := Hj.out; omega⟩, ⟨by have := HTb3.out; rw [← HSe.out] at this; exact this⟩, ⟨Kd.R_drewN HO6.out _⟩, ⟨Kd.R_drewN HO7.out _⟩, ⟨Kd.R_drewN HO10.out _⟩, ⟨pw_below_drewN HB.out _⟩⟩
                case measure => have := EJ2.out; have := EJ3.out; simp [intOf]; omega
def dist_Path.f (k : Nat) (a0 : ByteArray) (a1 : ByteArray) : Option ((List (S30)) × Int) :=
  (dist_both.f k a0 a1).bind fun t => if t.2.2 = 0 then (if t.1.length ≤ 256 ∧ t.2.1.length ≤ 256 then some (pathL t.1 t.2.1 (t.1.length + t.2.1.length) 0 0, 0) else none) else some ([], t.2.2)
theorem dist_Path.mono : ∀ a0 a1 k, LeO (dist_Path.f k a0 a1) (dist_Path.f (k + 1) a0 a1) := fun a0 a1 k => LeO.bind (dist_both.mono _ _ _) (fun _ => LeO.refl _)
set_option maxHeartbeats 4000000 in
set_option maxRecDepth 100000 in
theorem dist_Path.calls (k : Nat) (a0 : ByteArray) (a1 : ByteArray) (r1 : List (S30)) (r2 : Int) (w : World) (hT : Lib.Utf8Tabs 0 1 w) (h : dist_Path.f k a0 a1 = some (r1, r2)) :
    Calls Tryd.prog 16 #[.string a0, .string a1] w fun e w' => ∃ v0_ : Value, e = .returned (.tuple #[v0_, .int .i64 r2]) ∧ Kd.R k30 30 w' w.heap.size (fun _ => True) v0_ r1 ∧ Below w.heap.size w w' := by
  obtain ⟨⟨X, Y, e⟩, hb, h⟩ := Option.bind_eq_some_iff.mp h
  dsimp only at h
  by_cases he : e = 0
  · subst he
    rw [if_pos rfl] at h
    by_cases hl : X.length ≤ 256 ∧ Y.length ≤ 256
    · rw [if_pos hl] at h
      obtain ⟨rfl, rfl⟩ := Prod.mk.inj (Option.some.inj h)
      exact path_main k a0 a1 X Y hl.1 hl.2 w hT ⟨hb⟩
    · rw [if_neg hl] at h
      cases h
  · rw [if_neg he] at h
    obtain ⟨rfl, rfl⟩ := Prod.mk.inj (Option.some.inj h)
    have A3 := Aside0.mk hb
    have HT := Aside0.mk hT
    clear hT hb h
    have HB := Aside0.mk (Below.refl w.heap.size w)
    have c1 : (e == 0) = false := beq_eq_false_iff_ne.2 he
    have c2 : (e != 0) = true := bne_iff_ne.2 he
    go_enter Tryd.func16, Tryd.ntmps16
    go_wp2_with ((with_reducible refine gate_callee (f := 34) rfl ?_); refine goesL_ (some 21) rfl rfl Tryd.func34 (by kernel_rfl) rfl #[.string a0, .string a1] rfl (by (try simp only [List.map_toArray, List.map_cons, List.map_nil]); first | done | rfl | (simp only [List.length_drop, List.length_take]; rfl)) ?_; (with_reducible refine (dist_both.calls k a0 a1 X Y e _ ?side1 A3.out).mono ?_); (case side1 => exact Utf.tabs_step HT.out (by repeat (first | (with_reducible first | exact HB.out | apply below_alloc | apply pw_below_drewN | apply below_drew1) | exact HB.out))); rintro e w8 ⟨v118, v120, rfl, ho0, ho1, hb⟩; refine ⟨_, rfl, ?_⟩; have n0_ := Aside0.mk (Kd.R_lower ho0 (below_size (by repeat (first | (with_reducible first | exact HB.out | apply below_alloc | apply pw_below_drewN | apply below_drew1) | exact HB.out)))); have n1_ := Aside0.mk (Kd.R_lower ho1 (below_size (by repeat (first | (with_reducible first | exact HB.out | apply below_alloc | apply pw_below_drewN | apply below_drew1) | exact HB.out)))); have n2_ := Aside0.mk (below_step (by repeat (first | (with_reducible first | exact HB.out | apply below_alloc | apply pw_below_drewN | apply below_drew1) | exact HB.out)) hb); clear HB; have HO6 := n0_; have HO7 := n1_; have HB := n2_; clear n0_ n1_ n2_ hb ho0 ho1; obtain ⟨A7, c7, e7⟩ := Kd.R_slice HO7.out; subst e7; obtain ⟨A6, c6, e6⟩ := Kd.R_slice HO6.out; subst e6)
    go_ret2
    exact ⟨_, rfl, Kd.R_nil _ _ _ _ _, HB.out⟩

end Go.Proofs.YtalogampkkjcdaaDoor.P
