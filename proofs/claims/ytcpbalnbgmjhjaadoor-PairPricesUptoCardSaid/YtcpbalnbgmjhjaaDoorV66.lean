import Derived.Test.YtcpbalnbgmjhjaaDoorV63
import Derived.Test.YtcpbalnbgmjhjaaDoorV65
namespace Go.Proofs.YtcpbalnbgmjhjaaDoor.Q
open Go.RowKit Go.Proofs.YtcpbalnbgmjhjaaDoor.Mi Go.Proofs.YtcpbalnbgmjhjaaDoorW.PrintWords Go.Proofs.YtcpbalnbgmjhjaaDoorW.PrintLast Go.Proofs.YtcpbalnbgmjhjaaDoorW.PrintMore
attribute [local go_sem] min2_int min_two min_three
set_option linter.unusedVariables false
set_option linter.unusedSimpArgs false
theorem lowerT (x : Int) : ∃ v, fold_lower.f 12 x = some v := by
 have h7 : ∀ k x b, ∃ v, fold_lower.j7 (k + 1) x b = some v := by
  intro k x b; simp only [fold_lower.j7]; repeat' split
  all_goals exact ⟨_, rfl⟩
 have h6 : ∀ k x b, ∃ v, fold_lower.j6 (k + 2) x b = some v := by
  intro k x b; rw [show k + 2 = (k + 1) + 1 from rfl]; simp only [fold_lower.j6]; repeat' split
  all_goals first | exact ⟨_, rfl⟩ | exact h7 _ _ _
 have h5 : ∀ k x b, ∃ v, fold_lower.j5 (k + 3) x b = some v := by
  intro k x b; rw [show k + 3 = (k + 2) + 1 from rfl]; simp only [fold_lower.j5]; repeat' split
  all_goals first | exact ⟨_, rfl⟩ | exact h6 _ _ _
 have h4 : ∀ k x b, ∃ v, fold_lower.j4 (k + 4) x b = some v := by
  intro k x b; rw [show k + 4 = (k + 3) + 1 from rfl]; simp only [fold_lower.j4]; repeat' split
  all_goals first | exact ⟨_, rfl⟩ | exact h5 _ _ _
 have h3 : ∀ k x b, ∃ v, fold_lower.j3 (k + 5) x b = some v := by
  intro k x b; rw [show k + 5 = (k + 4) + 1 from rfl]; simp only [fold_lower.j3]; repeat' split
  all_goals first | exact ⟨_, rfl⟩ | exact h4 _ _ _
 have h2 : ∀ k x b, ∃ v, fold_lower.j2 (k + 6) x b = some v := by
  intro k x b; rw [show k + 6 = (k + 5) + 1 from rfl]; simp only [fold_lower.j2]; repeat' split
  all_goals first | exact ⟨_, rfl⟩ | exact h3 _ _ _
 have h1 : ∀ k x b, ∃ v, fold_lower.j1 (k + 7) x b = some v := by
  intro k x b; rw [show k + 7 = (k + 6) + 1 from rfl]; simp only [fold_lower.j1]; repeat' split
  all_goals first | exact ⟨_, rfl⟩ | exact h2 _ _ _
 have h0 : ∀ k x b, ∃ v, fold_lower.j0 (k + 8) x b = some v := by
  intro k x b; rw [show k + 8 = (k + 7) + 1 from rfl]; simp only [fold_lower.j0]; repeat' split
  all_goals first | exact ⟨_, rfl⟩ | exact h1 _ _ _ | exact h2 _ _ _
 unfold fold_lower.f
 split <;> exact h0 4 _ _
def lowerI (x : Int) : Int := (fold_lower.f 12 x).getD x
theorem lower_some (x : Int) : fold_lower.f 12 x = some (lowerI x) := by
 obtain ⟨v, hv⟩ := lowerT x; unfold lowerI; rw [hv]
 rfl
theorem letterT (x : Int) : ∃ v, fold_letter.f x = some v := by
 unfold fold_letter.f; repeat' split
 all_goals exact ⟨_, rfl⟩
def letterI (x : Int) : Int := (fold_letter.f x).getD x
theorem letter_some (x : Int) : fold_letter.f x = some (letterI x) := by
 obtain ⟨v, hv⟩ := letterT x; unfold letterI; rw [hv]
 rfl
theorem kinT (a b c : Int) : kind_in.f a b c = some (decide (b ≤ a ∧ a ≤ c)) := by
 unfold kind_in.f
 by_cases h : b ≤ a <;> simp [h]
theorem kindT (x : Int) : ∃ v, kind_Of.f 12 x = some v := by
 have h7 : ∀ k x b, ∃ v, kind_Of.j7 (k + 1) x b = some v := by
  intro k x b; simp only [kind_Of.j7, kinT, Option.bind_some]; repeat' split
  all_goals exact ⟨_, rfl⟩
 have h6 : ∀ k x b, ∃ v, kind_Of.j6 (k + 2) x b = some v := by
  intro k x b; rw [show k + 2 = (k + 1) + 1 from rfl]; simp only [kind_Of.j6, kinT, Option.bind_some]; repeat' split
  all_goals first | exact ⟨_, rfl⟩ | exact h7 _ _ _
 have h5 : ∀ k x b, ∃ v, kind_Of.j5 (k + 3) x b = some v := by
  intro k x b; rw [show k + 3 = (k + 2) + 1 from rfl]; simp only [kind_Of.j5, kinT, Option.bind_some]; repeat' split
  all_goals first | exact ⟨_, rfl⟩ | exact h6 _ _ _
 have h4 : ∀ k x y b, ∃ v, kind_Of.j4 (k + 4) x y b = some v := by
  intro k x y b; rw [show k + 4 = (k + 3) + 1 from rfl]; simp only [kind_Of.j4, kinT, Option.bind_some]; repeat' split
  all_goals first | exact ⟨_, rfl⟩ | exact h5 _ _ _
 have h3 : ∀ k x y b, ∃ v, kind_Of.j3 (k + 5) x y b = some v := by
  intro k x y b; rw [show k + 5 = (k + 4) + 1 from rfl]; simp only [kind_Of.j3, kinT, Option.bind_some]; repeat' split
  all_goals first | exact ⟨_, rfl⟩ | exact h4 _ _ _ _
 have h2 : ∀ k x y b, ∃ v, kind_Of.j2 (k + 6) x y b = some v := by
  intro k x y b; rw [show k + 6 = (k + 5) + 1 from rfl]; simp only [kind_Of.j2, kinT, Option.bind_some]; repeat' split
  all_goals first | exact ⟨_, rfl⟩ | exact h3 _ _ _ _
 have h1 : ∀ k x y b, ∃ v, kind_Of.j1 (k + 7) x y b = some v := by
  intro k x y b; rw [show k + 7 = (k + 6) + 1 from rfl]; simp only [kind_Of.j1, kinT, Option.bind_some]; repeat' split
  all_goals first | exact ⟨_, rfl⟩ | exact h2 _ _ _ _
 have h0 : ∀ k x y b, ∃ v, kind_Of.j0 (k + 8) x y b = some v := by
  intro k x y b; rw [show k + 8 = (k + 7) + 1 from rfl]; simp only [kind_Of.j0, kinT, Option.bind_some]; repeat' split
  all_goals first | exact ⟨_, rfl⟩ | exact h1 _ _ _ _
 unfold kind_Of.f; repeat' split
 all_goals exact h0 4 _ _ _
def kindI (x : Int) : Int := (kind_Of.f 12 x).getD 0
theorem kind_some (x : Int) : kind_Of.f 12 x = some (kindI x) := by
 obtain ⟨v, hv⟩ := kindT x; unfold kindI; rw [hv]
 rfl
def latinB : ByteArray := ⟨#[65, 65, 65, 65, 65, 65, 195, 134, 67, 69, 69, 69, 69, 73, 73, 73, 73, 195, 144, 78, 79, 79, 79, 79, 79, 195, 151, 79, 85, 85, 85, 85, 89, 195, 158, 195, 159, 97, 97, 97, 97, 97, 97, 195, 166, 99, 101, 101, 101, 101, 105, 105, 105, 105, 195, 176, 110, 111, 111, 111, 111, 111, 195, 183, 111, 117, 117, 117, 117, 121, 195, 190, 121]⟩
def latinL : List Nat := [65, 65, 65, 65, 65, 65, 198, 67, 69, 69, 69, 69, 73, 73, 73, 73, 208, 78, 79, 79, 79, 79, 79, 215, 79, 85, 85, 85, 85, 89, 222, 223, 97, 97, 97, 97, 97, 97, 230, 99, 101, 101, 101, 101, 105, 105, 105, 105, 240, 110, 111, 111, 111, 111, 111, 247, 111, 117, 117, 117, 117, 121, 254, 121]
def latinW (k : Nat) : Nat := if latinL.getD k 0 < 128 then 1 else 2
def latinP : Nat → Nat
 | 0 => 0
 | k + 1 => latinP k + latinW k
theorem latin_dec : ∀ k : Fin 64, Utf8.decode latinB (latinP k.val) = (latinL.getD k.val 0, latinW k.val) ∧ latinP k.val < latinB.size ∧ latinL.getD k.val 0 < 256 := by decide +kernel
def unmarkedI (x : Int) : Int := if 192 ≤ x ∧ x ≤ 255 then ((latinL.getD (x - 192).toNat 0 : Nat) : Int) else x
set_option maxHeartbeats 4000000 in
set_option maxRecDepth 100000 in
theorem unmarked_calls (x : Int) (w : World) :
 Calls Tryd.prog 59 #[.int .i32 x] w fun e w' => e = .returned (.int .i32 (unmarkedI x)) ∧ Below w.heap.size w w' := by
 unfold unmarkedI
 by_cases h : 192 ≤ x ∧ x ≤ 255
 ·rw [if_pos h]; have c1 : decide (x < 192) = false := decide_eq_false (by omega); have c2 : decide (x > 255) = false := decide_eq_false (by omega); have c2' : decide (255 < x) = false := decide_eq_false (by omega); obtain ⟨R, hR⟩ : ∃ R : Nat, latinL.getD (x - 192).toNat 0 = R := ⟨_, rfl⟩
  have HR := Aside0.mk hR; rw [hR]; clear hR; go_enter Tryd.func59, Tryd.ntmps59; go_wp2
  go_loopw [3] (fun v wr => ∃ (k : Nat) (V : Int), v = .int .i32 V ∧ Aside0 (V = 192 + (k : Int)) ∧ k ≤ 63 ∧ 192 + (k : Int) ≤ x ∧ Aside0 (wr.heap[w.heap.size]? = some (.stringIter latinB (latinP k))) ∧ Aside0 (Below w.heap.size w wr)) (fun v _ => (256 - (intOf v)).toNat)
  case atStart => exact ⟨0, 192, rfl, ⟨rfl⟩, by omega, by omega, ⟨World.iter_heap _ _ _⟩, ⟨(Below.refl _ w).alloc (Nat.le_refl _) _⟩⟩
  case round =>
   obtain ⟨k, V, rfl, HV, hk, hkx, HI, HB⟩ := hrel; obtain ⟨d1, d2, d3⟩ := latin_dec ⟨k, by omega⟩; dsimp only at d1 d2 d3; have hnx : ∀ ty, (Instr.next (.pointer (some ⟨w.heap.size, 0, none⟩)) true ty).run Tryd.prog wr = _ := fun ty => Lib.run_next_any_at wr w.heap.size latinB (latinP k) ty HI.out d2
   rw [d1] at hnx; have HI2 : Aside0 ((wr.iterAt w.heap.size latinB (latinP (k + 1))).heap[w.heap.size]? = some (.stringIter latinB (latinP (k + 1)))) := ⟨Lib.iterAt_heap wr w.heap.size latinB (latinP k) (latinP (k + 1)) HI.out⟩; have HB2 : Aside0 (Below w.heap.size w (wr.iterAt w.heap.size latinB (latinP (k + 1)))) := ⟨Lib.below_iterAt HB.out (Nat.le_refl _) latinB (latinP (k + 1))⟩; have hP : latinP k + latinW k = latinP (k + 1) := rfl; dsimp only at hnx; rw [hP] at hnx; clear hP d1 d2; obtain ⟨W1, hW1⟩ : ∃ W1, W1 = wr.iterAt w.heap.size latinB (latinP (k + 1)) := ⟨_, rfl⟩
   rw [← hW1] at hnx HI2 HB2; clear hW1
   by_cases he : V = x
   ·have hbe : (V == x) = true := beq_iff_eq.2 he; have HK : Aside0 (latinL.getD k 0 = R) := ⟨by rw [← HR.out]; congr 1; have := HV.out; omega⟩; rw [HK.out] at hnx; clear he; go_wp2; go_ret; exact ⟨rfl, HB2.out⟩
   ·have hbe : (V == x) = false := beq_eq_false_iff_ne.2 he; have hVr : Aside0 (0 ≤ V ∧ V ≤ 255) := ⟨by have := HV.out; omega⟩; obtain ⟨V2, hV2⟩ : ∃ V2 : Int, wrap32 (V + 1) = V2 := ⟨_, rfl⟩
    have HV2 : Aside0 (V2 = 192 + ((k + 1 : Nat) : Int)) := ⟨by rw [← hV2]; have := HV.out; unfold wrap32; omega⟩; have hne : ¬ (192 + (k : Int) = x) := fun e => he (by rw [HV.out]; exact e)
    clear he; go_wp2
    go_roundw
    case rel => exact ⟨k + 1, V2, congrArg (Value.int .i32) hV2, HV2, by omega, by omega, HI2, HB2⟩
    case measure =>
     have a1 := HV.out; have a2 := HV2.out
     simp [intOf]
     omega
 ·rw [if_neg h]
  by_cases hl : x < 192
  ·have c1 : decide (x < 192) = true := decide_eq_true hl; go_enter Tryd.func59, Tryd.ntmps59; go_wp2; go_ret; exact ⟨rfl, Below.refl _ _⟩
  ·have c1 : decide (x < 192) = false := decide_eq_false hl; have c2 : decide (x > 255) = true := decide_eq_true (by omega); have c2' : decide (255 < x) = true := decide_eq_true (by omega); go_enter Tryd.func59, Tryd.ntmps59; go_wp2; go_ret; exact ⟨rfl, Below.refl _ _⟩
def ligI (x : Int) : Option (List UInt8) :=
 if x = 198 then some [65, 69] else
 if x = 230 then some [97, 101] else
 if x = 338 then some [79, 69] else
 if x = 339 then some [111, 101] else
 if x = 223 then some [115, 115] else
 if x = 383 then some [115] else
 if x = 306 then some [73, 74] else
 if x = 307 then some [105, 106] else
 if x = 64256 then some [102, 102] else
 if x = 64257 then some [102, 105] else
 if x = 64258 then some [102, 108] else
 if x = 64259 then some [102, 102, 105] else
 if x = 64260 then some [102, 102, 108] else
 if x = 64261 then some [115, 116] else
 if x = 64262 then some [115, 116] else
 none
theorem fields_lig : Lib.fields [102, 102, 32, 102, 105, 32, 102, 108, 32, 102, 102, 105, 32, 102, 102, 108, 32, 115, 116, 32, 115, 116] = [[102, 102], [102, 105], [102, 108], [102, 102, 105], [102, 102, 108], [115, 116], [115, 116]] := by decide +kernel
theorem fields_calls (w : World) (hT : Utf.Tabs2 w) : Calls Tryd.prog 82 #[.string ⟨#[102, 102, 32, 102, 105, 32, 102, 108, 32, 102, 102, 105, 32, 102, 102, 108, 32, 115, 116, 32, 115, 116]⟩] w fun e w' =>
 e = .returned (.slice (some ⟨w.heap.size, 0, none⟩) 7 7) ∧ w' = w.alloc (.cells #[.string ⟨#[102, 102]⟩, .string ⟨#[102, 105]⟩, .string ⟨#[102, 108]⟩, .string ⟨#[102, 102, 105]⟩, .string ⟨#[102, 102, 108]⟩, .string ⟨#[115, 116]⟩, .string ⟨#[115, 116]⟩] 9) := by
 first | refine (Tryd.strings_Fields_laid _ w ?_ ?_ hT.2).mono ?_ | refine (Tryd.strings_Fields _ w ?_ ?_ hT.2).mono ?_
 ·show 22 < 4294967281
  omega
 ·intro j b hb; have hall : ∀ b ∈ ([102, 102, 32, 102, 105, 32, 102, 108, 32, 102, 102, 105, 32, 102, 102, 108, 32, 115, 116, 32, 115, 116] : List UInt8), b.toNat < 128 := by decide
  exact hall b (List.mem_of_getElem? hb)
 ·rintro e w' ⟨rfl, rfl⟩; have e1 : Lib.fields (⟨#[102, 102, 32, 102, 105, 32, 102, 108, 32, 102, 102, 105, 32, 102, 102, 108, 32, 115, 116, 32, 115, 116]⟩ : ByteArray).data.toList = _ := fields_lig; rw [e1]; exact ⟨rfl, rfl⟩
set_option maxHeartbeats 8000000 in
set_option maxRecDepth 100000 in
theorem ligature_calls (x : Int) (w : World) (hT : Utf.Tabs2 w) : Calls Tryd.prog 65 #[.int .i32 x] w fun e w' => e = .returned (.tuple #[.string ⟨((ligI x).getD []).toArray⟩, .bool (ligI x).isSome]) ∧ Below w.heap.size w w' := by
 by_cases x198 : x = 198
 ·subst x198; go_enter Tryd.func65, Tryd.ntmps65; go_wp2; go_ret2; exact ⟨rfl, Below.refl _ _⟩
 by_cases x230 : x = 230
 ·subst x230; go_enter Tryd.func65, Tryd.ntmps65; go_wp2; go_ret2; exact ⟨rfl, Below.refl _ _⟩
 by_cases x338 : x = 338
 ·subst x338; go_enter Tryd.func65, Tryd.ntmps65; go_wp2; go_ret2; exact ⟨rfl, Below.refl _ _⟩
 by_cases x339 : x = 339
 ·subst x339; go_enter Tryd.func65, Tryd.ntmps65; go_wp2; go_ret2; exact ⟨rfl, Below.refl _ _⟩
 by_cases x223 : x = 223
 ·subst x223; go_enter Tryd.func65, Tryd.ntmps65; go_wp2; go_ret2; exact ⟨rfl, Below.refl _ _⟩
 by_cases x383 : x = 383
 ·subst x383; go_enter Tryd.func65, Tryd.ntmps65; go_wp2; go_ret2; exact ⟨rfl, Below.refl _ _⟩
 by_cases x306 : x = 306
 ·subst x306; go_enter Tryd.func65, Tryd.ntmps65; go_wp2; go_ret2; exact ⟨rfl, Below.refl _ _⟩
 by_cases x307 : x = 307
 ·subst x307; go_enter Tryd.func65, Tryd.ntmps65; go_wp2; go_ret2; exact ⟨rfl, Below.refl _ _⟩
 by_cases x64256 : x = 64256
 ·subst x64256; have HT := Aside0.mk hT; clear hT; go_enter Tryd.func65, Tryd.ntmps65; go_wp2_with (go_at_call 82; (with_reducible refine (fields_calls _ HT.out).mono ?_); rintro e w1 ⟨rfl, rfl⟩); go_ret2; exact ⟨rfl, (Below.refl _ w).alloc (Nat.le_refl _) _⟩
 by_cases x64257 : x = 64257
 ·subst x64257; have HT := Aside0.mk hT; clear hT; go_enter Tryd.func65, Tryd.ntmps65; go_wp2_with (go_at_call 82; (with_reducible refine (fields_calls _ HT.out).mono ?_); rintro e w1 ⟨rfl, rfl⟩); go_ret2; exact ⟨rfl, (Below.refl _ w).alloc (Nat.le_refl _) _⟩
 by_cases x64258 : x = 64258
 ·subst x64258; have HT := Aside0.mk hT; clear hT; go_enter Tryd.func65, Tryd.ntmps65; go_wp2_with (go_at_call 82; (with_reducible refine (fields_calls _ HT.out).mono ?_); rintro e w1 ⟨rfl, rfl⟩); go_ret2; exact ⟨rfl, (Below.refl _ w).alloc (Nat.le_refl _) _⟩
 by_cases x64259 : x = 64259
 ·subst x64259; have HT := Aside0.mk hT; clear hT; go_enter Tryd.func65, Tryd.ntmps65; go_wp2_with (go_at_call 82; (with_reducible refine (fields_calls _ HT.out).mono ?_); rintro e w1 ⟨rfl, rfl⟩); go_ret2; exact ⟨rfl, (Below.refl _ w).alloc (Nat.le_refl _) _⟩
 by_cases x64260 : x = 64260
 ·subst x64260; have HT := Aside0.mk hT; clear hT; go_enter Tryd.func65, Tryd.ntmps65; go_wp2_with (go_at_call 82; (with_reducible refine (fields_calls _ HT.out).mono ?_); rintro e w1 ⟨rfl, rfl⟩); go_ret2; exact ⟨rfl, (Below.refl _ w).alloc (Nat.le_refl _) _⟩
 by_cases x64261 : x = 64261
 ·subst x64261; have HT := Aside0.mk hT; clear hT; go_enter Tryd.func65, Tryd.ntmps65; go_wp2_with (go_at_call 82; (with_reducible refine (fields_calls _ HT.out).mono ?_); rintro e w1 ⟨rfl, rfl⟩); go_ret2; exact ⟨rfl, (Below.refl _ w).alloc (Nat.le_refl _) _⟩
 by_cases x64262 : x = 64262
 ·subst x64262; have HT := Aside0.mk hT; clear hT; go_enter Tryd.func65, Tryd.ntmps65; go_wp2_with (go_at_call 82; (with_reducible refine (fields_calls _ HT.out).mono ?_); rintro e w1 ⟨rfl, rfl⟩); go_ret2; exact ⟨rfl, (Below.refl _ w).alloc (Nat.le_refl _) _⟩
 have hL : ligI x = none := by
  unfold ligI; rw [if_neg x198, if_neg x230, if_neg x338, if_neg x339, if_neg x223, if_neg x383, if_neg x306, if_neg x307, if_neg x64256, if_neg x64257, if_neg x64258, if_neg x64259, if_neg x64260, if_neg x64261, if_neg x64262]
 rw [hL]; have y198 : (x == 198) = false := beq_eq_false_iff_ne.2 x198; have y230 : (x == 230) = false := beq_eq_false_iff_ne.2 x230; have y338 : (x == 338) = false := beq_eq_false_iff_ne.2 x338; have y339 : (x == 339) = false := beq_eq_false_iff_ne.2 x339; have y223 : (x == 223) = false := beq_eq_false_iff_ne.2 x223; have y383 : (x == 383) = false := beq_eq_false_iff_ne.2 x383; have y306 : (x == 306) = false := beq_eq_false_iff_ne.2 x306; have y307 : (x == 307) = false := beq_eq_false_iff_ne.2 x307
 by_cases hr : x < 64256
 ·have c1 : decide (64256 ≤ x) = false := decide_eq_false (by omega); have c1' : decide (x ≥ 64256) = false := decide_eq_false (by omega); clear x64256 x64257 x64258 x64259 x64260 x64261 x64262; go_enter Tryd.func65, Tryd.ntmps65; go_wp2; go_ret2; exact ⟨rfl, Below.refl _ _⟩
 ·have c1 : decide (64256 ≤ x) = true := decide_eq_true (by omega); have c1' : decide (x ≥ 64256) = true := decide_eq_true (by omega); have c2 : decide (x ≤ 64262) = false := decide_eq_false (by omega); clear x64256 x64257 x64258 x64259 x64260 x64261 x64262; go_enter Tryd.func65, Tryd.ntmps65; go_wp2; go_ret2; exact ⟨rfl, Below.refl _ _⟩
def kFn : Kd Nat := Kd.scalar (fun n => Value.func (.func n) #[] #[]) (fun _ => rfl)
theorem infoFn : (Tryd.prog.info? 106).map (fun i => (i.zero, i.size, i.bytes)) = some (some .nilFunc, 1, 8) := by kernel_rfl
def fOn (opt m : Int) : Bool := decide (opt / m % 2 = 1)
theorem and_tab : ∀ n : Fin 32, Go.bits .and .i64 (n.val : Int) 1 = (if fOn n.val 1 then 1 else 0) ∧ Go.bits .and .i64 (n.val : Int) 2 = (if fOn n.val 2 then 2 else 0) ∧ Go.bits .and .i64 (n.val : Int) 4 = (if fOn n.val 4 then 4 else 0) ∧ Go.bits .and .i64 (n.val : Int) 8 = (if fOn n.val 8 then 8 else 0) ∧ Go.bits .and .i64 (n.val : Int) 16 = (if fOn n.val 16 then 16 else 0) := by decide +kernel
theorem and_opt (opt : Int) (h : 0 ≤ opt ∧ opt ≤ 31) : (Go.bits .and .i64 opt 1 != 0) = fOn opt 1 ∧ (Go.bits .and .i64 opt 2 != 0) = fOn opt 2 ∧ (Go.bits .and .i64 opt 4 != 0) = fOn opt 4 ∧ (Go.bits .and .i64 opt 8 != 0) = fOn opt 8 ∧ (Go.bits .and .i64 opt 16 != 0) = fOn opt 16 := by
 obtain ⟨n, rfl⟩ : ∃ n : Nat, opt = (n : Int) := ⟨opt.toNat, by omega⟩
 obtain ⟨h1, h2, h3, h4, h5⟩ := and_tab ⟨n, by omega⟩; dsimp only at h1 h2 h3 h4 h5; rw [h1, h2, h3, h4, h5]; refine ⟨?_, ?_, ?_, ?_, ?_⟩ <;> (split <;> simp_all)
def stepsL (opt : Int) : List Nat := (if fOn opt 1 = true then [58] else []) ++ (if fOn opt 2 = true then [59] else []) ++ (if fOn opt 8 = true then [60] else [])
set_option maxHeartbeats 4000000 in
set_option maxRecDepth 100000 in
theorem put_calls (opt bit : Int) (F : Nat) (xs ys : List Nat) (v : Value) (bo bl : Nat) (w0 w : World) (on : Bool) (hon : (Go.bits .and .i64 opt bit != 0) = on) (hys : ys = xs ++ (if on = true then [F] else []))
 (hbo : w.heap[bo]? = some (.cells #[.int .i64 opt] 3 (0, 0))) (hbl : w.heap[bl]? = some (.cells #[v] 86 (0, 0))) (hne : bo ≠ bl) (hb0 : w0.heap.size ≤ bl)
 (HO : Kd.R kFn 106 w w0.heap.size (fun _ => True) v xs) (HB : Below w0.heap.size w0 w) (hlen : xs.length ≤ 10) :
 Calls Tryd.prog 57 #[.int .i64 bit, .func (.func F) #[] #[], .pointer (some ⟨bo, 0, none⟩), .pointer (some ⟨bl, 0, none⟩)] w fun e w' => e = .returned (.tuple #[]) ∧ ∃ v', w'.heap[bl]? = some (.cells #[v'] 86 (0, 0)) ∧ w'.heap[bo]? = some (.cells #[.int .i64 opt] 3 (0, 0)) ∧ Kd.R kFn 106 w' w0.heap.size (fun _ => True) v' ys ∧ Below w0.heap.size w0 w' := by
 subst hys; have hlt : bl < w.heap.size := (Array.getElem?_eq_some_iff.1 hbl).1; have hlo : bo < w.heap.size := (Array.getElem?_eq_some_iff.1 hbo).1; have hcell : w.cell? ⟨bo, 0, none⟩ = some (.int .i64 opt) := cell_of_one hbo; have cl : w.cell? ⟨bl, 0, none⟩ = some v := cell_of_one hbl; have fl : w.frozen? ⟨bl, 0, none⟩ = false := free_of_one hbl
 cases on with
 | false =>
  go_enter Tryd.func57, Tryd.ntmps57; go_wp2
  go_end0
  exact ⟨rfl, v, hbl, hbo, by simpa using HO, HB⟩
 | true =>
  have HO1 := Aside0.mk HO; have HB1 := Aside0.mk HB; have HL := Aside0.mk hbl; have HC := Aside0.mk hbo; clear HO HB hbl hbo; go_enter Tryd.func57, Tryd.ntmps57; go_wp2_with (at_builtin; refine Kd.R_append kFn (w0 := w0) w0.heap.size rfl (.tmp 10) (.tmp 12) 86 106 .nilFunc 8 rfl Tryd.underlying86 infoFn rfl (by decide) (by omega) v xs F [.func (.func F) #[] #[]] (fun _ => True) (fun _ => False) rfl (by first | (go_simp; done) | (go_simp; rfl)) ?aP (fun _ h => h.elim) (fun _ _ => trivial) ?aO ?aB ?aS ?aL ?_; (case aP => exact rfl); (case aO => exact HO1.out); (case aB => exact HB1.out); (case aS => exact HB1.out.size); (case aL => omega); intro v1 w1 hown hbel hgrow _; obtain ⟨A1, c1, rfl⟩ := Kd.R_slice hown; have hk1 : w1.heap[bl]? = some (.cells #[v] 86 (0, 0)) := (hgrow.block bl hlt (Kd.R_ne HO1.out HL.out (by decide))).trans HL.out; have hc1 : w1.heap[bo]? = some (.cells #[.int .i64 opt] 3 (0, 0)) := (hgrow.block bo hlo (Kd.R_ne HO1.out HC.out (by decide))).trans HC.out; have cl1 : w1.cell? ⟨bl, 0, none⟩ = some v := cell_of_one hk1; have fl1 : w1.frozen? ⟨bl, 0, none⟩ = false := free_of_one hk1)
  go_end0
  exact ⟨rfl, _, one_setCell hk1, (Below.heap_setCell w1 _ _ bo hne).trans hc1, (by have h2 := Kd.R_set hown hk1 (by decide) 0 (.slice A1 (xs.length + 1) c1); rw [List.length_append] at h2; exact h2), hbel.setCell (p := ⟨bl, 0, none⟩) hb0 _⟩
set_option maxHeartbeats 4000000 in
set_option maxRecDepth 100000 in
theorem steps_calls (opt : Int) (w : World) (ho : 0 ≤ opt ∧ opt ≤ 31) : Calls Tryd.prog 44 #[.int .i64 opt] w fun e w' => ∃ v, e = .returned v ∧ Kd.R kFn 106 w' w.heap.size (fun _ => True) v (stepsL opt) ∧ Below w.heap.size w w' := by
 obtain ⟨o1, o2, o4, o8, o16⟩ := and_opt opt ho; have O1 := Aside0.mk o1; have O2 := Aside0.mk o2; have O8 := Aside0.mk o8; have hmf : ∀ (fn : Fn) (first cap : Array Value) (w : World), (Instr.makeFunc fn first cap).run Tryd.prog w = .ok (.func fn first cap) w := fun _ _ _ _ => rfl
 have HBO : Aside0 (((w.alloc (.cells #[.int .i64 opt] 3)).alloc (.cells #[.slice none 0 0] 86)).heap[w.heap.size]? = some (.cells #[.int .i64 opt] 3 (0, 0))) := ⟨by rw [Lib.alloc_old _ _ _ (by simp)]; exact heap_alloc_new w _⟩; have HBL : Aside0 (((w.alloc (.cells #[.int .i64 opt] 3)).alloc (.cells #[.slice none 0 0] 86)).heap[w.heap.size + 1]? = some (.cells #[.slice none 0 0] 86 (0, 0))) := ⟨by rw [show w.heap.size + 1 = (w.alloc (.cells #[.int .i64 opt] 3)).heap.size from by simp]; exact heap_alloc_new _ _⟩; have HB : Aside0 (Below w.heap.size w ((w.alloc (.cells #[.int .i64 opt] 3)).alloc (.cells #[.slice none 0 0] 86))) := ⟨((Below.refl _ w).alloc (Nat.le_refl _) _).alloc (by simp) _⟩; have HR : Aside0 (Kd.R kFn 106 ((w.alloc (.cells #[.int .i64 opt] 3)).alloc (.cells #[.slice none 0 0] 86)) w.heap.size (fun _ => True) (.slice none 0 0) []) := ⟨Kd.R_nil _ _ _ _ _⟩; have n1 : w.heap.size ≠ w.heap.size + 1 := by omega
 have n2 : w.heap.size ≤ w.heap.size + 1 := by omega
 have n3 : ([] : List Nat).length ≤ 10 := by simp
 obtain ⟨X1, hX1⟩ : ∃ X1, X1 = ([] : List Nat) ++ (if fOn opt 1 = true then [58] else []) := ⟨_, rfl⟩
 obtain ⟨X2, hX2⟩ : ∃ X2, X2 = X1 ++ (if fOn opt 2 = true then [59] else []) := ⟨_, rfl⟩
 obtain ⟨X3, hX3⟩ : ∃ X3, X3 = X2 ++ (if fOn opt 8 = true then [60] else []) := ⟨_, rfl⟩
 have l1 : X1.length ≤ 1 := by rw [hX1]; split <;> simp
 have l2 : X2.length ≤ 2 := by rw [hX2]; split <;> simp <;> omega
 have m1 : X1.length ≤ 10 := by omega
 have m2 : X2.length ≤ 10 := by omega
 have HX1 := Aside0.mk hX1; have HX2 := Aside0.mk hX2; have HX3 := Aside0.mk hX3; have HS : Aside0 (X3 = stepsL opt) := ⟨by rw [hX3, hX2, hX1]; simp [stepsL]⟩; clear hX1 hX2 hX3 o1 o2 o4 o8 o16; go_enter Tryd.func44, Tryd.ntmps44; go_wp2_with (first | (go_at_call 57; (with_reducible refine (put_calls opt 1 58 [] X1 (.slice none 0 0) w.heap.size (w.heap.size + 1) w _ (fOn opt 1) O1.out HX1.out HBO.out HBL.out n1 n2 HR.out HB.out n3).mono ?_); rintro e w1 ⟨rfl, v1, a1, b1, r1, d1⟩; have HBL1 := Aside0.mk a1; have HBO1 := Aside0.mk b1; have HR1 := Aside0.mk r1; have HB1 := Aside0.mk d1; clear a1 b1 r1 d1) | (go_at_call 57; (with_reducible refine (put_calls opt 2 59 X1 X2 v1 w.heap.size (w.heap.size + 1) w _ (fOn opt 2) O2.out HX2.out HBO1.out HBL1.out n1 n2 HR1.out HB1.out m1).mono ?_); rintro e w2 ⟨rfl, v2, a1, b1, r1, d1⟩; have HBL2 := Aside0.mk a1; have HBO2 := Aside0.mk b1; have HR2 := Aside0.mk r1; have HB2 := Aside0.mk d1; clear a1 b1 r1 d1) | (go_at_call 57; (with_reducible refine (put_calls opt 8 60 X2 X3 v2 w.heap.size (w.heap.size + 1) w _ (fOn opt 8) O8.out HX3.out HBO2.out HBL2.out n1 n2 HR2.out HB2.out m2).mono ?_); rintro e w3 ⟨rfl, v3, a1, b1, r1, d1⟩; have c3 := cell_of_one a1; have HR3 := Aside0.mk r1; have HB3 := Aside0.mk d1; clear a1 b1 r1 d1)); go_ret; exact ⟨_, rfl, HS.out ▸ HR3.out, HB3.out⟩
def stepN (n : Nat) (x : Int) : Int := if n = 58 then lowerI x else if n = 59 then unmarkedI x else letterI x
def stepI (opt x : Int) : Int := (stepsL opt).foldl (fun y n => stepN n y) x
def foldS (opt x : Int) : List Int := match (if fOn opt 4 = true then ligI x else none) with
 | some l => l.map fun b => (b.toNat : Int)
 | none => [x]
def foldDrop (opt x : Int) : Bool := (fOn opt 16 && decide (kindI x = 4)) || (fOn opt 2 && decide (kindI x = 2))
def foldB (opt : Int) (l : List Int) : List UInt8 := l.flatMap fun y => (Utf8.encode (stepI opt y)).data.toList
def foldR (opt x : Int) : List UInt8 := if foldDrop opt x = true then [] else foldB opt (foldS opt x)
theorem foldB_snoc (opt : Int) (l : List Int) (y : Int) : foldB opt (l ++ [y]) = foldB opt l ++ (Utf8.encode (stepI opt y)).data.toList := by simp [foldB]
theorem enc_len4 (r : Int) : (Utf8.encode r).data.toList.length ≤ 4 := by
 unfold Utf8.encode; generalize (if Utf8.valid r then r.toNat else Utf8.runeError) = c; dsimp only
 split
 ·simp
 ·split
  ·simp
  ·split
   ·simp
   ·simp
theorem foldB_len (opt : Int) (l : List Int) : (foldB opt l).length ≤ 4 * l.length := by
 induction l with
 | nil => simp [foldB]
 | cons c l ih =>
  have := enc_len4 (stepI opt c); have e : foldB opt (c :: l) = (Utf8.encode (stepI opt c)).data.toList ++ foldB opt l := by simp [foldB]
  rw [e, List.length_append, List.length_cons]
  omega
theorem lig_len (x : Int) (l : List UInt8) (h : ligI x = some l) : l.length ≤ 3 := by
 unfold ligI at h
 by_cases x198 : x = 198
 ·rw [if_pos x198] at h; injection h with h
  subst h
  decide
 rw [if_neg x198] at h
 by_cases x230 : x = 230
 ·rw [if_pos x230] at h; injection h with h
  subst h
  decide
 rw [if_neg x230] at h
 by_cases x338 : x = 338
 ·rw [if_pos x338] at h; injection h with h
  subst h
  decide
 rw [if_neg x338] at h
 by_cases x339 : x = 339
 ·rw [if_pos x339] at h; injection h with h
  subst h
  decide
 rw [if_neg x339] at h
 by_cases x223 : x = 223
 ·rw [if_pos x223] at h; injection h with h
  subst h
  decide
 rw [if_neg x223] at h
 by_cases x383 : x = 383
 ·rw [if_pos x383] at h; injection h with h
  subst h
  decide
 rw [if_neg x383] at h
 by_cases x306 : x = 306
 ·rw [if_pos x306] at h; injection h with h
  subst h
  decide
 rw [if_neg x306] at h
 by_cases x307 : x = 307
 ·rw [if_pos x307] at h; injection h with h
  subst h
  decide
 rw [if_neg x307] at h
 by_cases x64256 : x = 64256
 ·rw [if_pos x64256] at h; injection h with h
  subst h
  decide
 rw [if_neg x64256] at h
 by_cases x64257 : x = 64257
 ·rw [if_pos x64257] at h; injection h with h
  subst h
  decide
 rw [if_neg x64257] at h
 by_cases x64258 : x = 64258
 ·rw [if_pos x64258] at h; injection h with h
  subst h
  decide
 rw [if_neg x64258] at h
 by_cases x64259 : x = 64259
 ·rw [if_pos x64259] at h; injection h with h
  subst h
  decide
 rw [if_neg x64259] at h
 by_cases x64260 : x = 64260
 ·rw [if_pos x64260] at h; injection h with h
  subst h
  decide
 rw [if_neg x64260] at h
 by_cases x64261 : x = 64261
 ·rw [if_pos x64261] at h; injection h with h
  subst h
  decide
 rw [if_neg x64261] at h
 by_cases x64262 : x = 64262
 ·rw [if_pos x64262] at h; injection h with h
  subst h
  decide
 rw [if_neg x64262] at h; cases h
theorem foldS_len (opt x : Int) : (foldS opt x).length ≤ 3 := by
 unfold foldS
 cases h : (if fOn opt 4 = true then ligI x else none) with
 | none => simp
 | some l =>
  have : ligI x = some l := by split at h <;> first | exact h | cases h
  simpa using lig_len x l this
theorem foldR_len (opt x : Int) : (foldR opt x).length ≤ 12 := by
 unfold foldR
 split
 ·simp
 ·have h1 := foldB_len opt (foldS opt x); have h2 := foldS_len opt x
  omega
theorem lig_runes (x : Int) (l : List UInt8) (h : ligI x = some l) : (Conv.runesFrom ⟨l.toArray⟩ (⟨l.toArray⟩ : ByteArray).size 0 #[]) = (l.map fun b => Value.int .i32 (b.toNat : Int)).toArray := by
 unfold ligI at h
 by_cases x198 : x = 198
 ·rw [if_pos x198] at h; injection h with h
  subst h
  kernel_rfl
 rw [if_neg x198] at h
 by_cases x230 : x = 230
 ·rw [if_pos x230] at h; injection h with h
  subst h
  kernel_rfl
 rw [if_neg x230] at h
 by_cases x338 : x = 338
 ·rw [if_pos x338] at h; injection h with h
  subst h
  kernel_rfl
 rw [if_neg x338] at h
 by_cases x339 : x = 339
 ·rw [if_pos x339] at h; injection h with h
  subst h
  kernel_rfl
 rw [if_neg x339] at h
 by_cases x223 : x = 223
 ·rw [if_pos x223] at h; injection h with h
  subst h
  kernel_rfl
 rw [if_neg x223] at h
 by_cases x383 : x = 383
 ·rw [if_pos x383] at h; injection h with h
  subst h
  kernel_rfl
 rw [if_neg x383] at h
 by_cases x306 : x = 306
 ·rw [if_pos x306] at h; injection h with h
  subst h
  kernel_rfl
 rw [if_neg x306] at h
 by_cases x307 : x = 307
 ·rw [if_pos x307] at h; injection h with h
  subst h
  kernel_rfl
 rw [if_neg x307] at h
 by_cases x64256 : x = 64256
 ·rw [if_pos x64256] at h; injection h with h
  subst h
  kernel_rfl
 rw [if_neg x64256] at h
 by_cases x64257 : x = 64257
 ·rw [if_pos x64257] at h; injection h with h
  subst h
  kernel_rfl
 rw [if_neg x64257] at h
 by_cases x64258 : x = 64258
 ·rw [if_pos x64258] at h; injection h with h
  subst h
  kernel_rfl
 rw [if_neg x64258] at h
 by_cases x64259 : x = 64259
 ·rw [if_pos x64259] at h; injection h with h
  subst h
  kernel_rfl
 rw [if_neg x64259] at h
 by_cases x64260 : x = 64260
 ·rw [if_pos x64260] at h; injection h with h
  subst h
  kernel_rfl
 rw [if_neg x64260] at h
 by_cases x64261 : x = 64261
 ·rw [if_pos x64261] at h; injection h with h
  subst h
  kernel_rfl
 rw [if_neg x64261] at h
 by_cases x64262 : x = 64262
 ·rw [if_pos x64262] at h; injection h with h
  subst h
  kernel_rfl
 rw [if_neg x64262] at h; cases h
theorem R_others {α : Type} {d : Kd α} {e base b T : Nat} {w W : World} {ok : Nat → Prop} {v : Value} {xs : List α} {cells : Array Value} (h : d.R e w base ok v xs) (hb : w.heap[b]? = some (.cells cells T (0, 0))) (hT : ∀ q ∈ e :: d.E, q ≠ T) (h5 : ∀ q ∈ e :: d.E, q ≠ 5) (hk : Lib.OthersKept 5 (some b) w W) : d.R e W base ok v xs :=
 Kd.R_mono (Kd.R_move (Kd.R_bound h) (fun k hj => by
  obtain ⟨_, _, _, q, hq, cs, hc⟩ := hj; rw [hc]; refine hk k _ hc ?_ ?_
  ·rintro e1; injection e1 with e1
   subst e1; rw [hb] at hc; injection hc with hc
   injection hc with _ hc
   exact hT q hq hc.symm
  ·intro c fz e1; injection e1 with _ e1
   exact h5 q hq e1)) (fun _ hk => hk.1)
theorem at_fn {w : World} {A : Option Addr} {n : Nat} {xs : List Nat} (h : kFn.C w A n xs) (i : Int) (h0 : 0 ≤ i) (h1 : i < n) : ∃ ad, A = some ad ∧ w.cell? (ad.add i.toNat) = some (.func (.func (rdOf 0 xs i)) #[] #[]) :=
 ReadsOf.at_ (Kd.reads_of_C (enc := fun n => Value.func (.func n) #[] #[]) (d := (0 : Nat)) (h1 := fun _ => rfl) h) i h0 h1
theorem stepsL_len (opt : Int) : (stepsL opt).length ≤ 3 := by
 unfold stepsL
 repeat' split
 all_goals simp
theorem stepsL_mem (opt : Int) (n : Nat) (hn : n ∈ stepsL opt) : n = 58 ∨ n = 59 ∨ n = 60 := by
 unfold stepsL at hn; simp only [List.mem_append] at hn
 rcases hn with (hn | hn) | hn <;> (split at hn <;> simp at hn) <;> omega
theorem isB_below {T e : TypeId} {B b : Nat} {bs : List Value} {W W' : World} (h : Lib.IsBuilderF T e B b bs W) (hb : Below W.heap.size W W') : Lib.IsBuilderF T e B b bs W' := by
 have one : ∀ p, Lib.BuilderAtF T e B b p bs W → Lib.BuilderAtF T e B b p bs W' := fun p h => by
  have hlt := h.lt; obtain ⟨hB, v, hv, hown, hne⟩ := h; exact ⟨hB, v, (hb.block b hlt).trans hv, hown.kept (row := none) ⟨hb.os, hb.tape, hb.output, hb.size, fun k hk _ => hb.block k hk⟩ (Classical.em _), hne⟩
 exact h.elim (fun x => .inl (one _ x)) (fun x => .inr (one _ x))
theorem builder_block {T e : TypeId} {B b : Nat} {bs : List Value} {W : World} (h : Lib.IsBuilderF T e B b bs W) : ∃ cells, W.heap[b]? = some (.cells cells T (0, 0)) := by
 rcases h with ⟨_, v, hv, _⟩ | ⟨_, v, hv, _⟩
 ·exact ⟨_, hv⟩
 ·exact ⟨_, hv⟩
theorem stepN_calls (n : Nat) (opt x : Int) (hn : n ∈ stepsL opt) (w : World) : Calls Tryd.prog n #[.int .i32 x] w fun e w' => e = .returned (.int .i32 (stepN n x)) ∧ Below w.heap.size w w' := by
 have hn3 : n = 58 ∨ n = 59 ∨ n = 60 := by
  unfold stepsL at hn; simp only [List.mem_append] at hn
  rcases hn with (hn | hn) | hn <;> (split at hn <;> simp at hn) <;> omega
 rcases hn3 with rfl | rfl | rfl
 ·refine (fold_lower.calls 12 x _ w (lower_some x)).mono ?_; rintro e w' ⟨rfl, hd⟩; exact ⟨rfl, hd.below⟩
 ·exact unmarked_calls x w
 ·refine (fold_letter.calls x _ w (letter_some x)).mono ?_; rintro e w' ⟨rfl, hd⟩; exact ⟨rfl, hd.below⟩
set_option maxHeartbeats 8000000 in
set_option maxRecDepth 100000 in
theorem fold_drop (B b : Nat) (bs : List Value) (r opt : Int) (A : Option Addr) (c n : Nat) (w : World) (ho : 0 ≤ opt ∧ opt ≤ 31) (hd : foldDrop opt r = true) :
 Calls Tryd.prog 47 #[.pointer (some ⟨b, 0, none⟩), .int .i32 r, .int .i64 opt, .slice A n c] w fun e w' => e = .returned (.tuple #[]) ∧ Drawn0 w w' := by
 obtain ⟨o1, o2, o4, o8, o16⟩ := and_opt opt ho; have HK := Aside0.mk (kind_some r); unfold foldDrop at hd; obtain ⟨K, hK⟩ : ∃ K, kindI r = K := ⟨_, rfl⟩
 rw [hK] at hd HK; clear hK o1 o4 o8; generalize fOn opt 16 = b16 at *
 generalize fOn opt 2 = b2 at *
 by_cases h1 : b16 = true ∧ K = 4
 ·obtain ⟨rfl, rfl⟩ := h1; clear hd; go_enter Tryd.func47, Tryd.ntmps47; go_wp2_with (go_at_call 64; (with_reducible refine (kind_Of.calls 12 r 4 _ HK.out).mono ?_); rintro e w1 ⟨rfl, hd⟩); exact bodyPost_ret (results_none rfl _ _ _) rfl ⟨rfl, hd⟩
 ·have h2 : b2 = true ∧ K = 2 := by
   simp only [Bool.or_eq_true, Bool.and_eq_true, decide_eq_true_eq] at hd
   rcases hd with hd | hd
   ·exact absurd hd h1
   ·exact hd
  obtain ⟨rfl, rfl⟩ := h2; clear hd h1; cases b16
  all_goals
   go_enter Tryd.func47, Tryd.ntmps47; go_wp2_with (go_at_call 64; (with_reducible refine (kind_Of.calls 12 r 2 _ HK.out).mono ?_); rintro e w1 ⟨rfl, hd⟩); exact bodyPost_ret (results_none rfl _ _ _) rfl ⟨rfl, hd⟩
set_option maxHeartbeats 8000000 in
set_option maxRecDepth 100000 in
theorem fold_calls (B b : Nat) (bs : List Value) (r opt : Int) (A : Option Addr) (c : Nat) (w : World) (hI : Lib.IsBuilderF 85 5 B b bs w) (hBw : B ≤ w.heap.size) (hlen : bs.length + 12 ≤ 140737488355328) (ho : 0 ≤ opt ∧ opt ≤ 31)
 (base : Nat) (hE : Kd.R kFn 106 w base (fun _ => True) (.slice A (stepsL opt).length c) (stepsL opt)) (hT : Utf.Tabs2 w) :
 Calls Tryd.prog 47 #[.pointer (some ⟨b, 0, none⟩), .int .i32 r, .int .i64 opt, .slice A (stepsL opt).length c] w fun e w' => e = .returned (.tuple #[]) ∧ Lib.IsBuilderF 85 5 B b (bs ++ Lib.byteCells (foldR opt r)) w' ∧ Below B w w' ∧ Lib.OthersKept 5 (some b) w w' := by
 cases hdr : foldDrop opt r with
 | true =>
  refine (fold_drop B b bs r opt A c _ w ho hdr).mono ?_; rintro e w' ⟨rfl, hd⟩; have h0 : foldR opt r = [] := by unfold foldR; rw [if_pos hdr]
  rw [h0]; obtain ⟨m, rfl⟩ := hd.out; refine ⟨rfl, ?_, hd.below.mono hBw, fun k o h _ _ => h⟩; have e1 : bs ++ Lib.byteCells ([] : List UInt8) = bs := by simp [Lib.byteCells]
  rw [e1]; exact hI
 | false =>
  obtain ⟨o1, o2, o4, o8, o16⟩ := and_opt opt ho; have HI := Aside0.mk hI; have HE := Aside0.mk hE; have HT := Aside0.mk hT; have HK := Aside0.mk (kind_some r); have HBw := Aside0.mk hBw; have HLN := Aside0.mk hlen; have HR : Aside0 (foldR opt r = foldB opt (foldS opt r)) := ⟨by unfold foldR; rw [if_neg (by rw [hdr]; decide)]⟩; clear hI hE hT hBw hlen; unfold foldDrop at hdr; obtain ⟨K, hK⟩ : ∃ K, kindI r = K := ⟨_, rfl⟩
  rw [hK] at hdr HK; clear hK o1 o8; obtain ⟨b16, h16⟩ : ∃ x, fOn opt 16 = x := ⟨_, rfl⟩
  obtain ⟨b2, h2⟩ : ∃ x, fOn opt 2 = x := ⟨_, rfl⟩
  rw [h16] at hdr o16; rw [h2] at hdr o2; clear h16 h2
  have hways : (b16 = false ∧ b2 = false) ∨ (b16 = false ∧ b2 = true ∧ (K == 2) = false) ∨ (b16 = true ∧ (K == 4) = false ∧ b2 = false) ∨ (b16 = true ∧ (K == 4) = false ∧ b2 = true ∧ (K == 2) = false) := by
   cases b16 <;> cases b2 <;> simp_all
  clear hdr
  have hlig : (foldS opt r = [r] ∧ ((ligI r).isSome = false ∨ ((ligI r).isSome = true ∧ fOn opt 4 = false))) ∨ ∃ l, ligI r = some l ∧ fOn opt 4 = true ∧ foldS opt r = l.map fun b => (b.toNat : Int) := by
   cases hl : ligI r with
   | none => exact .inl ⟨by unfold foldS; rw [hl]; simp, .inl rfl⟩
   | some l =>
    cases h4 : fOn opt 4 with
    | false => exact .inl ⟨by unfold foldS; rw [h4]; simp, .inr ⟨rfl, rfl⟩⟩
    | true => exact .inr ⟨l, rfl, rfl, by unfold foldS; rw [h4, hl]; simp⟩
  rcases hlig with ⟨hS, hway⟩ | ⟨l, hl, h4, hS⟩
  ·have HSq := Aside0.mk hS; have HN3 : Aside0 (1 ≤ 3) := ⟨by omega⟩; obtain ⟨Z, hZ⟩ : ∃ Z, (⟨((ligI r).getD []).toArray⟩ : ByteArray) = Z := ⟨_, rfl⟩
   obtain ⟨q, hq⟩ : ∃ q, (ligI r).isSome = q := ⟨_, rfl⟩
   have HL := Aside0.mk (And.intro hZ hq); obtain ⟨b4, h4⟩ : ∃ b4, fOn opt 4 = b4 := ⟨_, rfl⟩
   rw [hq, h4] at hway; rw [h4] at o4; have hw2 : q = false ∨ (q = true ∧ b4 = false) := hway; clear hZ hq hS hway h4
   rcases hways with ⟨rfl, rfl⟩ | ⟨rfl, rfl, k2⟩ | ⟨rfl, k4, rfl⟩ | ⟨rfl, k4, rfl, k2⟩ <;> rcases hw2 with rfl | ⟨rfl, rfl⟩
   all_goals
    go_enter Tryd.func47, Tryd.ntmps47; go_wp2_with (first | (go_at_call 64; (with_reducible refine (kind_Of.calls 12 r K _ HK.out).mono ?_); rintro e w1 ⟨rfl, hd⟩; have HB1 := Aside0.mk hd.below; have HT1 := Aside0.mk (Utf.tabs_step2 HT.out (hd.below.alloc hd.below.size (.cells #[.int .i32 r] 21))); clear hd) | (go_at_call 65; (with_reducible refine (ligature_calls r _ HT1.out).mono ?_); rintro e w2 ⟨rfl, hb⟩; rw [HL.out.1, HL.out.2]; have HB2 := Aside0.mk hb; clear hb)); have HBW : Aside0 (Below w.heap.size w w2) := ⟨below_step (HB1.out.alloc HB1.out.size _) HB2.out⟩; have HSs : Aside0 (Kd.R (Kd.int .i32) 21 w2 0 (fun _ => True) (.slice (some ⟨w1.heap.size, 0, none⟩) 1 1) [r]) := ⟨Kd.R_below (Kd.R_of_own (enc := fun x => Value.int .i32 x) (h1 := fun _ => rfl) ⟨by simp [encs], .inr ⟨w1.heap.size, 1, #[.int .i32 r], rfl, Nat.zero_le _, heap_alloc_new w1 _, Nat.le_refl _, by unfold maxLen; omega, by simp, by simp [encs]⟩⟩ (fun _ _ => trivial)) HB2.out⟩; have HIs := Aside0.mk (isB_below HI.out HBW.out); have HEs := Aside0.mk (Kd.R_below HE.out HBW.out); have HBs := Aside0.mk (HBW.out.mono HBw.out); have HOs : Aside0 (Lib.OthersKept 5 (some b) w w2) := ⟨fun k o h _ _ => (HBW.out.block k (Array.getElem?_eq_some_iff.1 h).1).trans h⟩; clear HB1 HB2 HT1 HI HE
    go_loopw [13, 15, 51] (fun v13 v15 v51 wr => ∃ (i : Nat) (I : Int), v51 = .int .i64 I ∧ Aside0 (I = (i : Int)) ∧ i ≤ 1 ∧ Aside0 (Lib.IsBuilderF 85 5 B b (bs ++ Lib.byteCells (foldB opt (([r]).take i))) wr) ∧ Aside0 (Kd.R kFn 106 wr base (fun _ => True) (.slice A (stepsL opt).length c) (stepsL opt)) ∧ Aside0 (Kd.R (Kd.int .i32) 21 wr 0 (fun _ => True) (.slice (some ⟨w1.heap.size, 0, none⟩) 1 1) ([r])) ∧ Aside0 (Below B w wr) ∧ Aside0 (Lib.OthersKept 5 (some b) w wr)) (fun _ _ v51 _ => 1 - (intOf v51).toNat)
    case atStart => exact ⟨0, 0, rfl, ⟨rfl⟩, Nat.zero_le _, ⟨by have := HIs.out; simpa [foldB, Lib.byteCells] using this⟩, HEs, HSs, HBs, HOs⟩
    case round =>
     obtain ⟨i, I, rfl, HIi, hi, HIB, HEE, HSS, HB, HOK⟩ := hrel
     by_cases hil : i < 1
     ·have i0 : 0 ≤ I := by rw [HIi.out]; exact Int.natCast_nonneg i
      have i1 : I < (1 : Int) := by rw [HIi.out]; omega
      have i1b : decide (I < (1 : Int)) = true := decide_eq_true i1; obtain ⟨ad, e0, x0⟩ := Kd.at_int (Kd.R_reads' HSS.out).2.2 I i0 (by rw [← (Kd.R_reads' HSS.out).1]; first | exact i1 | exact_mod_cast i1); obtain rfl := Option.some.inj e0; have x1 : wr.cell? ⟨w1.heap.size, I.toNat, none⟩ = some (.int .i32 (rd ([r]) I)) := (Kd.R_cell (enc := Value.int .i32) (h1 := fun _ => rfl) (0 : Int) (by first | exact HSS.out | (have h8 := HSS.out; rw [(Kd.R_reads' HSS.out).1] at h8; exact h8)) I i0 (by rw [← (Kd.R_reads' HSS.out).1]; first | exact i1 | exact_mod_cast i1)).1
      have hdr : ([r]).take (i + 1) = ([r]).take i ++ [rd ([r]) I] := by
       have hlt : i < ([r]).length := by rw [← (Kd.R_reads' HSS.out).1]; exact hil
       rw [List.take_succ_eq_append_getElem hlt, HIi.out]; unfold rd; rw [Int.toNat_natCast, List.getD_eq_getElem?_getD, List.getElem?_eq_getElem hlt]
       rfl
      obtain ⟨Y, hY⟩ : ∃ Y, rd ([r]) I = Y := ⟨_, rfl⟩
      rw [hY] at x0 hdr; rw [hY] at x1; have HFB : Aside0 (foldB opt (([r]).take (i + 1)) = foldB opt (([r]).take i) ++ (Utf8.encode (stepI opt Y)).data.toList) := ⟨by rw [hdr, foldB_snoc]⟩
      have HL2 : Aside0 ((bs ++ Lib.byteCells (foldB opt (([r]).take i))).length + (Utf8.encode (stepI opt Y)).size ≤ 140737488355328) := ⟨by
       have a1 := foldB_len opt (([r]).take i); have a2 := enc_len4 (stepI opt Y); have a3 : (([r]).take i).length ≤ i := List.length_take_le _ _; have a4 : (Utf8.encode (stepI opt Y)).size = (Utf8.encode (stepI opt Y)).data.toList.length := rfl; have a5 := HLN.out; have a6 := HN3.out; rw [List.length_append, Lib.byteCells_length]
       omega⟩
      obtain ⟨P, hP⟩ : ∃ P, bs ++ Lib.byteCells (foldB opt (([r]).take i)) = P := ⟨_, rfl⟩
      have HP : Aside0 (bs ++ Lib.byteCells (foldB opt (([r]).take (i + 1))) = P ++ Lib.strCells (Utf8.encode (stepI opt Y))) := ⟨by rw [HFB.out, Lib.byteCells_append, ← List.append_assoc, hP, Lib.strCells_eq]⟩; rw [hP] at HIB HL2; obtain ⟨I2, hI2⟩ : ∃ x : Int, wrap64 (I + 1) = x := ⟨_, rfl⟩
      have hI2w : IntKind.i64.wrap (I + 1) = I2 := (i64_w _).trans hI2; have EI2 : Aside0 (I2 = ((i + 1 : Nat) : Int)) := ⟨by rw [← hI2, HIi.out]; have := HN3.out; unfold wrap64; omega⟩; replace i0 := eq_true i0; replace i1 := eq_true i1; clear hdr hY hP HFB e0; go_wp2; obtain ⟨wo, rfl⟩ : ∃ wo : World, wo = wr := ⟨_, rfl⟩
      go_loopw [13, 15, 57] (fun v13 v15 v57 wr => ∃ (j : Nat) (J X : Int), v13 = .int .i32 X ∧ v57 = .int .i64 J ∧ Aside0 (J = (j : Int)) ∧ j ≤ (stepsL opt).length ∧ Aside0 (X = ((stepsL opt).take j).foldl (fun y n => stepN n y) Y) ∧ Aside0 (Below wo.heap.size wo wr)) (fun _ _ v57 _ => (stepsL opt).length - (intOf v57).toNat)
      case atStart => exact ⟨0, 0, Y, rfl, rfl, ⟨rfl⟩, Nat.zero_le _, ⟨rfl⟩, ⟨Below.refl _ _⟩⟩
      case round =>
       obtain ⟨j, J, X, rfl, rfl, HJ, hj, HX, HBi⟩ := hrel
       by_cases hjl : j < (stepsL opt).length
       ·have j0 : 0 ≤ J := by rw [HJ.out]; exact Int.natCast_nonneg j
        have j1 : J < ((stepsL opt).length : Int) := by rw [HJ.out]; exact Int.ofNat_lt.2 hjl
        have j1b : decide (J < ((stepsL opt).length : Int)) = true := decide_eq_true j1; obtain ⟨ae, e2, y0⟩ := at_fn (Kd.R_reads' (Kd.R_below HEE.out HBi.out)).2.2 J j0 j1; subst e2
        have hmem : rdOf 0 (stepsL opt) J ∈ stepsL opt := by
         rw [HJ.out]; unfold rdOf; rw [Int.toNat_natCast, List.getD_eq_getElem?_getD, List.getElem?_eq_getElem hjl]; exact List.getElem_mem hjl
        have hdj : (stepsL opt).take (j + 1) = (stepsL opt).take j ++ [rdOf 0 (stepsL opt) J] := by
         rw [List.take_succ_eq_append_getElem hjl, HJ.out]; unfold rdOf; rw [Int.toNat_natCast, List.getD_eq_getElem?_getD, List.getElem?_eq_getElem hjl]
         rfl
        obtain ⟨n, hn⟩ : ∃ n, rdOf 0 (stepsL opt) J = n := ⟨_, rfl⟩
        rw [hn] at y0 hmem hdj; have HM := Aside0.mk hmem; have HX2 : Aside0 (stepN n X = ((stepsL opt).take (j + 1)).foldl (fun y n => stepN n y) Y) := ⟨by rw [hdj, List.foldl_append, ← HX.out]; rfl⟩; obtain ⟨J2, hJ2⟩ : ∃ x : Int, wrap64 (J + 1) = x := ⟨_, rfl⟩
        have hJ2w : IntKind.i64.wrap (J + 1) = J2 := (i64_w _).trans hJ2; have EJ2 : Aside0 (J2 = ((j + 1 : Nat) : Int)) := ⟨by rw [← hJ2, HJ.out]; have := stepsL_len opt; unfold wrap64; omega⟩; replace j0 := eq_true j0; replace j1 := eq_true j1; have hn3 := stepsL_mem opt n hmem; clear hmem hdj hn
        rcases hn3 with rfl | rfl | rfl
        all_goals
         go_wp2_with (first | (go_at_call 58; (with_reducible refine (stepN_calls _ opt X HM.out _).mono ?_); rintro e w5 ⟨rfl, hb⟩; have HB5 := Aside0.mk hb; clear hb) | (go_at_call 59; (with_reducible refine (stepN_calls _ opt X HM.out _).mono ?_); rintro e w5 ⟨rfl, hb⟩; have HB5 := Aside0.mk hb; clear hb) | (go_at_call 60; (with_reducible refine (stepN_calls _ opt X HM.out _).mono ?_); rintro e w5 ⟨rfl, hb⟩; have HB5 := Aside0.mk hb; clear hb))
         go_roundw
         case rel => exact ⟨j + 1, J2, _, rfl, rfl, EJ2, by omega, HX2, ⟨below_step HBi.out HB5.out⟩⟩
         case measure => have := HJ.out; have := EJ2.out; simp [intOf]; omega
       ·obtain rfl : j = (stepsL opt).length := by omega
        have j1b : decide (J < ((stepsL opt).length : Int)) = false := decide_eq_false (by rw [HJ.out]; omega); have HXs : Aside0 (X = stepI opt Y) := ⟨by rw [HX.out, List.take_length]; rfl⟩; have HIB2 := Aside0.mk (isB_below HIB.out HBi.out); have HHB := Aside0.mk (builder_block HIB2.out); have hsB : B ≤ wr.heap.size := Nat.le_trans HBw.out (Nat.le_trans (HB.out.mono (Nat.le_refl _)).size HBi.out.size); have HSB := Aside0.mk hsB; have HL3 : Aside0 (P.length + (Utf8.encode X).size ≤ 140737488355328) := ⟨by rw [HXs.out]; exact HL2.out⟩; clear hsB; go_wp2_with (go_at_call 66; (with_reducible refine (Tryd.writeString_k B b P (Utf8.encode X) _ HIB2.out HL3.out HSB.out).mono ?_); rintro e w6 ⟨rfl, h1, b1, k1⟩; have HI6 := Aside0.mk h1; have HB6 := Aside0.mk b1; have HK6 := Aside0.mk k1; clear h1 b1 k1)
        go_roundw
        case rel =>
         refine ⟨i + 1, I2, rfl, EI2, by omega, ⟨by rw [HP.out, ← HXs.out]; exact Or.inr HI6.out⟩, ⟨?_⟩, ⟨?_⟩, ⟨(HB.out.trans (HBi.out.mono ?_)).trans HB6.out⟩, ⟨fun k o h1 h2 h3 => ?_⟩⟩
         ·obtain ⟨cells, hbk⟩ := HHB.out; exact R_others (Kd.R_below HEE.out HBi.out) hbk (by decide) (by decide) HK6.out
         ·obtain ⟨cells, hbk⟩ := HHB.out; exact R_others (Kd.R_below HSS.out HBi.out) hbk (by decide) (by decide) HK6.out
         ·exact Nat.le_trans HBw.out (HB.out.mono (Nat.le_refl _)).size
         ·have h4 := HOK.out k o h1 h2 h3; have h5 : wr.heap[k]? = some o := (HBi.out.block k (Array.getElem?_eq_some_iff.1 h4).1).trans h4; exact HK6.out k o h5 h2 h3
        case measure => have := HIi.out; have := EI2.out; simp [intOf]; omega
     ·have hie : i = 1 := by omega
      have i1b : decide (I < (1 : Int)) = false := decide_eq_false (by rw [HIi.out]; omega); go_wp2
      go_end0
      refine ⟨rfl, ?_, HB.out, HOK.out⟩; rw [HR.out, HSq.out]; have h7 := HIB.out; rw [List.take_of_length_le (by rw [← (Kd.R_reads' HSS.out).1]; omega)] at h7; exact h7
  ·have hlen3 := lig_len r l hl; have hrun := lig_runes r l hl; obtain ⟨S, hSS⟩ : ∃ S, (l.map fun b => (b.toNat : Int)) = S := ⟨_, rfl⟩
   obtain ⟨NL, hNL⟩ : ∃ NL, l.length = NL := ⟨_, rfl⟩
   have hSl : S.length = NL := by rw [← hSS, ← hNL]; simp
   have hcv : ∀ W : World, (convert 9 111 (.string ⟨l.toArray⟩)).run Tryd.prog W = .ok (.slice (some ⟨W.heap.size, 0, none⟩) NL (grownCap W NL 0 21)) (W.drew.alloc (.cells ((S.map fun x => Value.int .i32 x).toArray ++ Array.replicate (grownCap W NL 0 21 - NL) (.int .i32 0)) 21)) := fun W => by
    have h9 := run_runes_of_string (P := Tryd.prog) W 9 111 21 ⟨l.toArray⟩ Tryd.underlying9 Tryd.underlying111 Tryd.underlying21 (by rw [hrun]; simp; omega); rw [hrun] at h9; rw [h9, ← hSS]
    simp [← hNL, Function.comp_def]
   rw [hSS] at hS; have HSq := Aside0.mk hS; have HN3 : Aside0 (NL ≤ 3) := ⟨by omega⟩; have HSl := Aside0.mk hSl; have HL : Aside0 ((⟨((ligI r).getD []).toArray⟩ : ByteArray) = ⟨l.toArray⟩ ∧ (ligI r).isSome = true) := ⟨by rw [hl]; exact ⟨rfl, rfl⟩⟩; obtain ⟨Z, hZ⟩ : ∃ Z, (⟨l.toArray⟩ : ByteArray) = Z := ⟨_, rfl⟩
   rw [hZ] at HL hcv; rw [h4] at o4; clear hl hS hSS hNL hSl hrun hlen3 hZ h4
   rcases hways with ⟨rfl, rfl⟩ | ⟨rfl, rfl, k2⟩ | ⟨rfl, k4, rfl⟩ | ⟨rfl, k4, rfl, k2⟩
   all_goals
    go_enter Tryd.func47, Tryd.ntmps47; go_wp2_with (first | (go_at_call 64; (with_reducible refine (kind_Of.calls 12 r K _ HK.out).mono ?_); rintro e w1 ⟨rfl, hd⟩; have HB1 := Aside0.mk hd.below; have HT1 := Aside0.mk (Utf.tabs_step2 HT.out (hd.below.alloc hd.below.size (.cells #[.int .i32 r] 21))); clear hd) | (go_at_call 65; (with_reducible refine (ligature_calls r _ HT1.out).mono ?_); rintro e w2 ⟨rfl, hb⟩; rw [HL.out.1, HL.out.2]; have HB2 := Aside0.mk hb; clear hb)); have hcg := grownCap_ge w2 NL 0 21; have hcm := grownCap_le_maxLen w2 NL 0 21 (by have := HN3.out; unfold maxLen; omega); obtain ⟨CP, hCP⟩ : ∃ CP, grownCap w2 NL 0 21 = CP := ⟨_, rfl⟩
    rw [hCP] at hcg hcm; simp only [hCP]; clear hCP; obtain ⟨w3, hw3⟩ : ∃ w3, w3 = (w2.alloc (.cells ((S.map fun x => Value.int .i32 x).toArray ++ Array.replicate (CP - NL) (.int .i32 0)) 21)).drew := ⟨_, rfl⟩
    have HB3 : Aside0 (Below w2.heap.size w2 w3) := ⟨by rw [hw3]; exact ((Below.refl _ w2).alloc (Nat.le_refl _) _).drew⟩; have HBW : Aside0 (Below w.heap.size w w3) := ⟨below_step (below_step (HB1.out.alloc HB1.out.size _) HB2.out) HB3.out⟩
    have HSs : Aside0 (Kd.R (Kd.int .i32) 21 w3 0 (fun _ => True) (.slice (some ⟨w2.heap.size, 0, none⟩) NL CP) S) := ⟨by
     have h0 : Kd.R (Kd.int .i32) 21 w3 0 (fun _ => True) (.slice (some ⟨w2.heap.size, 0, none⟩) S.length CP) S := by
      refine Kd.R_of_own (enc := fun x => Value.int .i32 x) (h1 := fun _ => rfl) ⟨by simp [encs], .inr ⟨w2.heap.size, CP, (S.map fun x => Value.int .i32 x).toArray ++ Array.replicate (CP - NL) (.int .i32 0), rfl, Nat.zero_le _, ?_, ?_, ?_, ?_, ?_⟩⟩ (fun _ _ => trivial)
      ·rw [hw3]; exact heap_alloc_new w2 _
      ·rw [HSl.out]; exact hcg
      ·exact hcm
      ·simp [HSl.out]; omega
      ·rw [Array.toList_append, Nat.mul_one, List.take_append_of_le_length (by simp), List.take_of_length_le (by simp)]; rfl
     rw [HSl.out] at h0; exact h0⟩
    rw [← hw3]; clear hw3; have HIs := Aside0.mk (isB_below HI.out HBW.out); have HEs := Aside0.mk (Kd.R_below HE.out HBW.out); have HBs := Aside0.mk (HBW.out.mono HBw.out); have HOs : Aside0 (Lib.OthersKept 5 (some b) w w3) := ⟨fun k o h _ _ => (HBW.out.block k (Array.getElem?_eq_some_iff.1 h).1).trans h⟩; clear HB1 HB2 HT1 HI HE hcv
    go_loopw [13, 15, 51] (fun v13 v15 v51 wr => ∃ (i : Nat) (I : Int), v51 = .int .i64 I ∧ Aside0 (I = (i : Int)) ∧ i ≤ NL ∧ Aside0 (Lib.IsBuilderF 85 5 B b (bs ++ Lib.byteCells (foldB opt ((S).take i))) wr) ∧ Aside0 (Kd.R kFn 106 wr base (fun _ => True) (.slice A (stepsL opt).length c) (stepsL opt)) ∧ Aside0 (Kd.R (Kd.int .i32) 21 wr 0 (fun _ => True) (.slice (some ⟨w2.heap.size, 0, none⟩) NL CP) (S)) ∧ Aside0 (Below B w wr) ∧ Aside0 (Lib.OthersKept 5 (some b) w wr)) (fun _ _ v51 _ => NL - (intOf v51).toNat)
    case atStart => exact ⟨0, 0, rfl, ⟨rfl⟩, Nat.zero_le _, ⟨by have := HIs.out; simpa [foldB, Lib.byteCells] using this⟩, HEs, HSs, HBs, HOs⟩
    case round =>
     obtain ⟨i, I, rfl, HIi, hi, HIB, HEE, HSS, HB, HOK⟩ := hrel
     by_cases hil : i < NL
     ·have i0 : 0 ≤ I := by rw [HIi.out]; exact Int.natCast_nonneg i
      have i1 : I < ((NL : Nat) : Int) := by rw [HIi.out]; omega
      have i1b : decide (I < ((NL : Nat) : Int)) = true := decide_eq_true i1; obtain ⟨ad, e0, x0⟩ := Kd.at_int (Kd.R_reads' HSS.out).2.2 I i0 (by rw [← (Kd.R_reads' HSS.out).1]; first | exact i1 | exact_mod_cast i1); obtain rfl := Option.some.inj e0; have x1 : wr.cell? ⟨w2.heap.size, I.toNat, none⟩ = some (.int .i32 (rd (S) I)) := (Kd.R_cell (enc := Value.int .i32) (h1 := fun _ => rfl) (0 : Int) (by first | exact HSS.out | (have h8 := HSS.out; rw [(Kd.R_reads' HSS.out).1] at h8; exact h8)) I i0 (by rw [← (Kd.R_reads' HSS.out).1]; first | exact i1 | exact_mod_cast i1)).1
      have hdr : (S).take (i + 1) = (S).take i ++ [rd (S) I] := by
       have hlt : i < (S).length := by rw [← (Kd.R_reads' HSS.out).1]; exact hil
       rw [List.take_succ_eq_append_getElem hlt, HIi.out]; unfold rd; rw [Int.toNat_natCast, List.getD_eq_getElem?_getD, List.getElem?_eq_getElem hlt]
       rfl
      obtain ⟨Y, hY⟩ : ∃ Y, rd (S) I = Y := ⟨_, rfl⟩
      rw [hY] at x0 hdr; rw [hY] at x1; have HFB : Aside0 (foldB opt ((S).take (i + 1)) = foldB opt ((S).take i) ++ (Utf8.encode (stepI opt Y)).data.toList) := ⟨by rw [hdr, foldB_snoc]⟩
      have HL2 : Aside0 ((bs ++ Lib.byteCells (foldB opt ((S).take i))).length + (Utf8.encode (stepI opt Y)).size ≤ 140737488355328) := ⟨by
       have a1 := foldB_len opt ((S).take i); have a2 := enc_len4 (stepI opt Y); have a3 : ((S).take i).length ≤ i := List.length_take_le _ _; have a4 : (Utf8.encode (stepI opt Y)).size = (Utf8.encode (stepI opt Y)).data.toList.length := rfl; have a5 := HLN.out; have a6 := HN3.out; rw [List.length_append, Lib.byteCells_length]
       omega⟩
      obtain ⟨P, hP⟩ : ∃ P, bs ++ Lib.byteCells (foldB opt ((S).take i)) = P := ⟨_, rfl⟩
      have HP : Aside0 (bs ++ Lib.byteCells (foldB opt ((S).take (i + 1))) = P ++ Lib.strCells (Utf8.encode (stepI opt Y))) := ⟨by rw [HFB.out, Lib.byteCells_append, ← List.append_assoc, hP, Lib.strCells_eq]⟩; rw [hP] at HIB HL2; obtain ⟨I2, hI2⟩ : ∃ x : Int, wrap64 (I + 1) = x := ⟨_, rfl⟩
      have hI2w : IntKind.i64.wrap (I + 1) = I2 := (i64_w _).trans hI2; have EI2 : Aside0 (I2 = ((i + 1 : Nat) : Int)) := ⟨by rw [← hI2, HIi.out]; have := HN3.out; unfold wrap64; omega⟩; replace i0 := eq_true i0; replace i1 := eq_true i1; clear hdr hY hP HFB e0; go_wp2; obtain ⟨wo, rfl⟩ : ∃ wo : World, wo = wr := ⟨_, rfl⟩
      go_loopw [13, 15, 57] (fun v13 v15 v57 wr => ∃ (j : Nat) (J X : Int), v13 = .int .i32 X ∧ v57 = .int .i64 J ∧ Aside0 (J = (j : Int)) ∧ j ≤ (stepsL opt).length ∧ Aside0 (X = ((stepsL opt).take j).foldl (fun y n => stepN n y) Y) ∧ Aside0 (Below wo.heap.size wo wr)) (fun _ _ v57 _ => (stepsL opt).length - (intOf v57).toNat)
      case atStart => exact ⟨0, 0, Y, rfl, rfl, ⟨rfl⟩, Nat.zero_le _, ⟨rfl⟩, ⟨Below.refl _ _⟩⟩
      case round =>
       obtain ⟨j, J, X, rfl, rfl, HJ, hj, HX, HBi⟩ := hrel
       by_cases hjl : j < (stepsL opt).length
       ·have j0 : 0 ≤ J := by rw [HJ.out]; exact Int.natCast_nonneg j
        have j1 : J < ((stepsL opt).length : Int) := by rw [HJ.out]; exact Int.ofNat_lt.2 hjl
        have j1b : decide (J < ((stepsL opt).length : Int)) = true := decide_eq_true j1; obtain ⟨ae, e2, y0⟩ := at_fn (Kd.R_reads' (Kd.R_below HEE.out HBi.out)).2.2 J j0 j1; subst e2
        have hmem : rdOf 0 (stepsL opt) J ∈ stepsL opt := by
         rw [HJ.out]; unfold rdOf; rw [Int.toNat_natCast, List.getD_eq_getElem?_getD, List.getElem?_eq_getElem hjl]; exact List.getElem_mem hjl
        have hdj : (stepsL opt).take (j + 1) = (stepsL opt).take j ++ [rdOf 0 (stepsL opt) J] := by
         rw [List.take_succ_eq_append_getElem hjl, HJ.out]; unfold rdOf; rw [Int.toNat_natCast, List.getD_eq_getElem?_getD, List.getElem?_eq_getElem hjl]
         rfl
        obtain ⟨n, hn⟩ : ∃ n, rdOf 0 (stepsL opt) J = n := ⟨_, rfl⟩
        rw [hn] at y0 hmem hdj; have HM := Aside0.mk hmem; have HX2 : Aside0 (stepN n X = ((stepsL opt).take (j + 1)).foldl (fun y n => stepN n y) Y) := ⟨by rw [hdj, List.foldl_append, ← HX.out]; rfl⟩; obtain ⟨J2, hJ2⟩ : ∃ x : Int, wrap64 (J + 1) = x := ⟨_, rfl⟩
        have hJ2w : IntKind.i64.wrap (J + 1) = J2 := (i64_w _).trans hJ2; have EJ2 : Aside0 (J2 = ((j + 1 : Nat) : Int)) := ⟨by rw [← hJ2, HJ.out]; have := stepsL_len opt; unfold wrap64; omega⟩; replace j0 := eq_true j0; replace j1 := eq_true j1; have hn3 := stepsL_mem opt n hmem; clear hmem hdj hn
        rcases hn3 with rfl | rfl | rfl
        all_goals
         go_wp2_with (first | (go_at_call 58; (with_reducible refine (stepN_calls _ opt X HM.out _).mono ?_); rintro e w5 ⟨rfl, hb⟩; have HB5 := Aside0.mk hb; clear hb) | (go_at_call 59; (with_reducible refine (stepN_calls _ opt X HM.out _).mono ?_); rintro e w5 ⟨rfl, hb⟩; have HB5 := Aside0.mk hb; clear hb) | (go_at_call 60; (with_reducible refine (stepN_calls _ opt X HM.out _).mono ?_); rintro e w5 ⟨rfl, hb⟩; have HB5 := Aside0.mk hb; clear hb))
         go_roundw
         case rel => exact ⟨j + 1, J2, _, rfl, rfl, EJ2, by omega, HX2, ⟨below_step HBi.out HB5.out⟩⟩
         case measure => have := HJ.out; have := EJ2.out; simp [intOf]; omega
       ·obtain rfl : j = (stepsL opt).length := by omega
        have j1b : decide (J < ((stepsL opt).length : Int)) = false := decide_eq_false (by rw [HJ.out]; omega); have HXs : Aside0 (X = stepI opt Y) := ⟨by rw [HX.out, List.take_length]; rfl⟩; have HIB2 := Aside0.mk (isB_below HIB.out HBi.out); have HHB := Aside0.mk (builder_block HIB2.out); have hsB : B ≤ wr.heap.size := Nat.le_trans HBw.out (Nat.le_trans (HB.out.mono (Nat.le_refl _)).size HBi.out.size); have HSB := Aside0.mk hsB; have HL3 : Aside0 (P.length + (Utf8.encode X).size ≤ 140737488355328) := ⟨by rw [HXs.out]; exact HL2.out⟩; clear hsB; go_wp2_with (go_at_call 66; (with_reducible refine (Tryd.writeString_k B b P (Utf8.encode X) _ HIB2.out HL3.out HSB.out).mono ?_); rintro e w6 ⟨rfl, h1, b1, k1⟩; have HI6 := Aside0.mk h1; have HB6 := Aside0.mk b1; have HK6 := Aside0.mk k1; clear h1 b1 k1)
        go_roundw
        case rel =>
         refine ⟨i + 1, I2, rfl, EI2, by omega, ⟨by rw [HP.out, ← HXs.out]; exact Or.inr HI6.out⟩, ⟨?_⟩, ⟨?_⟩, ⟨(HB.out.trans (HBi.out.mono ?_)).trans HB6.out⟩, ⟨fun k o h1 h2 h3 => ?_⟩⟩
         ·obtain ⟨cells, hbk⟩ := HHB.out; exact R_others (Kd.R_below HEE.out HBi.out) hbk (by decide) (by decide) HK6.out
         ·obtain ⟨cells, hbk⟩ := HHB.out; exact R_others (Kd.R_below HSS.out HBi.out) hbk (by decide) (by decide) HK6.out
         ·exact Nat.le_trans HBw.out (HB.out.mono (Nat.le_refl _)).size
         ·have h4 := HOK.out k o h1 h2 h3; have h5 : wr.heap[k]? = some o := (HBi.out.block k (Array.getElem?_eq_some_iff.1 h4).1).trans h4; exact HK6.out k o h5 h2 h3
        case measure => have := HIi.out; have := EI2.out; simp [intOf]; omega
     ·have hie : i = NL := by omega
      have i1b : decide (I < ((NL : Nat) : Int)) = false := decide_eq_false (by rw [HIi.out]; omega); go_wp2
      go_end0
      refine ⟨rfl, ?_, HB.out, HOK.out⟩; rw [HR.out, HSq.out]; have h7 := HIB.out; rw [List.take_of_length_le (by rw [← (Kd.R_reads' HSS.out).1]; omega)] at h7; exact h7
def foldC (opt : Int) (c : S91) : List UInt8 := if c.f3 = true then [UInt8.ofNat c.f4.toNat] else foldR opt c.f2
def foldT (opt : Int) (l : List S91) : List UInt8 := l.flatMap (foldC opt)
def fold_Text.f (a0 : ByteArray) (a1 : Int) : Option (ByteArray × Int) := if 0 ≤ a1 ∧ a1 ≤ 31 then (glyph_Cells.f a0).bind fun l => if (∀ c ∈ l, 0 ≤ c.f4 ∧ c.f4 < 256) ∧ l.length ≤ 4294967296 then some (⟨(foldT a1 l).toArray⟩, 0) else none else some (⟨#[]⟩, 2)
theorem foldC_len (opt : Int) (c : S91) : (foldC opt c).length ≤ 12 := by
 unfold foldC
 split
 ·simp
 ·exact foldR_len _ _
theorem foldT_snoc (opt : Int) (l : List S91) (c : S91) : foldT opt (l ++ [c]) = foldT opt l ++ foldC opt c := by simp [foldT]
theorem foldT_len (opt : Int) (l : List S91) : (foldT opt l).length ≤ 12 * l.length := by
 induction l with
 | nil => simp [foldT]
 | cons c l ih =>
  have := foldC_len opt c; have e : foldT opt (c :: l) = foldC opt c ++ foldT opt l := by simp [foldT]
  rw [e, List.length_append, List.length_cons]
  omega
theorem take_nextF {α : Type} (l : List α) (k : Nat) (d : α) (h : k < l.length) : l.take (k + 1) = l.take k ++ [l.getD k d] := by
 rw [List.take_succ_eq_append_getElem h]
 simp [List.getD_eq_getElem?_getD, List.getElem?_eq_getElem h]
theorem byteCells_oneF (n : Int) (h0 : 0 ≤ n) (h1 : n < 256) : Lib.byteCells [UInt8.ofNat n.toNat] = [.int .u8 n] := by
 simp [Lib.byteCells]
 omega
set_option maxHeartbeats 8000000 in
set_option maxRecDepth 100000 in
theorem fold_Text.calls (a0 : ByteArray) (a1 : Int) (r1 : ByteArray) (r2 : Int) (w : World) (hT : Utf.Tabs2 w) (h : fold_Text.f a0 a1 = some (r1, r2)) :
 Calls Tryd.prog 24 #[.string a0, .int .i64 a1] w fun e w' => e = .returned (.tuple #[.string r1, .int .i64 r2]) ∧ Below w.heap.size w w' := by
 unfold fold_Text.f at h
 by_cases ho : 0 ≤ a1 ∧ a1 ≤ 31
 ·rw [if_pos ho] at h; obtain ⟨l, hl, h⟩ := Option.bind_eq_some_iff.mp h
  by_cases hs : (∀ c ∈ l, 0 ≤ c.f4 ∧ c.f4 < 256) ∧ l.length ≤ 4294967296
  ·rw [if_pos hs] at h; obtain ⟨rfl, rfl⟩ := Prod.mk.inj (Option.some.inj h); clear h; obtain ⟨hby, hsl⟩ := hs; have hwf : fold_wrong.f a1 = some false := by unfold fold_wrong.f; rw [if_neg (by omega)]; simp; omega
   have HW := Aside0.mk hwf; have HT := Aside0.mk hT; have HT8 : Aside0 (Lib.Utf8Tabs 0 1 w) := ⟨hT.1⟩; have HY := Aside0.mk hby; have HL := Aside0.mk hl; have HO := Aside0.mk ho; clear hT hby hl hwf; go_enter Tryd.func24, Tryd.ntmps24; go_wp2_with (first | (go_at_call 43; (with_reducible refine (fold_wrong.calls a1 false _ HW.out).mono ?_); rintro e w0 ⟨rfl, hd⟩; have HZ0 := Aside0.mk (show w0.heap.size = w.heap.size from by obtain ⟨m, rfl⟩ := hd.out; rfl); have HB0 := Aside0.mk hd.below; have HI0 := Aside0.mk (Lib.IsBuilderF.of (Lib.fresh_isBuilder 85 5 w0)); have HB1 := Aside0.mk ((hd.below).alloc hd.below.size (.cells #[.pointer none, .slice none 0 0] 85)); clear hd) | (go_at_call 44; (with_reducible refine (steps_calls a1 _ HO.out).mono ?_); rintro e w2 ⟨v, rfl, hr, hb⟩; obtain ⟨A, c, rfl⟩ := Kd.R_slice hr; have HE2 := Aside0.mk hr; have HB2 := Aside0.mk (below_step HB1.out hb); have HI2 := Aside0.mk (isB_below HI0.out hb); clear hr hb) | (go_at_call 45; (with_reducible refine (glyph_Cells.calls a0 l _ (Utf.tabs_step HT8.out HB2.out) HL.out).mono ?_); rintro e w3 ⟨v, rfl, hr, hb⟩; obtain ⟨A4, c4, rfl⟩ := Kd.R_slice hr; have HC3 := Aside0.mk hr; have HB3 := Aside0.mk (below_step HB2.out hb); have HI3 := Aside0.mk (isB_below HI2.out hb); have HE3 := Aside0.mk (Kd.R_below HE2.out hb); clear hr hb)); have HS3 : Aside0 (w0.heap.size ≤ w3.heap.size) := ⟨by rw [HZ0.out]; exact HB3.out.size⟩
   go_loopw [17] (fun i wr => ∃ (k : Nat) (I : Int), i = .int .i64 I ∧ Aside0 (I = (k : Int)) ∧ k ≤ l.length ∧ Aside0 (Lib.IsBuilderF 85 5 w0.heap.size w0.heap.size (Lib.byteCells (foldT a1 (l.take k))) wr) ∧ Aside0 (Kd.R kFn 106 wr 0 (fun _ => True) (.slice A (stepsL a1).length c) (stepsL a1)) ∧ Aside0 (Kd.R k91 91 wr 0 (fun _ => True) (.slice A4 l.length c4) l) ∧ Aside0 (Below w.heap.size w wr) ∧ Aside0 (w0.heap.size ≤ wr.heap.size)) (fun i _ => l.length - (intOf i).toNat)
   case atStart => exact ⟨0, 0, rfl, ⟨rfl⟩, Nat.zero_le _, ⟨by have := HI3.out; simpa [foldT, Lib.byteCells] using this⟩, ⟨Kd.R_lower HE3.out (Nat.zero_le _)⟩, ⟨Kd.R_lower HC3.out (Nat.zero_le _)⟩, HB3, HS3⟩
   case round =>
    obtain ⟨k, I, rfl, HI, hk, HIB, HEE, HCC, HB, HSZ⟩ := hrel
    by_cases hlt : k < l.length
    ·have hln := foldT_len a1 (l.take k); rw [List.length_take_of_le hk] at hln; have htn := take_nextF l k z91 hlt; have hmem : l.getD k z91 ∈ l := by rw [List.getD_eq_getElem?_getD, List.getElem?_eq_getElem hlt]; exact List.getElem_mem hlt
     have hyy := HY.out _ hmem; have i0 : 0 ≤ I := by rw [HI.out]; exact Int.natCast_nonneg k
     have i1 : I < (l.length : Int) := by rw [HI.out]; exact Int.ofNat_lt.2 hlt
     have i1b : decide (I < (l.length : Int)) = true := decide_eq_true i1; obtain ⟨ad, e0, x0, x1, x2, x3, x4⟩ := at_T91 (Kd.R_reads' HCC.out).2.2 I i0 i1; subst e0; have hrd : rd_T91 l I = l.getD k z91 := by unfold rd_T91; rw [HI.out, Int.toNat_natCast]
     rw [hrd] at x0 x1 x2 x3 x4; have HTN := Aside0.mk (foldT_snoc a1 (l.take k) (l.getD k z91)); rw [← htn] at HTN; clear htn hmem hrd; obtain ⟨C, hC⟩ : ∃ C, l.getD k z91 = C := ⟨_, rfl⟩
     rw [hC] at x0 x1 x2 x3 x4 hyy HTN; clear hC; obtain ⟨c0_, c1_, c2_, c3_, c4_⟩ := C; dsimp only at x0 x1 x2 x3 x4 hyy; obtain ⟨I2, hI2⟩ : ∃ x : Int, wrap64 (I + 1) = x := ⟨_, rfl⟩
     have hI2w : IntKind.i64.wrap (I + 1) = I2 := (i64_w _).trans hI2; have EI2 : Aside0 (I2 = ((k + 1 : Nat) : Int)) := ⟨by rw [← hI2, HI.out]; unfold wrap64; omega⟩; obtain ⟨T0, hT0⟩ : ∃ T0, foldT a1 (l.take k) = T0 := ⟨_, rfl⟩
     rw [hT0] at HTN hln HIB; obtain ⟨bs, hbs⟩ : ∃ bs, Lib.byteCells T0 = bs := ⟨_, rfl⟩
     have hlb : bs.length + 12 ≤ 140737488355328 := by rw [← hbs, Lib.byteCells_length]; omega
     have hlb1 : bs.length + 1 ≤ 140737488355328 := by omega
     have HLB := Aside0.mk hlb; have HLB1 := Aside0.mk hlb1; have HTA : Aside0 (Lib.byteCells (foldT a1 (l.take (k + 1))) = bs ++ Lib.byteCells (foldC a1 ⟨c0_, c1_, c2_, c3_, c4_⟩)) := ⟨by rw [HTN.out, Lib.byteCells_append, hbs]⟩; rw [hbs] at HIB; have HHB := Aside0.mk (builder_block HIB.out); replace i0 := eq_true i0; replace i1 := eq_true i1; clear hT0 hbs hln HTN hlb hlb1
     cases c3_ with
     | true =>
      have HC1 : Aside0 (Lib.byteCells (foldC a1 ⟨c0_, c1_, c2_, true, c4_⟩) = [.int .u8 c4_]) := ⟨by unfold foldC; rw [if_pos rfl, byteCells_oneF c4_ hyy.1 hyy.2]⟩; go_wp2_with (go_at_call 46; (with_reducible refine (Tryd.writeByte_k w0.heap.size w0.heap.size bs c4_ _ (HIB.out.alloc _) HLB1.out (by simp; have := HSZ.out; omega)).mono ?_); rintro e w5 ⟨rfl, h1, b1, k1⟩; have HI5 := Aside0.mk h1; have HB5 := Aside0.mk b1; have HK5 := Aside0.mk k1; clear h1 b1 k1)
      go_roundw
      case rel =>
       refine ⟨k + 1, I2, rfl, EI2, by omega, ⟨by rw [HTA.out, HC1.out]; exact Or.inr HI5.out⟩, ⟨R_others (Kd.R_alloc HEE.out _) (builder_block (HIB.out.alloc _)).choose_spec (by decide) (by decide) HK5.out⟩, ⟨R_others (Kd.R_alloc HCC.out _) (builder_block (HIB.out.alloc _)).choose_spec (by decide) (by decide) HK5.out⟩, ⟨(HB.out.alloc HB.out.size _).trans (HB5.out.mono (Nat.le_of_eq HZ0.out.symm))⟩, ⟨Nat.le_trans HSZ.out (Nat.le_trans (by simp) HB5.out.size)⟩⟩
      case measure => have := HI.out; have := EI2.out; simp [intOf]; omega
     | false =>
      have HC1 : Aside0 (Lib.byteCells (foldC a1 ⟨c0_, c1_, c2_, false, c4_⟩) = Lib.byteCells (foldR a1 c2_)) := ⟨by unfold foldC; rw [if_neg (by simp)]⟩; go_wp2_with (go_at_call 47; (with_reducible refine (fold_calls w0.heap.size w0.heap.size bs c2_ a1 A c _ (HIB.out.alloc _) (by simp; have := HSZ.out; omega) HLB.out HO.out 0 (Kd.R_alloc HEE.out _) (Utf.tabs_step2 HT.out (HB.out.alloc HB.out.size _))).mono ?_); rintro e w5 ⟨rfl, h1, b1, k1⟩; have HI5 := Aside0.mk h1; have HB5 := Aside0.mk b1; have HK5 := Aside0.mk k1; clear h1 b1 k1)
      go_roundw
      case rel =>
       refine ⟨k + 1, I2, rfl, EI2, by omega, ⟨by rw [HTA.out, HC1.out]; exact HI5.out⟩, ⟨R_others (Kd.R_alloc HEE.out _) (builder_block (HIB.out.alloc _)).choose_spec (by decide) (by decide) HK5.out⟩, ⟨R_others (Kd.R_alloc HCC.out _) (builder_block (HIB.out.alloc _)).choose_spec (by decide) (by decide) HK5.out⟩, ⟨(HB.out.alloc HB.out.size _).trans (HB5.out.mono (Nat.le_of_eq HZ0.out.symm))⟩, ⟨Nat.le_trans HSZ.out (Nat.le_trans (by simp) HB5.out.size)⟩⟩
      case measure => have := HI.out; have := EI2.out; simp [intOf]; omega
    ·have hie : k = l.length := by omega
     have i1b : decide (I < (l.length : Int)) = false := decide_eq_false (by rw [HI.out]; omega); obtain ⟨T0, hT0⟩ : ∃ T0, foldT a1 l = T0 := ⟨_, rfl⟩
     have HT0 := Aside0.mk hT0; have HI3' : Aside0 (Lib.IsBuilderF 85 5 w0.heap.size w0.heap.size (Lib.byteCells T0) wr) := ⟨by have h7 := HIB.out; rw [hie, List.take_length, hT0] at h7; exact h7⟩; clear hT0; go_wp2_with (go_at_call 48; (with_reducible refine (Tryd.Builder_String_any_k w0.heap.size w0.heap.size T0 _ HI3'.out HSZ.out).mono ?_); rintro e w5 ⟨rfl, _, b1, _⟩; have HB5 := Aside0.mk b1; clear b1); go_ret2; exact ⟨by rw [HT0.out]; rfl, HB.out.trans (HB5.out.mono (Nat.le_of_eq HZ0.out.symm))⟩
  ·rw [if_neg hs] at h; cases h
 ·rw [if_neg ho] at h; obtain ⟨rfl, rfl⟩ := Prod.mk.inj (Option.some.inj h); have hwf : fold_wrong.f a1 = some true := by unfold fold_wrong.f; split <;> simp <;> omega
  have HW := Aside0.mk hwf; clear hwf h ho; go_enter Tryd.func24, Tryd.ntmps24; go_wp2_with (go_at_call 43; (with_reducible refine (fold_wrong.calls a1 true _ HW.out).mono ?_); rintro e w0 ⟨rfl, hd⟩; have HB0 := Aside0.mk hd.below; clear hd); go_ret2; exact ⟨rfl, HB0.out⟩
end Go.Proofs.YtcpbalnbgmjhjaaDoor.Q
