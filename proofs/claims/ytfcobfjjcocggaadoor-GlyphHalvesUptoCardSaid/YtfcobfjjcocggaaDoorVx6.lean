-- Printed by hprint.py (this session's program over the kit's print) out of the translation; the parts 'by hand' are the session's own.
import Derived.Test.YtfcobfjjcocggaaDoorVx0
import Derived.Test.YtfcobfjjcocggaaDoorVx4
import Derived.Test.YtfcobfjjcocggaaDoorVx5
namespace Go.Proofs.YtfcobfjjcocggaaDoor.V
open Go.RowKit Go.Proofs.YtfcobfjjcocggaaDoorW.PrintWords Go.Proofs.YtfcobfjjcocggaaDoorW.PrintLast Go.Proofs.YtfcobfjjcocggaaDoorW.PrintMore
attribute [local go_sem] max2_int min2_int max_two min_two max_three min_three max_four min_four   -- for this text's walks alone
set_option linter.unusedVariables false
set_option linter.unusedSimpArgs false

/-! ### glyph_Whole: function 30: by hand -/
/-- How much of a text is sure: back from its end, at most k bytes, to a rune that has begun and is not full. -/
def gWhole (s : ByteArray) : Nat → Int
  | 0 => (s.size : Int)
  | k + 1 => if ((Go.bits .and .u8 (bt s ((s.size - (k + 1) : Nat) : Int)) 192) != 128 && !fullRune (s.extract (s.size - (k + 1)) s.size)) = true then ((s.size - (k + 1) : Nat) : Int) else gWhole s k
def glyph_Whole.f (a0 : ByteArray) : Option Int := if a0.size ≤ 4294967296 then some (gWhole a0 (min 3 a0.size)) else none
set_option maxHeartbeats 4000000 in
set_option maxRecDepth 100000 in
theorem glyph_Whole.calls (a0 : ByteArray) (r : Int) (w : World) (hT : Lib.Utf8Tabs 0 1 w) (h : glyph_Whole.f a0 = some r) :
    Calls Tryd.prog 30 #[.string a0] w fun e w' => e = .returned (.int .i64 r) ∧ Below w.heap.size w w' := by
  unfold glyph_Whole.f at h
  by_cases hs : a0.size ≤ 4294967296
  · rw [if_pos hs] at h
    have HR := Aside0.mk (Option.some.inj h)
    clear h
    have HT := Aside0.mk hT
    clear hT
    obtain ⟨m, hm⟩ : ∃ m : Nat, min 3 a0.size = m := ⟨_, rfl⟩
    rw [hm] at HR
    have hm3 : m ≤ 3 := by omega
    have hms : m ≤ a0.size := by omega
    have hmn : (if (a0.size : Int) < 3 then (a0.size : Int) else 3) = (m : Int) := by split <;> omega
    clear hm
    go_enter Tryd.func30, Tryd.ntmps30
    go_wp2
    go_loopw [3] (fun v wr => ∃ k : Nat, k ≤ 3 ∧ k ≤ a0.size ∧ v = .int .i64 (k : Int) ∧ Aside0 (gWhole a0 k = r) ∧ Aside0 (Below w.heap.size w wr)) (fun v _ => (intOf v).toNat)
    case atStart => exact ⟨m, hm3, hms, by first | rfl | (simp [hmn]; done) | (rw [hmn]), HR, ⟨Below.refl _ _⟩⟩
    case round =>
      obtain ⟨k, hk3, hks, rfl, HA, HB⟩ := hrel
      cases k with
      | zero =>
        have e0 : (a0.size : Int) = r := HA.out
        have hc : decide ((0 : Int) < ((0 : Nat) : Int)) = false := decide_eq_false (by omega)
        go_wp2
        go_ret
        exact ⟨by rw [← e0]; rfl, HB.out⟩
      | succ k =>
        have hc : decide ((0 : Int) < ((k + 1 : Nat) : Int)) = true := decide_eq_true (by omega)
        obtain ⟨j, hj⟩ : ∃ j : Nat, a0.size - (k + 1) = j := ⟨_, rfl⟩
        have hsub : wrap64 ((a0.size : Int) - ((k + 1 : Nat) : Int)) = (j : Int) := by unfold wrap64; omega
        have hsub2 : IntKind.i64.wrap ((a0.size : Int) - ((k + 1 : Nat) : Int)) = (j : Int) := (i64_w _).trans hsub
        have hjs : j ≤ a0.size := by omega
        have c5 := eq_true (show (0 : Int) ≤ (j : Int) by omega)
        have c6 := eq_true (show (j : Int) ≤ (a0.size : Int) by omega)
        have c5d : decide ((0 : Int) ≤ (j : Int)) = true := decide_eq_true (by omega)
        have c6d : decide ((j : Int) ≤ (a0.size : Int)) = true := decide_eq_true (by omega)
        have hA := HA.out
        clear HA
        unfold gWhole at hA
        rw [hj] at hA
        obtain ⟨T, hTl⟩ : ∃ T, a0.extract j a0.size = T := ⟨_, rfl⟩
        have hTs : T.size = k + 1 := by rw [← hTl, ByteArray.size_extract]; omega
        have hT0 : 0 < T.size := by omega
        have hT0b : ((T[0]'hT0).toNat : Int) = bt a0 (j : Int) := by
          rw [show T[0]'hT0 = a0[j]'(by omega) from by simp only [← hTl, ByteArray.getElem_extract, Nat.add_zero], bt, dif_pos (by simp; omega)]
          simp
        rw [hTl] at hA
        obtain ⟨Y, hY⟩ : ∃ Y, bt a0 (j : Int) = Y := ⟨_, rfl⟩
        rw [hY] at hA hT0b
        have hTs4 : T.size ≤ 4294967296 := by omega
        have HF : Aside0 (utf8_FullRuneInString.f T = some (fullRune T)) := ⟨by unfold utf8_FullRuneInString.f; rw [if_pos hTs4]⟩
        have HS : Aside0 (utf8_RuneStart.f Y = some ((Go.bits .and .u8 Y 192) != 128)) := ⟨rfl⟩
        obtain ⟨F, hF⟩ : ∃ F, fullRune T = F := ⟨_, rfl⟩
        obtain ⟨S, hS⟩ : ∃ S, ((Go.bits .and .u8 Y 192) != 128) = S := ⟨_, rfl⟩
        rw [hF] at HF hA
        rw [hS] at HS hA
        clear hF hS hY
        have hk1 : wrap64 (((k + 1 : Nat) : Int) - 1) = (k : Int) := by unfold wrap64; omega
        have hk2 : IntKind.i64.wrap (((k + 1 : Nat) : Int) - 1) = (k : Int) := (i64_w _).trans hk1
        obtain ⟨Kk, hKk⟩ : ∃ Kk : Int, ((k + 1 : Nat) : Int) = Kk := ⟨_, rfl⟩
        rw [hKk] at hc hsub hsub2 hk1 hk2
        simp only [hKk]
        have HKk := Aside0.mk hKk
        clear hKk
        cases hSv : S
        · subst hSv
          have HA2 : Aside0 (gWhole a0 k = r) := ⟨by simpa using hA⟩
          clear hA
          go_wp2_with (first | (go_at_call 47; refine (utf8_RuneStart.calls Y _ _ HS.out).mono ?_; rintro e w1 ⟨rfl, hd⟩; have HB1 := Aside0.mk (below_step HB.out hd.below); clear hd))
          go_roundw
          case rel => exact ⟨k, by omega, by omega, rfl, HA2, HB1⟩
          case measure => have := HKk.out; simp [intOf]; omega
        · subst hSv
          cases hFv : F
          · subst hFv
            have HA2 : Aside0 ((j : Int) = r) := ⟨by simpa using hA⟩
            clear hA
            go_wp2_with (first | (go_at_call 47; refine (utf8_RuneStart.calls Y _ _ HS.out).mono ?_; rintro e w1 ⟨rfl, hd⟩; have HB1 := Aside0.mk (below_step HB.out hd.below); clear hd) | (go_at_call 48; refine (utf8_FullRuneInString.calls T _ _ (Utf.tabs_step HT.out HB1.out) HF.out).mono ?_; rintro e w2 ⟨rfl, hb2⟩))
            go_ret
            exact ⟨by rw [← HA2.out]; rfl, below_step HB1.out hb2⟩
          · subst hFv
            have HA2 : Aside0 (gWhole a0 k = r) := ⟨by simpa using hA⟩
            clear hA
            go_wp2_with (first | (go_at_call 47; refine (utf8_RuneStart.calls Y _ _ HS.out).mono ?_; rintro e w1 ⟨rfl, hd⟩; have HB1 := Aside0.mk (below_step HB.out hd.below); clear hd) | (go_at_call 48; refine (utf8_FullRuneInString.calls T _ _ (Utf.tabs_step HT.out HB1.out) HF.out).mono ?_; rintro e w2 ⟨rfl, hb2⟩))
            go_roundw
            case rel => exact ⟨k, by omega, by omega, rfl, HA2, ⟨below_step HB1.out hb2⟩⟩
            case measure => have := HKk.out; simp [intOf]; omega
  · rw [if_neg hs] at h
    cases h

end Go.Proofs.YtfcobfjjcocggaaDoor.V
