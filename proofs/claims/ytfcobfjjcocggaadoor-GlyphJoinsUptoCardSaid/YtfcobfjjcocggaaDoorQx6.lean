-- Printed by hprint.py (this session's program over the kit's print) out of the translation; the parts 'by hand' are the session's own.
import Derived.Test.YtfcobfjjcocggaaDoorQx0
namespace Go.Proofs.YtfcobfjjcocggaaDoor.Q
open Go.RowKit Go.Proofs.YtfcobfjjcocggaaDoorW.PrintWords Go.Proofs.YtfcobfjjcocggaaDoorW.PrintLast Go.Proofs.YtfcobfjjcocggaaDoorW.PrintMore
attribute [local go_sem] max2_int min2_int max_two min_two max_three min_three max_four min_four   -- for this text's walks alone
set_option linter.unusedVariables false
set_option linter.unusedSimpArgs false

/-! ### glyph_Runes: function 16: by hand -/
def gRunes (s : ByteArray) : Nat → Nat → List Int
  | 0, _ => []
  | f + 1, i => if i < s.size then ((Utf8.decode s i).1 : Int) :: gRunes s f (i + (Utf8.decode s i).2) else []
def glyph_Runes.f (a0 : ByteArray) : Option (List Int) := if a0.size ≤ 4294967296 then some (gRunes a0 a0.size 0) else none
theorem runesFrom_eq (s : ByteArray) : ∀ f i acc, (Conv.runesFrom s f i acc).toList = acc.toList ++ (gRunes s f i).map (fun x => Value.int .i32 x)
  | 0, i, acc => by simp [Conv.runesFrom, gRunes]
  | f + 1, i, acc => by
    unfold Conv.runesFrom gRunes
    split
    · rw [runesFrom_eq s f]
      simp
    · simp
theorem gRunes_len (s : ByteArray) : ∀ f i, (gRunes s f i).length ≤ f
  | 0, _ => by simp [gRunes]
  | f + 1, i => by
    have := gRunes_len s f (i + (Utf8.decode s i).2)
    unfold gRunes
    split
    · simp; omega
    · simp
theorem info_i32 : (Tryd.prog.info? 21).map (fun i => (i.zero, i.size, i.bytes)) = some (some (.int .i32 0), 1, 4) := by kernel_rfl
set_option maxHeartbeats 1000000 in
set_option maxRecDepth 100000 in
theorem glyph_Runes.calls (a0 : ByteArray) (r : List Int) (w : World) (h : glyph_Runes.f a0 = some r) :
    Calls Tryd.prog 16 #[.string a0] w fun e w' => ∃ v0_ : Value, e = .returned (v0_) ∧ Kd.R (Kd.int .i32) 21 w' w.heap.size (fun _ => True) v0_ r ∧ Below w.heap.size w w' := by
  unfold glyph_Runes.f at h
  by_cases hs : a0.size ≤ 4294967296
  · rw [if_pos hs] at h
    obtain rfl := Option.some.inj h
    clear h
    have hln := gRunes_len a0 a0.size 0
    have hrs : (Conv.runesFrom a0 a0.size 0 #[]).size = (gRunes a0 a0.size 0).length := by
      rw [← Array.length_toList, runesFrom_eq]
      simp
    have hrl : (Conv.runesFrom a0 a0.size 0 #[]).toList = nums .i32 (gRunes a0 a0.size 0) := by rw [runesFrom_eq]; rfl
    have hcv := run_runes_of_string (P := Tryd.prog) w 9 26 21 a0 Tryd.underlying9 Tryd.underlying26 Tryd.underlying21 (by omega)
    obtain ⟨l, hl⟩ : ∃ l, gRunes a0 a0.size 0 = l := ⟨_, rfl⟩
    rw [hl] at hln hrs hrl ⊢
    obtain ⟨X, hX⟩ : ∃ X, Conv.runesFrom a0 a0.size 0 #[] = X := ⟨_, rfl⟩
    rw [hX] at hrs hrl hcv
    rw [hrs] at hcv
    clear hX hl
    have hcg := grownCap_ge w l.length 0 21
    obtain ⟨cap, hcap⟩ : ∃ cap, grownCap w l.length 0 21 = cap := ⟨_, rfl⟩
    rw [hcap] at hcv hcg
    have Hrs := Aside0.mk hrs
    have Hrl := Aside0.mk hrl
    have Hcap := Aside0.mk hcap
    clear hrs hrl hcap
    go_enter Tryd.func16, Tryd.ntmps16
    go_wp2
    go_ret
    refine ⟨_, rfl, Kd.R_of_own (enc := fun x => Value.int .i32 x) (h1 := fun _ => rfl) ⟨by simp [encs], .inr ⟨w.heap.size, cap, X ++ Array.replicate (cap - l.length) (.int .i32 0), rfl, Nat.le_refl _, ?_, hcg, ?_, ?_, ?_⟩⟩ (fun _ _ => trivial), ((Below.refl _ w).drew).alloc (Nat.le_refl _) _⟩
    · exact heap_alloc_new w.drew _
    · rw [← Hcap.out]; exact grownCap_le_maxLen w _ _ _ (by unfold maxLen; omega)
    · simp [Hrs.out]; omega
    · rw [Array.toList_append, Hrl.out, Nat.mul_one, List.take_append_of_le_length (by simp [nums]), List.take_of_length_le (by simp [nums])]; rfl
  · rw [if_neg hs] at h
    cases h

end Go.Proofs.YtfcobfjjcocggaaDoor.Q
