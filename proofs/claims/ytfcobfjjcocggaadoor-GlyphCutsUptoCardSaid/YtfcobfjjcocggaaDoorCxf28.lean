-- Printed by hprint.py (this session's program over the kit's print) out of the translation; the parts 'by hand' are the session's own.
import Derived.Test.YtfcobfjjcocggaaDoorCx0
import Derived.Test.YtfcobfjjcocggaaDoorCxf22
namespace Go.Proofs.YtfcobfjjcocggaaDoor.C
open Go.RowKit Go.Proofs.YtfcobfjjcocggaaDoorW.PrintWords Go.Proofs.YtfcobfjjcocggaaDoorW.PrintLast Go.Proofs.YtfcobfjjcocggaaDoorW.PrintMore
attribute [local go_sem] max2_int min2_int max_two min_two max_three min_three max_four min_four   -- for this text's walks alone
set_option linter.unusedVariables false
set_option linter.unusedSimpArgs false

/-! ### glyph_Cut: function 28: by hand -/
/-- Where the n-th cell behind p begins (the text's end, where there are fewer). -/
def gPos (s : ByteArray) : Nat → Nat → Nat
  | 0, p => p
  | n + 1, p => if p < s.size then gPos s n (p + (Utf8.decode s p).2) else p
def glyph_Cut.f (a0 : ByteArray) (a1 : Int) : Option (ByteArray × ByteArray × Int) :=
  if a0.size ≤ 4294967296 then (if a1 < 0 then some (⟨#[]⟩, ⟨#[]⟩, 2) else if (Lib.runeCount a0 : Int) < a1 then some (⟨#[]⟩, ⟨#[]⟩, 2)
    else some (a0.extract 0 (gPos a0 a1.toNat 0), a0.extract (gPos a0 a1.toNat 0) a0.size, 0)) else none
theorem extract_all (s : ByteArray) : s.extract 0 s.size = s := by
  apply ByteArray.ext
  simp
theorem extract_none (s : ByteArray) : s.extract s.size s.size = ⟨#[]⟩ := by
  apply ByteArray.ext
  simp
set_option maxHeartbeats 4000000 in
set_option maxRecDepth 100000 in
theorem glyph_Cut.calls (a0 : ByteArray) (a1 : Int) (r1 : ByteArray) (r2 : ByteArray) (r3 : Int) (w : World) (h : glyph_Cut.f a0 a1 = some (r1, r2, r3)) :
    Calls Tryd.prog 28 #[.string a0, .int .i64 a1] w fun e w' => e = .returned (.tuple #[.string r1, .string r2, .int .i64 r3]) ∧ Below w.heap.size w w' := by
  unfold glyph_Cut.f at h
  by_cases hs : a0.size ≤ 4294967296
  · rw [if_pos hs] at h
    by_cases h0 : a1 < 0
    · rw [if_pos h0] at h
      obtain ⟨rfl, rfl, rfl⟩ : r1 = ⟨#[]⟩ ∧ r2 = ⟨#[]⟩ ∧ r3 = 2 := by simpa [eq_comm] using h
      clear h
      have hd : decide (a1 < 0) = true := decide_eq_true h0
      go_enter Tryd.func28, Tryd.ntmps28
      go_wp2_with fail
      go_ret3
      exact ⟨rfl, Below.refl _ _⟩
    · rw [if_neg h0] at h
      have hd : decide (a1 < 0) = false := decide_eq_false h0
      have hcl := Lib.runeCount_le a0
      have HC : Aside0 (glyph_Count.f a0 = some (Lib.runeCount a0 : Int)) := ⟨by unfold glyph_Count.f; rw [if_pos hs]⟩
      obtain ⟨C, hC⟩ : ∃ C, Lib.runeCount a0 = C := ⟨_, rfl⟩
      rw [hC] at h hcl HC
      clear hC
      by_cases h1 : (C : Int) < a1
      · rw [if_pos h1] at h
        obtain ⟨rfl, rfl, rfl⟩ : r1 = ⟨#[]⟩ ∧ r2 = ⟨#[]⟩ ∧ r3 = 2 := by simpa [eq_comm] using h
        clear h
        have hd1 : decide ((C : Int) < a1) = true := decide_eq_true h1
        go_enter Tryd.func28, Tryd.ntmps28
        go_wp2_with (go_at_call 22; refine (glyph_Count.calls a0 C _ HC.out).mono ?_; rintro e w1 ⟨rfl, hb⟩)
        go_ret3
        exact ⟨rfl, hb⟩
      · rw [if_neg h1] at h
        have hd1 : decide ((C : Int) < a1) = false := decide_eq_false h1
        obtain ⟨n, rfl⟩ : ∃ n : Nat, a1 = (n : Int) := ⟨a1.toNat, by omega⟩
        rw [Int.toNat_natCast] at h
        obtain ⟨P, hP⟩ : ∃ P, gPos a0 n 0 = P := ⟨_, rfl⟩
        rw [hP] at h
        obtain ⟨rfl, rfl, rfl⟩ : r1 = a0.extract 0 P ∧ r2 = a0.extract P a0.size ∧ r3 = 0 := by simpa [eq_comm] using h
        clear h
        have HP := Aside0.mk hP
        clear hP
        go_enter Tryd.func28, Tryd.ntmps28
        go_wp2_with (go_at_call 22; refine (glyph_Count.calls a0 C _ HC.out).mono ?_; rintro e w1 ⟨rfl, hb⟩; have HB := Aside0.mk hb; clear hb)
        go_loopw [1] (fun v wr => ∃ (pos m : Nat), wr = w1.iter a0 pos ∧ v = .int .i64 (m : Int) ∧ Aside0 (gPos a0 m pos = P) ∧ pos ≤ a0.size ∧ m ≤ n) (fun _ wr => a0.size - wr.iterPos w1.heap.size)
        case atStart => exact ⟨0, n, rfl, rfl, HP, by omega, Nat.le_refl _⟩
        case round =>
          obtain ⟨pos, m, rfl, rfl, HQ, hpl, hm⟩ := hrel
          by_cases hp : pos < a0.size
          · have hnx : ∀ ty, (Instr.next (.pointer (some ⟨w1.heap.size, 0, none⟩)) true ty).run Tryd.prog (w1.iter a0 pos) = _ := fun ty => run_next_any w1 a0 pos ty hp
            have hw1 := Utf.width_pos a0 pos hp
            have hw2 := Utf.width_le a0 pos hp
            cases m with
            | zero =>
              obtain rfl : pos = P := HQ.out
              go_wp2_with fail
              go_quiet (fail)
              go_wp2_with fail
              go_ret3
              exact ⟨rfl, by repeat (first | exact HB.out.alloc HB.out.size _ | apply pw_below_drewN | apply below_drew1)⟩
            | succ m =>
              have HQ2 : Aside0 (gPos a0 m (pos + (Utf8.decode a0 pos).2) = P) := ⟨by have := HQ.out; unfold gPos at this; rwa [if_pos hp] at this⟩
              go_wp2_with fail
              go_roundw
              case rel => exact ⟨pos + (Utf8.decode a0 pos).2, m, rfl, by go_num, HQ2, by omega, by omega⟩
              case measure => simp; omega
          · have hnx : ∀ ty, (Instr.next (.pointer (some ⟨w1.heap.size, 0, none⟩)) true ty).run Tryd.prog (w1.iter a0 pos) = _ := fun ty => run_next_end w1 a0 pos ty hp
            have hPz : P = a0.size := by
              have := HQ.out
              cases m with
              | zero => exact this.symm.trans (by show pos = _; omega)
              | succ m => unfold gPos at this; rw [if_neg hp] at this; omega
            subst hPz
            have hE1 := Aside0.mk (extract_all a0)
            have hE2 := Aside0.mk (extract_none a0)
            go_wp2_with fail
            go_ret3
            exact ⟨by rw [hE1.out, hE2.out]; rfl, by repeat (first | exact HB.out.alloc HB.out.size _ | apply pw_below_drewN | apply below_drew1)⟩
  · rw [if_neg hs] at h
    cases h

end Go.Proofs.YtfcobfjjcocggaaDoor.C
