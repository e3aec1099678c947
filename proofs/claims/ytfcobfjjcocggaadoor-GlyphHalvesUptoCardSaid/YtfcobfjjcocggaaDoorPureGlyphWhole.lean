/-
  How much of a text is sure: glyph.Whole answers as the document; and whatever stands behind, the cells of the sure part stay.
-/
import Derived.Test.YtfcobfjjcocggaaDoorVFacts
import Derived.Test.YtfcobfjjcocggaaDoorPureGlyphCells
import Derived.Test.YtfcobfjjcocggaaDoorVx9
import Derived.Test.YtfcobfjjcocggaaDoorVx6
import Derived.Test.YtfcobfjjcocggaaDoorVx10
set_option linter.unusedSimpArgs false
set_option linter.unusedVariables false
namespace Go.Proofs.YtfcobfjjcocggaaDoor.Pure
open Go.RowKit Go.Proofs.YtfcobfjjcocggaaDoor.V Go.Proofs.YtfcobfjjcocggaaDoorW.PrintWords Go.Proofs.YtfcobfjjcocggaaDoorW.PrintLast

/-- n bytes that begin a rune and are not all of it. -/
def inc (n : Nat) (b0 b1 b2 : Int) : Prop := (n : Int) < Pl.want b0 ∧ (1 < n → Pl.sec b0 b1) ∧ (2 < n → 128 ≤ b2 ∧ b2 ≤ 191)
theorem first_inc (n b0 b1 b2 : Nat) (h1 : 1 ≤ n) (h3 : n ≤ 3) (h0 : b0 < 256) :
    ¬ (Lib.firstT b0 % 8 ≤ n ∨ (1 < n ∧ (b1 < Lib.accLo (Lib.firstT b0 / 16) ∨ Lib.accHi (Lib.firstT b0 / 16) < b1)) ∨ (2 < n ∧ (b2 < 128 ∨ 191 < b2))) ↔ inc n b0 b1 b2 := by
  unfold inc Lib.firstT Pl.want
  rw [Pl.sec_iff]
  repeat' split
  all_goals simp only [show (240 : Nat) / 16 = 15 from rfl, show (241 : Nat) / 16 = 15 from rfl, show (2 : Nat) / 16 = 0 from rfl, show (19 : Nat) / 16 = 1 from rfl, show (3 : Nat) / 16 = 0 from rfl, show (35 : Nat) / 16 = 2 from rfl, show (52 : Nat) / 16 = 3 from rfl, show (4 : Nat) / 16 = 0 from rfl, show (68 : Nat) / 16 = 4 from rfl, show Lib.accLo 0 = 128 from rfl, show Lib.accLo 1 = 160 from rfl, show Lib.accLo 2 = 128 from rfl, show Lib.accLo 3 = 144 from rfl, show Lib.accLo 4 = 128 from rfl, show Lib.accHi 0 = 191 from rfl, show Lib.accHi 1 = 191 from rfl, show Lib.accHi 2 = 159 from rfl, show Lib.accHi 3 = 191 from rfl, show Lib.accHi 4 = 143 from rfl]
  all_goals omega
set_option maxHeartbeats 4000000 in
/-- More bytes behind change nothing, where what stands is no rune's beginning, or no more of it comes. -/
theorem dec_same (n n' b0 b1 b2 b3 c1 c2 c3 : Nat) (h1 : 1 ≤ n) (hn : n ≤ n') (k0 : b0 < 256) (k1 : b1 < 256) (k2 : b2 < 256) (k3 : b3 < 256) (l1 : c1 < 256) (l2 : c2 < 256) (l3 : c3 < 256) (e1 : 1 < n → b1 = c1) (e2 : 2 < n → b2 = c2) (e3 : 3 < n → b3 = c3)
    (h : ¬ inc n b0 b1 b2 ∨ (n = 1 ∧ (c1 < 128 ∨ 191 < c1)) ∨ (n = 2 ∧ (c2 < 128 ∨ 191 < c2)) ∨ (n = 3 ∧ (c3 < 128 ∨ 191 < c3))) :
    Lib.decodeN n b0 b1 b2 b3 = Lib.decodeN n' b0 c1 c2 c3 := by
  unfold inc Pl.want at h
  rw [Pl.sec_iff] at h
  by_cases a0 : b0 < 128
  · unfold Lib.decodeN
    rw [if_pos a0, if_pos a0]
  by_cases n4 : 4 ≤ n
  · obtain rfl := e1 (by omega)
    obtain rfl := e2 (by omega)
    obtain rfl := e3 (by omega)
    unfold Lib.decodeN
    simp only [show (1 < n) = True from eq_true (by omega), show (2 < n) = True from eq_true (by omega), show (3 < n) = True from eq_true (by omega), show (1 < n') = True from eq_true (by omega), show (2 < n') = True from eq_true (by omega), show (3 < n') = True from eq_true (by omega)]
  · have hd : n = 1 ∨ n = 2 ∨ n = 3 := by omega
    rcases hd with rfl | rfl | rfl
    · unfold Lib.decodeN
      rw [if_neg a0, if_neg a0, if_neg (by omega), if_neg (by omega), if_neg (by omega)]
      repeat' split
      all_goals first | rfl | (exfalso; repeat' split at h; all_goals omega)
    · obtain rfl := e1 (by omega)
      unfold Lib.decodeN
      rw [if_neg a0, if_neg a0]
      by_cases c : b0 / 32 = 6 ∧ (1 < 2 ∧ b1 / 64 = 2)
      · rw [if_pos c, if_pos (c := b0 / 32 = 6 ∧ (1 < n' ∧ b1 / 64 = 2)) ⟨c.1, by omega, c.2.2⟩]
      · rw [if_neg c, if_neg (by omega), if_neg (by omega), if_neg (by omega)]
        repeat' split
        all_goals first | rfl | (exfalso; repeat' split at h; all_goals omega)
    · obtain rfl := e1 (by omega)
      obtain rfl := e2 (by omega)
      unfold Lib.decodeN
      rw [if_neg a0, if_neg a0]
      by_cases c : b0 / 32 = 6 ∧ (1 < 3 ∧ b1 / 64 = 2)
      · rw [if_pos c, if_pos (c := b0 / 32 = 6 ∧ (1 < n' ∧ b1 / 64 = 2)) ⟨c.1, by omega, c.2.2⟩]
      · rw [if_neg c, if_neg (c := b0 / 32 = 6 ∧ (1 < n' ∧ b1 / 64 = 2)) (by omega)]
        by_cases d : b0 / 16 = 14 ∧ (1 < 3 ∧ b1 / 64 = 2) ∧ (2 < 3 ∧ b2 / 64 = 2)
        · rw [if_pos d, if_pos (c := b0 / 16 = 14 ∧ (1 < n' ∧ b1 / 64 = 2) ∧ (2 < n' ∧ b2 / 64 = 2)) ⟨d.1, ⟨by omega, d.2.1.2⟩, by omega, d.2.2.2⟩]
        · rw [if_neg d, if_neg (c := b0 / 16 = 14 ∧ (1 < n' ∧ b1 / 64 = 2) ∧ (2 < n' ∧ b2 / 64 = 2)) (by omega), if_neg (by omega)]
          repeat' split
          all_goals first | rfl | (exfalso; repeat' split at h; all_goals omega)
/-- Is the text's end, n bytes of it, a rune that has begun? -/
def incAt (s : ByteArray) (n : Nat) : Prop := inc n (s.get! (s.size - n)).toNat (s.get! (s.size - n + 1)).toNat (s.get! (s.size - n + 2)).toNat
noncomputable instance (s : ByteArray) (n : Nat) : Decidable (incAt s n) := Classical.propDecidable _
theorem want_lead (b : Int) (n : Nat) (h1 : 1 ≤ n) (h : (n : Int) < Pl.want b) : 194 ≤ b ∧ b ≤ 244 := by
  unfold Pl.want at h
  repeat' split at h
  all_goals omega
theorem start_lead (b : Nat) (h : 194 ≤ b) (h2 : b < 256) : ((Go.bits .and .u8 (b : Int) 192) != 128) = true := by
  have : ∀ b : Nat, b < 256 → 194 ≤ b → ((Go.bits .and .u8 (b : Int) 192) != 128) = true := by decide +kernel
  exact this b h2 h
theorem step_inc (s : ByteArray) (n : Nat) (h1 : 1 ≤ n) (h3 : n ≤ 3) (hn : n ≤ s.size) :
    ((Go.bits .and .u8 (bt s ((s.size - n : Nat) : Int)) 192) != 128 && !fullRune (s.extract (s.size - n) s.size)) = true ↔ incAt s n := by
  have hT : (s.extract (s.size - n) s.size).size = n := by rw [ByteArray.size_extract]; omega
  have g0 := Utf.get_tail s (s.size - n) 0
  have g1 := Utf.get_tail s (s.size - n) 1
  have g2 := Utf.get_tail s (s.size - n) 2
  have hb := Pl.bt_nat s (s.size - n) (by omega)
  have l0 := Utf.byte_lt s (s.size - n)
  have hf := first_inc n (s.get! (s.size - n)).toNat (s.get! (s.size - n + 1)).toNat (s.get! (s.size - n + 2)).toNat h1 h3 l0
  unfold fullRune incAt
  rw [hT, hb]
  rw [Nat.add_zero] at g0
  rw [g0, g1, g2, ← hf, Bool.and_eq_true, Bool.not_eq_true', decide_eq_false_iff_not]
  constructor
  · rintro ⟨_, h⟩ h'
    exact h ⟨by omega, h'⟩
  · intro h
    refine ⟨?_, fun h' => h h'.2⟩
    have hi := hf.1 h
    exact start_lead _ (by have := want_lead _ n h1 hi.1; omega) l0
/-- How much is sure, from the end on. -/
noncomputable def W (s : ByteArray) : Nat := if 1 ≤ s.size ∧ incAt s 1 then s.size - 1 else if 2 ≤ s.size ∧ incAt s 2 then s.size - 2 else if 3 ≤ s.size ∧ incAt s 3 then s.size - 3 else s.size
theorem inc_one (s : ByteArray) (m n : Nat) (h1 : 1 ≤ m) (hmn : m < n) (h3 : n ≤ 3) (hn : n ≤ s.size) (h : incAt s n) : ¬ incAt s m := by
  intro h2
  have hw := want_lead _ m h1 h2.1
  have hc1 := h.2.1 (by omega)
  rw [Pl.sec_iff] at hc1
  have hc2 := h.2.2
  by_cases e : m + 1 = n
  · rw [show s.size - m = s.size - n + 1 from by omega] at hw
    omega
  · have := hc2 (by omega)
    rw [show s.size - m = s.size - n + 2 from by omega] at hw
    omega
theorem whole_eq (s : ByteArray) : gWhole s (min 3 s.size) = (W s : Int) := by
  have st : ∀ k, k + 1 ≤ 3 → k + 1 ≤ s.size → gWhole s (k + 1) = if incAt s (k + 1) then ((s.size - (k + 1) : Nat) : Int) else gWhole s k := by
    intro k h3 hk
    rw [gWhole]
    by_cases h : incAt s (k + 1)
    · rw [if_pos ((step_inc s (k + 1) (by omega) h3 hk).2 h), if_pos h]
    · rw [if_neg (fun e => h ((step_inc s (k + 1) (by omega) h3 hk).1 e)), if_neg h]
  have z : gWhole s 0 = (s.size : Int) := rfl
  unfold W
  have o21 : 2 ≤ s.size → incAt s 2 → ¬ incAt s 1 := fun h => inc_one s 1 2 (by omega) (by omega) (by omega) h
  have o31 : 3 ≤ s.size → incAt s 3 → ¬ incAt s 1 := fun h => inc_one s 1 3 (by omega) (by omega) (by omega) h
  have o32 : 3 ≤ s.size → incAt s 3 → ¬ incAt s 2 := fun h => inc_one s 2 3 (by omega) (by omega) (by omega) h
  rcases Nat.lt_or_ge s.size 1 with c | c
  · rw [show min 3 s.size = 0 from by omega, z, if_neg (by omega), if_neg (by omega), if_neg (by omega)]
  rcases Nat.lt_or_ge s.size 2 with c2 | c2
  · rw [show min 3 s.size = 0 + 1 from by omega, st 0 (by omega) (by omega), z, if_neg (c := 2 ≤ s.size ∧ _) (by omega), if_neg (c := 3 ≤ s.size ∧ _) (by omega)]
    by_cases a : incAt s 1
    · rw [if_pos a, if_pos ⟨c, a⟩]
    · rw [if_neg a, if_neg (fun e => a e.2)]
  rcases Nat.lt_or_ge s.size 3 with c3 | c3
  · rw [show min 3 s.size = 1 + 1 from by omega, st 1 (by omega) (by omega), st 0 (by omega) (by omega), z, if_neg (c := 3 ≤ s.size ∧ _) (by omega)]
    by_cases b : incAt s 2
    · rw [if_pos b, if_neg (fun e => o21 c2 b e.2), if_pos ⟨c2, b⟩]
    · rw [if_neg b, if_neg (c := 2 ≤ s.size ∧ _) (fun e => b e.2)]
      by_cases a : incAt s 1
      · rw [if_pos a, if_pos ⟨c, a⟩]
      · rw [if_neg a, if_neg (fun e => a e.2)]
  · rw [show min 3 s.size = 2 + 1 from by omega, st 2 (by omega) (by omega), st 1 (by omega) (by omega), st 0 (by omega) (by omega), z]
    by_cases d : incAt s 3
    · rw [if_pos d, if_neg (fun e => o31 c3 d e.2), if_neg (c := 2 ≤ s.size ∧ _) (fun e => o32 c3 d e.2), if_pos ⟨c3, d⟩]
    · rw [if_neg d, if_neg (c := 3 ≤ s.size ∧ _) (fun e => d e.2)]
      by_cases b : incAt s 2
      · rw [if_pos b, if_neg (fun e => o21 c2 b e.2), if_pos ⟨c2, b⟩]
      · rw [if_neg b, if_neg (c := 2 ≤ s.size ∧ _) (fun e => b e.2)]
        by_cases a : incAt s 1
        · rw [if_pos a, if_pos ⟨c, a⟩]
        · rw [if_neg a, if_neg (fun e => a e.2)]
/-- The document's step. -/
theorem ref_inc (s : ByteArray) (hs : s.size ≤ 4294967296) (n : Nat) (h1 : 1 ≤ n) (h3 : n ≤ 3) (hn : n ≤ s.size) :
    (((n : Int) < Pl.want (bt s ((s.size - n : Nat) : Int))) ∧ Pl.fitN s ((s.size - n : Nat) : Int) (Pl.want (bt s ((s.size - n : Nat) : Int))) = (n : Int)) ↔ incAt s n := by
  have hb := Pl.bt_nat s (s.size - n) (by omega)
  have hb1 : 1 < n → bt s (((s.size - n : Nat) : Int) + 1) = ((s.get! (s.size - n + 1)).toNat : Int) := fun h => Pl.bt_nat s (s.size - n + 1) (by omega)
  have hb2 : 2 < n → bt s (((s.size - n : Nat) : Int) + 2) = ((s.get! (s.size - n + 2)).toNat : Int) := fun h => Pl.bt_nat s (s.size - n + 2) (by omega)
  unfold incAt inc Pl.fitN
  rw [hb]
  generalize (s.get! (s.size - n)).toNat = B0 at *
  generalize hW : Pl.want (B0 : Int) = V at *
  have hd : n = 1 ∨ n = 2 ∨ n = 3 := by omega
  rcases hd with rfl | rfl | rfl
  · constructor
    · rintro ⟨h, _⟩
      exact ⟨h, by omega, by omega⟩
    · rintro ⟨h, _⟩
      refine ⟨h, ?_⟩
      rw [if_neg (by omega)]
      rfl
  · rw [hb1 (by omega)]
    constructor
    · rintro ⟨h, h2⟩
      refine ⟨h, fun _ => ?_, by omega⟩
      by_cases c : (1 < V ∧ ((s.size - 2 : Nat) : Int) + 1 < (s.size : Int) ∧ Pl.sec (B0 : Int) ((s.get! (s.size - 2 + 1)).toNat : Int))
      · exact c.2.2
      · rw [if_neg c] at h2
        omega
    · rintro ⟨h, h2, _⟩
      refine ⟨h, ?_⟩
      rw [if_pos ⟨by omega, by omega, h2 (by omega)⟩, if_neg (by omega)]
      rfl
  · rw [hb1 (by omega), hb2 (by omega)]
    constructor
    · rintro ⟨h, h2⟩
      by_cases c : (1 < V ∧ ((s.size - 3 : Nat) : Int) + 1 < (s.size : Int) ∧ Pl.sec (B0 : Int) ((s.get! (s.size - 3 + 1)).toNat : Int))
      · rw [if_pos c] at h2
        refine ⟨h, fun _ => c.2.2, fun _ => ?_⟩
        by_cases d : (2 < V ∧ ((s.size - 3 : Nat) : Int) + 2 < (s.size : Int) ∧ (128 ≤ ((s.get! (s.size - 3 + 2)).toNat : Int) ∧ ((s.get! (s.size - 3 + 2)).toNat : Int) ≤ 191))
        · exact d.2.2
        · rw [if_neg d] at h2
          omega
      · rw [if_neg c] at h2
        omega
    · rintro ⟨h, h2, h4⟩
      refine ⟨h, ?_⟩
      rw [if_pos ⟨by omega, by omega, h2 (by omega)⟩, if_pos ⟨by omega, by omega, h4 (by omega)⟩, if_neg (by omega)]
      rfl
theorem ref_step (s : ByteArray) (hs : s.size ≤ 4294967296) (n k : Nat) (h1 : 1 ≤ n) (h3 : n ≤ 3) :
    siglumref01_Whole.l0 (k + 20) s (n : Int) = if n ≤ s.size then (if incAt s n then some ((s.size - n : Nat) : Int) else siglumref01_Whole.l0 (k + 18) s ((n + 1 : Nat) : Int)) else some (s.size : Int) := by
  rw [siglumref01_Whole.l0, if_pos (by omega), siglumref01_Whole.j1]
  by_cases hn : n ≤ s.size
  · have e : wrap64 ((s.size : Int) - n) = ((s.size - n : Nat) : Int) := by rw [Pl.wrap_small _ (by omega) (by omega)]; omega
    have e2 : wrap64 ((n : Int) + 1) = ((n + 1 : Nat) : Int) := by rw [Pl.wrap_small _ (by omega) (by omega)]; omega
    rw [decide_eq_true (by omega), if_pos rfl, e, e2, if_pos (by omega), if_pos (by omega), Pl.wants_some, if_pos hn]
    simp only [Option.bind_some]
    have hr := ref_inc s hs n h1 h3 hn
    by_cases c : (n : Int) < Pl.want (bt s ((s.size - n : Nat) : Int))
    · have hf := Pl.fits_eq (k + 8) s (s.size - n) (by omega) hs (by omega)
      rw [if_pos c, show k + 18 = k + 8 + 10 from by omega, hf]
      simp only [Option.bind_some]
      by_cases d : Pl.fitN s ((s.size - n : Nat) : Int) (Pl.want (bt s ((s.size - n : Nat) : Int))) = (n : Int)
      · rw [if_pos d, if_pos (hr.1 ⟨c, d⟩)]
      · rw [if_neg d, if_neg (fun i => d (hr.2 i).2)]
    · rw [if_neg c, if_neg (fun i => c (hr.2 i).1)]
  · rw [decide_eq_false (by omega), if_neg (by decide), if_neg hn]
theorem ref_whole (s : ByteArray) (hs : s.size ≤ 4294967296) (k : Nat) : siglumref01_Whole.f (k + 40) s = some (W s : Int) := by
  unfold siglumref01_Whole.f W
  have a := ref_step s hs 1 (k + 20) (by omega) (by omega)
  have b := ref_step s hs 2 (k + 18) (by omega) (by omega)
  have c := ref_step s hs 3 (k + 16) (by omega) (by omega)
  have d : siglumref01_Whole.l0 (k + 34) s ((4 : Nat) : Int) = some (s.size : Int) := by
    rw [siglumref01_Whole.l0, if_neg (by omega), siglumref01_Whole.j1, if_neg (by decide)]
  rw [show k + 20 + 20 = k + 40 from by omega, show k + 20 + 18 = k + 38 from by omega] at a
  rw [show k + 18 + 20 = k + 38 from by omega, show k + 18 + 18 = k + 36 from by omega] at b
  rw [show k + 16 + 20 = k + 36 from by omega, show k + 16 + 18 = k + 34 from by omega, d] at c
  have a' : siglumref01_Whole.l0 (k + 40) s 1 = _ := a
  rw [a', show ((1 + 1 : Nat) : Int) = ((2 : Nat) : Int) from rfl, b, show ((2 + 1 : Nat) : Int) = ((3 : Nat) : Int) from rfl, c]
  by_cases h1 : 1 ≤ s.size
  · rw [if_pos h1]
    by_cases i1 : incAt s 1
    · rw [if_pos i1, if_pos ⟨h1, i1⟩]
    · rw [if_neg i1, if_neg (c := 1 ≤ s.size ∧ _) (fun e => i1 e.2)]
      by_cases h2 : 2 ≤ s.size
      · rw [if_pos h2]
        by_cases i2 : incAt s 2
        · rw [if_pos i2, if_pos ⟨h2, i2⟩]
        · rw [if_neg i2, if_neg (c := 2 ≤ s.size ∧ _) (fun e => i2 e.2)]
          by_cases h3 : 3 ≤ s.size
          · rw [if_pos h3]
            by_cases i3 : incAt s 3
            · rw [if_pos i3, if_pos ⟨h3, i3⟩]
            · rw [if_neg i3, if_neg (fun e => i3 e.2)]
          · rw [if_neg h3, if_neg (by omega)]
      · rw [if_neg h2, if_neg (by omega), if_neg (by omega)]
  · rw [if_neg h1, if_neg (by omega), if_neg (by omega), if_neg (by omega)]
theorem W_le (s : ByteArray) : W s ≤ s.size := by
  unfold W
  repeat' split
  all_goals omega
/-- What W leaves: nothing, or a rune that has begun. -/
theorem W_cases (s : ByteArray) : (W s = s.size ∧ ∀ n, 1 ≤ n → n ≤ 3 → n ≤ s.size → ¬ incAt s n) ∨ (∃ n, 1 ≤ n ∧ n ≤ 3 ∧ n ≤ s.size ∧ W s = s.size - n ∧ incAt s n) := by
  unfold W
  by_cases a : 1 ≤ s.size ∧ incAt s 1
  · rw [if_pos a]; exact .inr ⟨1, by omega, by omega, a.1, rfl, a.2⟩
  · rw [if_neg a]
    by_cases b : 2 ≤ s.size ∧ incAt s 2
    · rw [if_pos b]; exact .inr ⟨2, by omega, by omega, b.1, rfl, b.2⟩
    · rw [if_neg b]
      by_cases c : 3 ≤ s.size ∧ incAt s 3
      · rw [if_pos c]; exact .inr ⟨3, by omega, by omega, c.1, rfl, c.2⟩
      · rw [if_neg c]
        refine .inl ⟨rfl, fun n h1 h3 hn hi => ?_⟩
        have hd : n = 1 ∨ n = 2 ∨ n = 3 := by omega
        rcases hd with rfl | rfl | rfl
        · exact a ⟨hn, hi⟩
        · exact b ⟨hn, hi⟩
        · exact c ⟨hn, hi⟩
theorem get_append (s t : ByteArray) (i : Nat) (h : i < s.size) : (s ++ t).get! i = s.get! i := by
  rw [Utf.get_lt _ _ (by rw [ByteArray.size_append]; omega), Utf.get_lt _ _ h]
  exact ByteArray.getElem_append_left h
theorem get_head (s : ByteArray) (k i : Nat) (hk : k ≤ s.size) (h : i < k) : (s.extract 0 k).get! i = s.get! i := by
  have := Utf.get_extract s 0 k i hk (by omega)
  simpa using this
/-- The sure part decodes as all of it. -/
theorem dec_whole (s t : ByteArray) (p : Nat) (hp : p < W s) : Utf8.decode (s.extract 0 (W s)) p = Utf8.decode (s ++ t) p := by
  have hW := W_le s
  obtain ⟨k, hk⟩ : ∃ k, W s = k := ⟨_, rfl⟩
  have hc := W_cases s
  rw [hk] at hp hW hc ⊢
  have hsz : (s.extract 0 k).size = k := by rw [ByteArray.size_extract]; omega
  have hz2 : (s ++ t).size = s.size + t.size := ByteArray.size_append
  have ga : ∀ i, i < k → (s.extract 0 k).get! i = (s ++ t).get! i := fun i hi => (get_head s k i hW hi).trans (get_append s t i (by omega)).symm
  rw [Lib.decode_at, Lib.decode_at, hsz, hz2, ga p hp]
  refine dec_same _ _ _ _ _ _ _ _ _ (by omega) (by omega) (Utf.byte_lt _ _) (Utf.byte_lt _ _) (Utf.byte_lt _ _) (Utf.byte_lt _ _) (Utf.byte_lt _ _) (Utf.byte_lt _ _) (Utf.byte_lt _ _) (fun h => by rw [ga _ (by omega)]) (fun h => by rw [ga _ (by omega)]) (fun h => by rw [ga _ (by omega)]) ?_
  rcases hc with ⟨e, hno⟩ | ⟨n, h1, h3, hn, e, hi⟩
  · by_cases c4 : 4 ≤ k - p
    · left
      intro h
      have := h.1
      unfold Pl.want at this
      repeat' split at this
      all_goals omega
    · left
      intro h
      refine hno (k - p) (by omega) (by omega) (by omega) ?_
      unfold incAt
      rw [show s.size - (k - p) = p from by omega]
      refine ⟨by rw [← get_append s t p (by omega)]; exact h.1, fun h1 => ?_, fun h2 => ?_⟩
      · have := h.2.1 h1
        rw [ga (p + 1) (by omega), get_append s t p (by omega), get_append s t (p + 1) (by omega)] at this
        exact this
      · have := h.2.2 h2
        rw [ga (p + 2) (by omega), get_append s t (p + 2) (by omega)] at this
        exact this
  · have hl := want_lead _ n h1 hi.1
    rw [show s.size - n = k from by omega] at hl
    by_cases c4 : 4 ≤ k - p
    · left
      intro h
      have := h.1
      unfold Pl.want at this
      repeat' split at this
      all_goals omega
    · right
      have hd : k = p + 1 ∨ k = p + 2 ∨ k = p + 3 := by omega
      rcases hd with rfl | rfl | rfl
      · left
        exact ⟨by omega, by rw [get_append s t (p + 1) (by omega)]; omega⟩
      · right; left
        exact ⟨by omega, by rw [get_append s t (p + 2) (by omega)]; omega⟩
      · right; right
        exact ⟨by omega, by rw [get_append s t (p + 3) (by omega)]; omega⟩
theorem cell_of (a b : ByteArray) (p : Nat) (ha : p < a.size) (hb : p < b.size) (hd : Utf8.decode a p = Utf8.decode b p) (hg : a.get! p = b.get! p) : gCell a p = gCell b p := by
  unfold gCell Utf.bad
  rw [hd, Pl.bt_nat a p ha, Pl.bt_nat b p hb, hg]
theorem take_cells (a b : ByteArray) (hab : a.size ≤ b.size) (hd : ∀ p, p < a.size → Utf8.decode a p = Utf8.decode b p) (hg : ∀ p, p < a.size → a.get! p = b.get! p) :
    ∀ f f' p, a.size ≤ p + f → b.size ≤ p + f' → (gCells b f' p).take (gCells a f p).length = gCells a f p
  | 0, f', p, _, _ => rfl
  | f + 1, f', p, hf, hf' => by
    by_cases hp : p < a.size
    · obtain ⟨g, rfl⟩ : ∃ g, f' = g + 1 := ⟨f' - 1, by omega⟩
      have hw := Utf.width_pos a p hp
      have ih := take_cells a b hab hd hg f g (p + (Utf8.decode a p).2) (by omega) (by omega)
      rw [gCells_step a f p hp, gCells_step b g p (by omega), ← cell_of a b p hp (by omega) (hd p hp) (hg p hp), ← hd p hp, List.length_cons, List.take_succ_cons, ih]
    · rw [gCells_end a _ p hp]
      rfl
theorem GlyphWhole (a0 : ByteArray) (a1 : ByteArray) (_ : a0.size ≤ maxLen) (_ : a1.size ≤ maxLen) (hb : (a0.size + 1) + (a1.size + 1) ≤ 1048576) : ∃ k, siglumlaw01_GlyphWhole.f k a0 a1 = some true := by
  refine ⟨a0.size + a1.size + 60, ?_⟩
  have hW := W_le a0
  have hA : (a0.extract 0 (W a0)).size = W a0 := by rw [ByteArray.size_extract]; omega
  have hZ : (a0 ++ a1).size = a0.size + a1.size := ByteArray.size_append
  have ht := take_cells (a0.extract 0 (W a0)) (a0 ++ a1) (by omega) (fun p hp => dec_whole a0 a1 p (by omega)) (fun p hp => by rw [get_append a0 a1 p (by omega), get_head a0 (W a0) p hW (by omega)]) (a0.extract 0 (W a0)).size (a0 ++ a1).size 0 (by omega) (by omega)
  have hl := congrArg List.length ht
  rw [List.length_take] at hl
  have hle := Pl.cells_le (a0.extract 0 (W a0))
  unfold siglumlaw01_GlyphWhole.f glyph_Whole.f
  rw [awake1, if_pos (by omega), whole_eq, show a0.size + a1.size + 60 = (a0.size + a1.size + 20) + 40 from by omega, ref_whole a0 (by omega)]
  simp only [Option.bind_some, if_true]
  rw [if_neg (by omega), decide_eq_false (by omega), siglumlaw01_GlyphWhole.j0, if_neg (by decide), if_pos (by omega), if_pos (by omega), Int.toNat_natCast]
  unfold glyph_Cells.f
  rw [if_pos (show (a0.extract 0 (W a0)).size ≤ 4294967296 by omega), if_pos (show (a0 ++ a1).size ≤ 4294967296 by omega)]
  simp only [Option.bind_some]
  rw [if_pos (by omega), if_pos (by omega), if_pos (by omega), if_pos (by omega), Int.toNat_natCast, ht, same_eq _ (by omega) _ (by omega)]
  rfl
end Go.Proofs.YtfcobfjjcocggaaDoor.Pure
