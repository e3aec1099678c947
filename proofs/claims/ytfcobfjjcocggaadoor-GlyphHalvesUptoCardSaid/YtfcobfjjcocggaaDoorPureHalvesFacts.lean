/-
  Plain facts on a text cut between two cells: the cells of both parts are the cells of the whole.
-/
import Derived.Test.YtfcobfjjcocggaaDoorPureGlyphWhole
import Derived.Lib.MapLaws
import Derived.Test.YtfcobfjjcocggaaDoorVx16
set_option linter.unusedSimpArgs false
set_option linter.unusedVariables false
namespace Go.Proofs.YtfcobfjjcocggaaDoor.Pure
open Go.RowKit Go.Proofs.YtfcobfjjcocggaaDoor.V Go.Proofs.YtfcobfjjcocggaaDoorW.PrintWords Go.Proofs.YtfcobfjjcocggaaDoorW.PrintLast

/-- What has begun and is not all there is bad as it stands; with more behind it is bad, or longer. -/
theorem inc_bad (n n' b0 b1 b2 b3 c1 c2 c3 : Nat) (h1 : 1 ≤ n) (hn : n ≤ n') (k0 : b0 < 256) (l1 : c1 < 256) (l2 : c2 < 256) (l3 : c3 < 256) (e1 : 1 < n → b1 = c1) (e2 : 2 < n → b2 = c2) (h : inc n b0 b1 b2) (hw : (Lib.decodeN n' b0 c1 c2 c3).2 ≤ n) :
    Lib.decodeN n b0 b1 b2 b3 = Lib.decodeN n' b0 c1 c2 c3 := by
  unfold inc Pl.want at h
  rw [Pl.sec_iff] at h
  have hb : 194 ≤ b0 := by
    have := h.1
    repeat' split at this
    all_goals omega
  have hv := h.1
  have e : Lib.decodeN n' b0 c1 c2 c3 = (65533, 1) := by
    rcases Lib.decodeN_shape n' b0 c1 c2 c3 with ⟨q, e⟩ | ⟨q1, q2, q3, q4, e⟩ | ⟨q1, q2, q3, q4, q5, q6, e⟩ | ⟨q1, q2, q3, q4, q5, q6, q7, e⟩ | e
    · omega
    · rw [e] at hw
      dsimp only at hw
      exfalso
      repeat' split at hv
      all_goals omega
    · rw [e] at hw
      dsimp only at hw
      exfalso
      repeat' split at hv
      all_goals omega
    · rw [e] at hw
      dsimp only at hw
      exfalso
      repeat' split at hv
      all_goals omega
    · exact e
  rw [e]
  have := h.1
  unfold Lib.decodeN
  repeat' split
  all_goals first | rfl | (exfalso; repeat' split at this; all_goals omega)
theorem dec_cut (s : ByteArray) (p q : Nat) (hp : p ≤ s.size) (hq : q < p) (hw : q + (Utf8.decode s q).2 ≤ p) : Utf8.decode (s.extract 0 p) q = Utf8.decode s q := by
  have hsz : (s.extract 0 p).size = p := by rw [ByteArray.size_extract]; omega
  have ga : ∀ i, i < p → (s.extract 0 p).get! i = s.get! i := fun i hi => get_head s p i hp hi
  rw [Lib.decode_at] at hw
  rw [Lib.decode_at, Lib.decode_at, hsz, ga q hq]
  by_cases hi : inc (p - q) (s.get! q).toNat ((s.extract 0 p).get! (q + 1)).toNat ((s.extract 0 p).get! (q + 2)).toNat
  · exact inc_bad _ _ _ _ _ _ _ _ _ (by omega) (by omega) (Utf.byte_lt _ _) (Utf.byte_lt _ _) (Utf.byte_lt _ _) (Utf.byte_lt _ _) (fun h => by rw [ga _ (by omega)]) (fun h => by rw [ga _ (by omega)]) hi (by omega)
  · exact dec_same _ _ _ _ _ _ _ _ _ (by omega) (by omega) (Utf.byte_lt _ _) (Utf.byte_lt _ _) (Utf.byte_lt _ _) (Utf.byte_lt _ _) (Utf.byte_lt _ _) (Utf.byte_lt _ _) (Utf.byte_lt _ _) (fun h => by rw [ga _ (by omega)]) (fun h => by rw [ga _ (by omega)]) (fun h => by rw [ga _ (by omega)]) (.inl hi)
theorem pos_range (s : ByteArray) : ∀ n i, i ≤ s.size → i ≤ gPos s n i ∧ gPos s n i ≤ s.size
  | 0, i, h => ⟨Nat.le_refl _, h⟩
  | n + 1, i, h => by
    unfold gPos
    split
    · have hw := Utf.width_le s i (by omega)
      have := pos_range s n (i + (Utf8.decode s i).2) hw
      omega
    · exact ⟨Nat.le_refl _, h⟩
theorem head_cells (s : ByteArray) (p : Nat) (hp : p ≤ s.size) : ∀ n f i, s.size ≤ i + f → i ≤ s.size → gPos s n i = p → gCells (s.extract 0 p) f i = (gCells s f i).take n
  | 0, f, i, hf, hi, he => by
    have : i = p := he
    rw [gCells_end _ f i (by rw [ByteArray.size_extract]; omega), List.take_zero]
  | n + 1, f, i, hf, hi, he => by
    unfold gPos at he
    by_cases h : i < s.size
    · rw [if_pos h] at he
      obtain ⟨g, rfl⟩ : ∃ g, f = g + 1 := ⟨f - 1, by omega⟩
      have hw1 := Utf.width_pos s i h
      have hw := Utf.width_le s i h
      have hr := pos_range s n (i + (Utf8.decode s i).2) hw
      rw [he] at hr
      have hd := dec_cut s p i hp (by omega) hr.1
      have hsz : (s.extract 0 p).size = p := by rw [ByteArray.size_extract]; omega
      rw [gCells_step _ g i (by omega), gCells_step s g i h, hd, List.take_succ_cons, cell_of _ s i (by omega) h hd (get_head s p i hp (by omega)), head_cells s p hp n g _ (by omega) hw he]
    · rw [if_neg h] at he
      rw [gCells_end s f i h, gCells_end _ f i (by rw [ByteArray.size_extract]; omega), List.take_nil]
theorem tail_drop (s : ByteArray) : ∀ n f i, s.size ≤ i + f → i ≤ s.size → gCells s f (gPos s n i) = (gCells s f i).drop n
  | 0, f, i, _, _ => by rw [List.drop_zero]; rfl
  | n + 1, f, i, hf, hi => by
    unfold gPos
    by_cases h : i < s.size
    · obtain ⟨g, rfl⟩ : ∃ g, f = g + 1 := ⟨f - 1, by omega⟩
      have hw1 := Utf.width_pos s i h
      have hw := Utf.width_le s i h
      have hr := pos_range s n (i + (Utf8.decode s i).2) hw
      rw [if_pos h, gCells_step s g i h, List.drop_succ_cons, ← tail_drop s n g _ (by omega) hw]
      exact gCells_more s _ _ _ (by omega) (by omega)
    · rw [if_neg h, gCells_end s f i h, List.drop_nil]
theorem tail_cells (s : ByteArray) (p : Nat) (hp : p ≤ s.size) : ∀ f q, (gCells (s.extract p s.size) f q).map (fun c => ({ c with f0 := c.f0 + (p : Int) } : S30)) = gCells s f (p + q)
  | 0, q => rfl
  | f + 1, q => by
    have hsz : (s.extract p s.size).size = s.size - p := by rw [ByteArray.size_extract]; omega
    by_cases h : q < s.size - p
    · have hd := Utf.decode_tail s p q
      rw [gCells_step _ f q (by omega), gCells_step s f (p + q) (by omega), List.map_cons, tail_cells s p hp f, hd, Nat.add_assoc]
      congr 1
      have hb : Utf.bad (s.extract p s.size) q = Utf.bad s (p + q) := by unfold Utf.bad; rw [hd]
      have hg := Utf.get_tail s p q
      unfold gCell
      rw [hb, hd, Pl.bt_nat _ q (by omega), Pl.bt_nat s (p + q) (by omega), hg]
      simp
      omega
    · rw [gCells_end _ _ q (by omega), gCells_end s _ (p + q) (by omega)]
      rfl
/-- The cells of both parts. -/
theorem halves (s : ByteArray) (n : Nat) (hn : n ≤ (gCells s s.size 0).length) :
    ∃ p, gPos s n 0 = p ∧ p ≤ s.size ∧ gCells (s.extract 0 p) (s.extract 0 p).size 0 = (gCells s s.size 0).take n ∧
      (gCells (s.extract p s.size) (s.extract p s.size).size 0).map (fun c => ({ c with f0 := c.f0 + (p : Int) } : S30)) = (gCells s s.size 0).drop n := by
  have hr := pos_range s n 0 (by omega)
  have h1 := head_cells s (gPos s n 0) hr.2 n s.size 0 (by omega) (by omega) rfl
  have h2 := tail_drop s n s.size 0 (by omega) (by omega)
  have h3 := tail_cells s (gPos s n 0) hr.2 s.size 0
  refine ⟨gPos s n 0, rfl, hr.2, ?_, ?_⟩
  · rw [← h1]
    exact gCells_more _ _ _ _ (by omega) (by rw [ByteArray.size_extract]; omega)
  · rw [← h2, ← Nat.add_zero (gPos s n 0), ← h3, Nat.add_zero]
    congr 1
    exact gCells_more _ _ _ _ (by omega) (by rw [ByteArray.size_extract]; omega)
end Go.Proofs.YtfcobfjjcocggaaDoor.Pure
