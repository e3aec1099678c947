/-
  Plain facts on a text cut between two cells: the cells of a part are the cells of the whole; and on a text with a newline behind it.
-/
import Derived.Test.YtalogampkkjcdaaDoorFFacts
import Derived.Lib.MapLaws
import Derived.Test.YtalogampkkjcdaaDoorFx6
set_option linter.unusedSimpArgs false
set_option linter.unusedVariables false
namespace Go.Proofs.YtalogampkkjcdaaDoor.Pure
open Go.RowKit Go.Proofs.YtalogampkkjcdaaDoor.F Go.Proofs.YtalogampkkjcdaaDoorW.PrintWords Go.Proofs.YtalogampkkjcdaaDoorW.PrintLast

/-- n bytes that begin a rune and are not all of it. -/
def inc (n : Nat) (b0 b1 b2 : Int) : Prop := (n : Int) < Pl.want b0 ∧ (1 < n → Pl.sec b0 b1) ∧ (2 < n → 128 ≤ b2 ∧ b2 ≤ 191)
set_option maxHeartbeats 4000000 in
/-- More bytes behind change nothing, where what stands is no rune's beginning, or no more of it comes. -/
theorem dec_same (n n' b0 b1 b2 b3 c1 c2 c3 : Nat) (h1 : 1 ≤ n) (hn : n ≤ n') (k0 : b0 < 256) (k1 : b1 < 256) (k2 : b2 < 256) (k3 : b3 < 256) (l1 : c1 < 256) (l2 : c2 < 256) (l3 : c3 < 256) (e1 : 1 < n → b1 = c1) (e2 : 2 < n → b2 = c2) (e3 : 3 < n → b3 = c3)
    (h : ¬ inc n b0 b1 b2 ∨ (n = 1 ∧ (c1 < 128 ∨ 191 < c1)) ∨ (n = 2 ∧ (c2 < 128 ∨ 191 < c2)) ∨ (n = 3 ∧ (c3 < 128 ∨ 191 < c3))) :
    Lib.decodeN n b0 b1 b2 b3 = Lib.decodeN n' b0 c1 c2 c3 := by
  unfold inc Pl.want at h
  rw [Pl.sec_iff] at h
  by_cases a0 : b0 < 128
  · unfold Lib.decodeN
    rw [if_pos a0, if_pos a0]
  by_cases n4 : 4 ≤ n
  · obtain rfl := e1 (by omega)
    obtain rfl := e2 (by omega)
    obtain rfl := e3 (by omega)
    unfold Lib.decodeN
    simp only [show (1 < n) = True from eq_true (by omega), show (2 < n) = True from eq_true (by omega), show (3 < n) = True from eq_true (by omega), show (1 < n') = True from eq_true (by omega), show (2 < n') = True from eq_true (by omega), show (3 < n') = True from eq_true (by omega)]
  · have hd : n = 1 ∨ n = 2 ∨ n = 3 := by omega
    rcases hd with rfl | rfl | rfl
    · unfold Lib.decodeN
      rw [if_neg a0, if_neg a0, if_neg (by omega), if_neg (by omega), if_neg (by omega)]
      repeat' split
      all_goals first | rfl | (exfalso; repeat' split at h; all_goals omega)
    · obtain rfl := e1 (by omega)
      unfold Lib.decodeN
      rw [if_neg a0, if_neg a0]
      by_cases c : b0 / 32 = 6 ∧ (1 < 2 ∧ b1 / 64 = 2)
      · rw [if_pos c, if_pos (c := b0 / 32 = 6 ∧ (1 < n' ∧ b1 / 64 = 2)) ⟨c.1, by omega, c.2.2⟩]
      · rw [if_neg c, if_neg (by omega), if_neg (by omega), if_neg (by omega)]
        repeat' split
        all_goals first | rfl | (exfalso; repeat' split at h; all_goals omega)
    · obtain rfl := e1 (by omega)
      obtain rfl := e2 (by omega)
      unfold Lib.decodeN
      rw [if_neg a0, if_neg a0]
      by_cases c : b0 / 32 = 6 ∧ (1 < 3 ∧ b1 / 64 = 2)
      · rw [if_pos c, if_pos (c := b0 / 32 = 6 ∧ (1 < n' ∧ b1 / 64 = 2)) ⟨c.1, by omega, c.2.2⟩]
      · rw [if_neg c, if_neg (c := b0 / 32 = 6 ∧ (1 < n' ∧ b1 / 64 = 2)) (by omega)]
        by_cases d : b0 / 16 = 14 ∧ (1 < 3 ∧ b1 / 64 = 2) ∧ (2 < 3 ∧ b2 / 64 = 2)
        · rw [if_pos d, if_pos (c := b0 / 16 = 14 ∧ (1 < n' ∧ b1 / 64 = 2) ∧ (2 < n' ∧ b2 / 64 = 2)) ⟨d.1, ⟨by omega, d.2.1.2⟩, by omega, d.2.2.2⟩]
        · rw [if_neg d, if_neg (c := b0 / 16 = 14 ∧ (1 < n' ∧ b1 / 64 = 2) ∧ (2 < n' ∧ b2 / 64 = 2)) (by omega), if_neg (by omega)]
          repeat' split
          all_goals first | rfl | (exfalso; repeat' split at h; all_goals omega)
theorem get_append (s t : ByteArray) (i : Nat) (h : i < s.size) : (s ++ t).get! i = s.get! i := by
  rw [Utf.get_lt _ _ (by rw [ByteArray.size_append]; omega), Utf.get_lt _ _ h]
  exact ByteArray.getElem_append_left h
theorem get_head (s : ByteArray) (k i : Nat) (hk : k ≤ s.size) (h : i < k) : (s.extract 0 k).get! i = s.get! i := by
  have := Utf.get_extract s 0 k i hk (by omega)
  simpa using this
theorem cell_of (a b : ByteArray) (p : Nat) (ha : p < a.size) (hb : p < b.size) (hd : Utf8.decode a p = Utf8.decode b p) (hg : a.get! p = b.get! p) : gCell a p = gCell b p := by
  unfold gCell Utf.bad
  rw [hd, Pl.bt_nat a p ha, Pl.bt_nat b p hb, hg]
/-- Where the cell n behind p begins. -/
def gPos (s : ByteArray) : Nat → Nat → Nat
  | 0, p => p
  | n + 1, p => if p < s.size then gPos s n (p + (Utf8.decode s p).2) else p
/-- What has begun and is not all there is bad as it stands; with more behind it is bad, or longer. -/
theorem inc_bad (n n' b0 b1 b2 b3 c1 c2 c3 : Nat) (h1 : 1 ≤ n) (hn : n ≤ n') (k0 : b0 < 256) (l1 : c1 < 256) (l2 : c2 < 256) (l3 : c3 < 256) (e1 : 1 < n → b1 = c1) (e2 : 2 < n → b2 = c2) (h : inc n b0 b1 b2) (hw : (Lib.decodeN n' b0 c1 c2 c3).2 ≤ n) :
    Lib.decodeN n b0 b1 b2 b3 = Lib.decodeN n' b0 c1 c2 c3 := by
  unfold inc Pl.want at h
  rw [Pl.sec_iff] at h
  have hb : 194 ≤ b0 := by
    have := h.1
    repeat' split at this
    all_goals omega
  have hv := h.1
  have e : Lib.decodeN n' b0 c1 c2 c3 = (65533, 1) := by
    rcases Lib.decodeN_shape n' b0 c1 c2 c3 with ⟨q, e⟩ | ⟨q1, q2, q3, q4, e⟩ | ⟨q1, q2, q3, q4, q5, q6, e⟩ | ⟨q1, q2, q3, q4, q5, q6, q7, e⟩ | e
    · omega
    · rw [e] at hw
      dsimp only at hw
      exfalso
      repeat' split at hv
      all_goals omega
    · rw [e] at hw
      dsimp only at hw
      exfalso
      repeat' split at hv
      all_goals omega
    · rw [e] at hw
      dsimp only at hw
      exfalso
      repeat' split at hv
      all_goals omega
    · exact e
  rw [e]
  have := h.1
  unfold Lib.decodeN
  repeat' split
  all_goals first | rfl | (exfalso; repeat' split at this; all_goals omega)
theorem dec_cut (s : ByteArray) (p q : Nat) (hp : p ≤ s.size) (hq : q < p) (hw : q + (Utf8.decode s q).2 ≤ p) : Utf8.decode (s.extract 0 p) q = Utf8.decode s q := by
  have hsz : (s.extract 0 p).size = p := by rw [ByteArray.size_extract]; omega
  have ga : ∀ i, i < p → (s.extract 0 p).get! i = s.get! i := fun i hi => get_head s p i hp hi
  rw [Lib.decode_at] at hw
  rw [Lib.decode_at, Lib.decode_at, hsz, ga q hq]
  by_cases hi : inc (p - q) (s.get! q).toNat ((s.extract 0 p).get! (q + 1)).toNat ((s.extract 0 p).get! (q + 2)).toNat
  · exact inc_bad _ _ _ _ _ _ _ _ _ (by omega) (by omega) (Utf.byte_lt _ _) (Utf.byte_lt _ _) (Utf.byte_lt _ _) (Utf.byte_lt _ _) (fun h => by rw [ga _ (by omega)]) (fun h => by rw [ga _ (by omega)]) hi (by omega)
  · exact dec_same _ _ _ _ _ _ _ _ _ (by omega) (by omega) (Utf.byte_lt _ _) (Utf.byte_lt _ _) (Utf.byte_lt _ _) (Utf.byte_lt _ _) (Utf.byte_lt _ _) (Utf.byte_lt _ _) (Utf.byte_lt _ _) (fun h => by rw [ga _ (by omega)]) (fun h => by rw [ga _ (by omega)]) (fun h => by rw [ga _ (by omega)]) (.inl hi)
theorem pos_range (s : ByteArray) : ∀ n i, i ≤ s.size → i ≤ gPos s n i ∧ gPos s n i ≤ s.size
  | 0, i, h => ⟨Nat.le_refl _, h⟩
  | n + 1, i, h => by
    unfold gPos
    split
    · have hw := Utf.width_le s i (by omega)
      have := pos_range s n (i + (Utf8.decode s i).2) hw
      omega
    · exact ⟨Nat.le_refl _, h⟩
theorem head_cells (s : ByteArray) (p : Nat) (hp : p ≤ s.size) : ∀ n f i, s.size ≤ i + f → i ≤ s.size → gPos s n i = p → gCells (s.extract 0 p) f i = (gCells s f i).take n
  | 0, f, i, hf, hi, he => by
    have : i = p := he
    rw [gCells_end _ f i (by rw [ByteArray.size_extract]; omega), List.take_zero]
  | n + 1, f, i, hf, hi, he => by
    unfold gPos at he
    by_cases h : i < s.size
    · rw [if_pos h] at he
      obtain ⟨g, rfl⟩ : ∃ g, f = g + 1 := ⟨f - 1, by omega⟩
      have hw1 := Utf.width_pos s i h
      have hw := Utf.width_le s i h
      have hr := pos_range s n (i + (Utf8.decode s i).2) hw
      rw [he] at hr
      have hd := dec_cut s p i hp (by omega) hr.1
      have hsz : (s.extract 0 p).size = p := by rw [ByteArray.size_extract]; omega
      rw [gCells_step _ g i (by omega), gCells_step s g i h, hd, List.take_succ_cons, cell_of _ s i (by omega) h hd (get_head s p i hp (by omega)), head_cells s p hp n g _ (by omega) hw he]
    · rw [if_neg h] at he
      rw [gCells_end s f i h, gCells_end _ f i (by rw [ByteArray.size_extract]; omega), List.take_nil]
theorem tail_drop (s : ByteArray) : ∀ n f i, s.size ≤ i + f → i ≤ s.size → gCells s f (gPos s n i) = (gCells s f i).drop n
  | 0, f, i, _, _ => by rw [List.drop_zero]; rfl
  | n + 1, f, i, hf, hi => by
    unfold gPos
    by_cases h : i < s.size
    · obtain ⟨g, rfl⟩ : ∃ g, f = g + 1 := ⟨f - 1, by omega⟩
      have hw1 := Utf.width_pos s i h
      have hw := Utf.width_le s i h
      have hr := pos_range s n (i + (Utf8.decode s i).2) hw
      rw [if_pos h, gCells_step s g i h, List.drop_succ_cons, ← tail_drop s n g _ (by omega) hw]
      exact gCells_more s _ _ _ (by omega) (by omega)
    · rw [if_neg h, gCells_end s f i h, List.drop_nil]
theorem tail_cells (s : ByteArray) (p : Nat) (hp : p ≤ s.size) : ∀ f q, (gCells (s.extract p s.size) f q).map (fun c => ({ c with f0 := c.f0 + (p : Int) } : S75)) = gCells s f (p + q)
  | 0, q => rfl
  | f + 1, q => by
    have hsz : (s.extract p s.size).size = s.size - p := by rw [ByteArray.size_extract]; omega
    by_cases h : q < s.size - p
    · have hd := Utf.decode_tail s p q
      rw [gCells_step _ f q (by omega), gCells_step s f (p + q) (by omega), List.map_cons, tail_cells s p hp f, hd, Nat.add_assoc]
      congr 1
      have hb : Utf.bad (s.extract p s.size) q = Utf.bad s (p + q) := by unfold Utf.bad; rw [hd]
      have hg := Utf.get_tail s p q
      unfold gCell
      rw [hb, hd, Pl.bt_nat _ q (by omega), Pl.bt_nat s (p + q) (by omega), hg]
      simp
      omega
    · rw [gCells_end _ _ q (by omega), gCells_end s _ (p + q) (by omega)]
      rfl
/-- The cells of both parts. -/
theorem halves (s : ByteArray) (n : Nat) (hn : n ≤ (gCells s s.size 0).length) :
    ∃ p, gPos s n 0 = p ∧ p ≤ s.size ∧ gCells (s.extract 0 p) (s.extract 0 p).size 0 = (gCells s s.size 0).take n ∧
      (gCells (s.extract p s.size) (s.extract p s.size).size 0).map (fun c => ({ c with f0 := c.f0 + (p : Int) } : S75)) = (gCells s s.size 0).drop n := by
  have hr := pos_range s n 0 (by omega)
  have h1 := head_cells s (gPos s n 0) hr.2 n s.size 0 (by omega) (by omega) rfl
  have h2 := tail_drop s n s.size 0 (by omega) (by omega)
  have h3 := tail_cells s (gPos s n 0) hr.2 s.size 0
  refine ⟨gPos s n 0, rfl, hr.2, ?_, ?_⟩
  · rw [← h1]
    exact gCells_more _ _ _ _ (by omega) (by rw [ByteArray.size_extract]; omega)
  · rw [← h2, ← Nat.add_zero (gPos s n 0), ← h3, Nat.add_zero]
    congr 1
    exact gCells_more _ _ _ _ (by omega) (by rw [ByteArray.size_extract]; omega)
theorem pos_cell (s : ByteArray) : ∀ n f i, s.size ≤ i + f → i ≤ s.size → (∀ h : n < (gCells s f i).length, ((gCells s f i)[n]).f0 = (gPos s n i : Int)) ∧ (n = (gCells s f i).length → gPos s n i = s.size)
  | n, 0, i, hf, hi => by
    have e : gCells s 0 i = [] := rfl
    refine ⟨(fun h => absurd (h : n < 0) (Nat.not_lt_zero n)), (fun h => ?_)⟩
    rw [e] at h
    subst h
    show i = s.size
    omega
  | n, f + 1, i, hf, hi => by
    by_cases hlt : i < s.size
    · have e := gCells_step s f i hlt
      have hw1 := Utf.width_pos s i hlt
      have hw := Utf.width_le s i hlt
      simp only [e]
      cases n with
      | zero => exact ⟨fun _ => rfl, fun h => by simp at h⟩
      | succ n =>
        obtain ⟨h1, h2⟩ := pos_cell s n f (i + (Utf8.decode s i).2) (by omega) hw
        unfold gPos
        rw [if_pos hlt]
        exact ⟨fun h => by simpa using h1 (by simpa using h), fun h => h2 (by simpa using h)⟩
    · have e := gCells_end s (f + 1) i hlt
      simp only [e]
      refine ⟨(fun h => absurd (h : n < 0) (Nat.not_lt_zero n)), (fun h => ?_)⟩
      have h0 : n = 0 := h
      subst h0
      show i = s.size
      omega
theorem cellAt_pos (s : ByteArray) (n : Nat) (h : n ≤ (gCells s s.size 0).length) : cellAt s (gCells s s.size 0) n = (gPos s n 0 : Int) := by
  obtain ⟨h1, h2⟩ := pos_cell s n s.size 0 (by omega) (by omega)
  unfold cellAt
  by_cases hn : n < (gCells s s.size 0).length
  · rw [if_pos hn, Pl.get_rd _ n hn]
    exact h1 hn
  · rw [if_neg hn, h2 (by omega)]
/-- The cells of a part. -/
theorem sub_cells (s : ByteArray) (i n : Nat) (hi : i ≤ n) (hn : n ≤ (gCells s s.size 0).length) :
    gPos s i 0 ≤ gPos s n 0 ∧ gPos s n 0 ≤ s.size ∧ (gCells (s.extract (gPos s i 0) (gPos s n 0)) (s.extract (gPos s i 0) (gPos s n 0)).size 0).map (fun c => ({ c with f0 := c.f0 + ((gPos s i 0 : Nat) : Int) } : S75)) = ((gCells s s.size 0).take n).drop i := by
  obtain ⟨q, hq, hqs, hc, _⟩ := halves s n hn
  rw [hq]
  have hsz : (s.extract 0 q).size = q := by rw [ByteArray.size_extract]; omega
  have hlen : (gCells (s.extract 0 q) (s.extract 0 q).size 0).length = n := by rw [hc, List.length_take]; omega
  obtain ⟨p, hp, hps, _, hd⟩ := halves (s.extract 0 q) i (by omega)
  have hpp : p = gPos s i 0 := by
    obtain ⟨a1, a2⟩ := pos_cell (s.extract 0 q) i (s.extract 0 q).size 0 (by omega) (by omega)
    obtain ⟨b1, b2⟩ := pos_cell s i s.size 0 (by omega) (by omega)
    by_cases h : i < n
    · have h1 := a1 (by omega)
      have h2 := b1 (by omega)
      have h3 : (gCells (s.extract 0 q) (s.extract 0 q).size 0)[i]'(by omega) = (gCells s s.size 0)[i]'(by omega) := by
        simp only [hc, List.getElem_take]
      rw [h3, h2] at h1
      omega
    · have hin : i = n := by omega
      subst hin
      rw [hq, ← hp, a2 hlen.symm, hsz]
  rw [hsz] at hps hd
  rw [hpp] at hd hps
  have he : (s.extract 0 q).extract (gPos s i 0) q = s.extract (gPos s i 0) q := by
    rw [ByteArray.extract_extract]
    simp
  rw [he] at hd
  rw [hsz] at hc
  refine ⟨hps, hqs, ?_⟩
  rw [← hc, ← hd]
end Go.Proofs.YtalogampkkjcdaaDoor.Pure
