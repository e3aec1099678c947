/-
  The runs of a text are all its cells, and neighbours are unlike.
-/
import Derived.Test.YtfcobfjjcocggaaDoorPureKindRuns
import Derived.Test.YtfcobfjjcocggaaDoorQx11
namespace Go.Proofs.YtfcobfjjcocggaaDoor.Pure
open Go.RowKit Go.Proofs.YtfcobfjjcocggaaDoor.Q Go.Proofs.YtfcobfjjcocggaaDoorW.PrintWords Go.Proofs.YtfcobfjjcocggaaDoorW.PrintLast

theorem run_get (t : Int) : ∀ (l : List S30) (j : Nat) (h : j < l.length), j < run t l → kc l[j] = t
  | [], j, h, _ => by simp at h
  | c :: l, 0, h, hr => by
    unfold run at hr
    split at hr
    · assumption
    · omega
  | c :: l, j + 1, h, hr => by
    unfold run at hr
    split at hr
    · exact run_get t l j (by simpa using h) (by omega)
    · omega
theorem run_stop (t : Int) : ∀ (l : List S30) (h : run t l < l.length), kc l[run t l] ≠ t
  | [], h => by simp [run] at h
  | c :: l, h => by
    by_cases hc : kc c = t
    · have e : run t (c :: l) = run t l + 1 := by rw [run, if_pos hc]
      have := run_stop t l (by rw [e] at h; simpa using h)
      simp only [e]
      simpa using this
    · have e : run t (c :: l) = 0 := by rw [run, if_neg hc]
      simp only [e]
      simpa using hc
theorem parts_end (L : List S30) (s : ByteArray) (hs : s.size ≤ 4294967296) (hL : L = gCells s s.size 0) (k : Nat) : siglumlaw02_KindParts.l0 (k + 1) s L (L.length : Int) = some true := by
  rw [siglumlaw02_KindParts.l0, if_neg (by omega), run_none s hs _ (by rw [hL]; omega)]
  rfl
/-- The cells of a run are alike. -/
theorem parts_in (L : List S30) (s : ByteArray) (hl : L.length ≤ 4294967296) (a n : Nat) (ha : a < L.length) (hn : n = run (kc L[a]) (L.drop a)) : ∀ (d i k : Nat), i + d = n → 9 ≤ k →
    siglumlaw02_KindParts.l1 (k + d) s L (a : Int) (n : Int) (i : Int) = siglumlaw02_KindParts.l1 k s L (a : Int) (n : Int) (n : Int)
  | 0, i, k, hd, _ => by obtain rfl : i = n := by omega
                         rfl
  | d + 1, i, k, hd, hk => by
    have hle := run_le (kc L[a]) (L.drop a)
    rw [List.length_drop] at hle
    have hi : a + i < L.length := by omega
    have e : (a : Int) + (i : Int) = ((a + i : Nat) : Int) := by omega
    have e2 : ((i + 1 : Nat) : Int) = (i : Int) + 1 := by omega
    have ih := parts_in L s hl a n ha hn d (i + 1) k (by omega) hk
    have g := run_get (kc L[a]) (L.drop a) i (by rw [List.length_drop]; omega) (by omega)
    rw [List.getElem_drop] at g
    rw [show k + (d + 1) = k + d + 1 from by omega, siglumlaw02_KindParts.l1, if_pos (by omega), Pl.wrap_id _ (by omega) (by omega), if_pos (by omega), if_pos (by omega), e, Pl.get_rd L (a + i) hi, Pl.get_rd L a ha, cell_kc _ _ (by omega), cell_kc _ _ (by omega)]
    simp only [Option.bind_some]
    rw [if_pos (by omega), if_pos (by omega), if_pos g, Pl.wrap_id _ (by omega) (by omega), ← e2, ih]
theorem parts_loop (L : List S30) (s : ByteArray) (hs : s.size ≤ 4294967296) (hL : L = gCells s s.size 0) (hl : L.length ≤ 4294967296) : ∀ (d a k : Nat), a + d = L.length → 4 * d + 20 ≤ k →
    siglumlaw02_KindParts.l0 k s L (a : Int) = some true := by
  intro d
  induction d using Nat.strongRecOn with
  | _ d ih =>
    intro a k hd hk
    obtain ⟨k, rfl⟩ : ∃ m, k = m + 1 := ⟨k - 1, by omega⟩
    by_cases h : a < L.length
    · obtain ⟨n, hn⟩ : ∃ n, n = run (kc L[a]) (L.drop a) := ⟨_, rfl⟩
      have hle := run_le (kc L[a]) (L.drop a)
      rw [List.length_drop, ← hn] at hle
      have h1 : 1 ≤ n := by rw [hn, drop_getElem L a h, run, if_pos rfl]; omega
      have hrun : kind_Run.f s (a : Int) = some ((n : Int), 0) := by
        rw [run_some s hs a (by rw [← hL]; exact h), hn]
        simp only [hL]
      obtain ⟨m, rfl⟩ : ∃ m, k = (m + n) + 1 := ⟨k - 1 - n, by omega⟩
      obtain ⟨m, rfl⟩ : ∃ q, m = q + 1 := ⟨m - 1, by omega⟩
      have hin := parts_in L s hl a n h hn n 0 (m + 1) (by omega) (by omega)
      rw [siglumlaw02_KindParts.l0, if_pos (by omega), hrun]
      simp only [Option.bind_some]
      rw [if_pos trivial, if_neg (by omega), Pl.wrap_id _ (by omega) (by omega), decide_eq_false (by omega), siglumlaw02_KindParts.j1, if_neg (by decide)]
      simp only [Int.natCast_zero] at hin
      rw [hin, siglumlaw02_KindParts.l1, if_neg (by omega)]
      have e : (a : Int) + (n : Int) = ((a + n : Nat) : Int) := by omega
      rw [Pl.wrap_id _ (by omega) (by omega), e]
      have ih2 := ih (d - n) (by omega) (a + n) m (by omega) (by omega)
      by_cases h2 : a + n < L.length
      · have e3 : ((a + n : Nat) : Int) - 1 = ((a + (n - 1) : Nat) : Int) := by omega
        have h3 : a + (n - 1) < L.length := by omega
        have g := run_get (kc L[a]) (L.drop a) (n - 1) (by rw [List.length_drop]; omega) (by omega)
        rw [List.getElem_drop] at g
        have g2 := run_stop (kc L[a]) (L.drop a) (by rw [List.length_drop, ← hn]; omega)
        rw [List.getElem_drop] at g2
        have g3 : kc L[a + n] ≠ kc L[a] := by
          have : ∀ q (hq : a + q < L.length), q = n → kc L[a + q] ≠ kc L[a] → kc L[a + n] ≠ kc L[a] := by intro q hq e; subst e; exact id
          exact this _ _ hn.symm g2
        rw [if_pos (by omega), if_pos (by omega), Pl.get_rd L (a + n) h2, cell_kc _ _ (by omega)]
        simp only [Option.bind_some]
        rw [Pl.wrap_id _ (by omega) (by omega), e3, if_pos (by omega), if_pos (by omega), Pl.get_rd L (a + (n - 1)) h3, cell_kc _ _ (by omega)]
        simp only [Option.bind_some]
        rw [if_neg (by rw [g]; exact g3), ih2]
      · rw [if_neg (by omega), ih2]
    · obtain rfl : a = L.length := by omega
      exact parts_end L s hs hL k

theorem KindParts (a0 : ByteArray) (_ : a0.size ≤ maxLen) (hb : (a0.size + 1) ≤ 1048576) : ∃ k, siglumlaw02_KindParts.f k a0 = some true := by
  refine ⟨4 * a0.size + 40, ?_⟩
  have hs : a0.size ≤ 4294967296 := by omega
  have hl := Pl.cells_le a0
  unfold siglumlaw02_KindParts.f glyph_Cells.f
  rw [Pl.awake_ge _ (by omega), Pl.cells_eq _ a0 hs (by omega), if_pos hs]
  simp only [Option.bind_some, if_true]
  split
  · rfl
  · have := parts_loop (gCells a0 a0.size 0) a0 hs rfl (by omega) (gCells a0 a0.size 0).length 0 (4 * a0.size + 40) (by omega) (by omega)
    simpa using this
end Go.Proofs.YtfcobfjjcocggaaDoor.Pure
