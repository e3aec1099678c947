/-
  Every run of cells of one kind: kind.Run and the document's Run answer alike.
-/
import Derived.Test.YtfcobfjjcocggaaDoorQFacts
import Derived.Test.YtfcobfjjcocggaaDoorQKind
import Derived.Test.YtfcobfjjcocggaaDoorQx15
namespace Go.Proofs.YtfcobfjjcocggaaDoor.Pure
open Go.RowKit Go.Proofs.YtfcobfjjcocggaaDoor.Q Go.Proofs.YtfcobfjjcocggaaDoorW.PrintWords Go.Proofs.YtfcobfjjcocggaaDoorW.PrintLast

/-- A cell's kind. -/
def kc (c : S30) : Int := if c.f3 = true then 1 else kindOf' c.f2
  where kindOf' := Pl.kindOf
theorem cell_kc (k : Nat) (c : S30) (h : 8 ≤ k) : kind_Cell.f k c.f0 c.f1 c.f2 c.f3 c.f4 = some (kc c) := Pl.cell_ge k _ _ _ _ _ h
theorem ref_kc (k : Nat) (c : S30) (h : 16 ≤ k) : siglumref02_Cell.f k c.f0 c.f1 c.f2 c.f3 c.f4 = some (kc c) := Pl.refcell_ge k _ _ _ _ _ h
def run (t : Int) : List S30 → Nat
  | [] => 0
  | c :: l => if kc c = t then run t l + 1 else 0
theorem run_le (t : Int) : ∀ l, run t l ≤ l.length
  | [] => Nat.le_refl _
  | c :: l => by have := run_le t l; unfold run; split <;> simp <;> omega
theorem kRun_eq (t : Int) : ∀ l n, kRun t l n = some (n + (run t l : Int))
  | [], n => by simp [kRun, run]
  | c :: l, n => by
    unfold kRun run
    rw [cell_kc 16 c (by omega), Option.bind_some]
    by_cases h : kc c = t
    · rw [if_pos h, if_pos h, kRun_eq t l]; congr 1; omega
    · rw [if_neg h, if_neg h]; simp
/-- kind.Run. -/
theorem run_some (s : ByteArray) (hs : s.size ≤ 4294967296) (i : Nat) (h : i < (gCells s s.size 0).length) : kind_Run.f s (i : Int) = some ((run (kc ((gCells s s.size 0)[i])) ((gCells s s.size 0).drop i) : Int), 0) := by
  unfold kind_Run.f glyph_Cells.f
  rw [if_pos hs, Option.bind_some, if_neg (by omega), if_neg (by omega), Pl.get_rd _ i h, cell_kc 16 _ (by omega), Option.bind_some, Int.toNat_natCast, kRun_eq, Option.bind_some]
  simp
theorem run_none (s : ByteArray) (hs : s.size ≤ 4294967296) (a : Int) (h : a < 0 ∨ ((gCells s s.size 0).length : Int) ≤ a) : kind_Run.f s a = some (0, 2) := by
  unfold kind_Run.f glyph_Cells.f
  rw [if_pos hs, Option.bind_some]
  by_cases h1 : a < 0
  · rw [if_pos h1]
  · rw [if_neg h1, if_pos (by omega)]
theorem drop_getElem {α : Type} (l : List α) (i : Nat) (h : i < l.length) : l.drop i = l[i] :: l.drop (i + 1) := List.drop_eq_getElem_cons h
theorem ref_loop (L : List S30) (hL : L.length ≤ 4294967296) (a : Nat) (ha : a < L.length) : ∀ (d j k : Nat), a + j + d = L.length → d + 17 < k →
    siglumref02_Run.l0 k (a : Int) L (j : Int) = some (((j + run (kc L[a]) (L.drop (a + j)) : Nat) : Int), 0)
  | 0, j, k, hd, hk => by
    obtain ⟨k, rfl⟩ : ∃ m, k = m + 1 := ⟨k - 1, by omega⟩
    rw [siglumref02_Run.l0, Pl.wrap_id _ (by omega) (by omega), if_neg (by omega), List.drop_of_length_le (by omega)]
    rfl
  | d + 1, j, k, hd, hk => by
    obtain ⟨k, rfl⟩ : ∃ m, k = m + 1 := ⟨k - 1, by omega⟩
    have hj : a + j < L.length := by omega
    have e : (a : Int) + (j : Int) = ((a + j : Nat) : Int) := by omega
    rw [siglumref02_Run.l0, Pl.wrap_id ((L.length : Int) - a) (by omega) (by omega), Pl.wrap_id ((a : Int) + j) (by omega) (by omega), Pl.wrap_id ((j : Int) + 1) (by omega) (by omega), if_pos (by omega), if_pos (by omega), if_pos (by omega), e, Pl.get_rd L (a + j) hj, Pl.get_rd L a ha, ref_kc k _ (by omega), ref_kc k _ (by omega), drop_getElem L (a + j) hj]
    simp only [Option.bind_some]
    rw [if_pos (by omega), if_pos (by omega)]
    unfold run
    by_cases h : kc L[a + j] = kc L[a]
    · have ih := ref_loop L hL a ha d (j + 1) k (by omega) (by omega)
      have e2 : ((j + 1 : Nat) : Int) = (j : Int) + 1 := by omega
      rw [e2] at ih
      rw [if_pos h, if_pos h, ih, show a + (j + 1) = a + j + 1 from by omega]
      congr 2
      omega
    · rw [if_neg h, if_neg h]
      simp

theorem KindRuns (a0 : ByteArray) (a1 : Int) (_ : a0.size ≤ maxLen) (_ : (Lit.int .i64 a1).wf = true) (hb : (a0.size + 1) + 1 ≤ 1048576) : ∃ k, siglumlaw02_KindRuns.f k a0 a1 = some true := by
  refine ⟨a0.size + 40, ?_⟩
  have hs : a0.size ≤ 4294967296 := by omega
  have hl := Pl.cells_le a0
  unfold siglumlaw02_KindRuns.f siglumref02_Run.f
  rw [Pl.awake_ge _ (by omega), Pl.cells_eq _ a0 hs (by omega)]
  simp only [Option.bind_some, if_true]
  by_cases h : a1 < 0 ∨ ((gCells a0 a0.size 0).length : Int) ≤ a1
  · rw [run_none a0 hs a1 h]
    have e : siglumref02_Run.j0 (a0.size + 40) a1 (gCells a0 a0.size 0) true = some (0, 2) := by rw [siglumref02_Run.j0, if_pos rfl]
    by_cases h1 : a1 < 0
    · rw [if_pos h1, e]; rfl
    · rw [if_neg h1, decide_eq_true (by omega), e]; rfl
  · obtain ⟨i, rfl⟩ : ∃ i : Nat, a1 = i := ⟨a1.toNat, by omega⟩
    have hi : i < (gCells a0 a0.size 0).length := by omega
    have := ref_loop (gCells a0 a0.size 0) (by omega) i hi ((gCells a0 a0.size 0).length - i) 0 (a0.size + 39) (by omega) (by omega)
    rw [run_some a0 hs i hi, if_neg (by omega), decide_eq_false (by omega), siglumref02_Run.j0, if_neg (by decide)]
    simp only [Int.natCast_zero, Nat.zero_add, Nat.add_zero] at this
    rw [this]
    simp
end Go.Proofs.YtfcobfjjcocggaaDoor.Pure
