/-
  What words cost, in plain numbers: a text folded; which are too long; what two words cost.
-/
import Derived.Test.YtcpbalnbgmjhjaaDoorPureDistOf
import Derived.Test.YtcpbalnbgmjhjaaDoorEx9
import Derived.Test.YtcpbalnbgmjhjaaDoorEx10
import Derived.Test.YtcpbalnbgmjhjaaDoorEx1
import Derived.Test.YtcpbalnbgmjhjaaDoorEx11
import Derived.Test.YtcpbalnbgmjhjaaDoorEx13
namespace Go.Proofs.YtcpbalnbgmjhjaaDoor.Pure
open Go.RowKit Go.Proofs.YtcpbalnbgmjhjaaDoor.E Go.Proofs.YtcpbalnbgmjhjaaDoorW.PrintWords Go.Proofs.YtcpbalnbgmjhjaaDoorW.PrintLast Go.Proofs.YtcpbalnbgmjhjaaDoorW.PrintMore
/-- A text folded. -/
def fd (s : ByteArray) (o : Int) : ByteArray := ⟨(foldT o (gCells s s.size 0)).toArray⟩
theorem fd_size (s : ByteArray) (o : Int) : (fd s o).size ≤ 12 * s.size := by
  have h1 := foldT_len o (gCells s s.size 0)
  have h2 := Pl.cells_le s
  show (foldT o (gCells s s.size 0)).toArray.size ≤ _
  simp
  omega
theorem fold_eq (s : ByteArray) (o : Int) (hs : s.size ≤ 1048576) (ho : 0 ≤ o ∧ o ≤ 31) : fold_Text.f s o = some (fd s o, 0) := by
  have h2 := Pl.cells_le s
  unfold fold_Text.f glyph_Cells.f
  rw [if_pos ho, if_pos (by omega), Option.bind_some, if_pos ⟨fun c hc => Pl.cells_byte s s.size 0 c hc, by omega⟩]
  rfl
theorem count_eq (t : ByteArray) (ht : t.size ≤ 4294967296) : glyph_Count.f t = some (((cb t).length : Nat) : Int) := by
  unfold glyph_Count.f
  rw [if_pos ht, cb_len, Pl.cells_length]
def longW (s : ByteArray) (o : Int) : Bool := decide (256 < (cb (fd s o)).length)
def wordOf (o : Int) (s : ByteArray) : S73 := ⟨s, fd s o⟩
theorem rdW_nat (l : List S73) (i : Nat) (h : i < l.length) : rd_T73 l (i : Int) = l[i] := by
  unfold rd_T73
  rw [Int.toNat_natCast, List.getD_eq_getElem?_getD, List.getElem?_eq_getElem h]
  rfl
theorem folded_loop (L : List ByteArray) (hL : ∀ s ∈ L, s.size ≤ 1048576) (hl : L.length ≤ 1024) (g n f o : Int) (ho : 0 ≤ o ∧ o ≤ 31) : ∀ (d i k : Nat) (acc : List S73), i + d = L.length → acc.length = i → d + 1 ≤ k →
    cost_folded.l0 k acc L (L.length : Int) (i : Int) g n f o = some (if (L.drop i).any (fun s => longW s o) = true then ([], 1) else (acc ++ (L.drop i).map (wordOf o), 0))
  | 0, i, k, acc, hd, ha, hk => by
    obtain ⟨k, rfl⟩ : ∃ m, k = m + 1 := ⟨k - 1, by omega⟩
    rw [cost_folded.l0, if_neg (by omega), List.drop_of_length_le (by omega)]
    simp
  | d + 1, i, k, acc, hd, ha, hk => by
    obtain ⟨k, rfl⟩ : ∃ m, k = m + 1 := ⟨k - 1, by omega⟩
    have hi : i < L.length := by omega
    have hs := hL _ (List.getElem_mem hi)
    have hz := fd_size L[i] o
    have e2 : ((i + 1 : Nat) : Int) = (i : Int) + 1 := by omega
    rw [cost_folded.l0, if_pos (by omega), if_pos (by omega), if_pos (by omega), rdOf_nat L i hi, fold_eq _ _ hs ho, Option.bind_some]
    dsimp only
    rw [count_eq _ (by omega), Option.bind_some, List.drop_eq_getElem_cons hi, List.any_cons]
    by_cases hlg : 256 < (cb (fd L[i] o)).length
    · rw [if_pos (by omega)]
      have : longW L[i] o = true := decide_eq_true hlg
      rw [this]
      simp
    · have hf : longW L[i] o = false := decide_eq_false hlg
      rw [if_neg (by omega), if_pos (by omega), ws ((i : Int) + 1) (by omega) (by omega), ← e2, folded_loop L hL hl g n f o ho d (i + 1) k _ (by omega) (by simp; omega) (by omega), hf, List.map_cons]
      simp [wordOf]
def foldedP (L : List ByteArray) (o : Int) : List S73 × Int := if 1024 < L.length then ([], 1) else if L.any (fun s => longW s o) = true then ([], 1) else (L.map (wordOf o), 0)
theorem folded_eq (L : List ByteArray) (hL : ∀ s ∈ L, s.size ≤ 1048576) (g n f o : Int) (ho : 0 ≤ o ∧ o ≤ 31) (k : Nat) (hk : 1025 ≤ k) : cost_folded.f k L g n f o = some (foldedP L o) := by
  unfold cost_folded.f foldedP
  by_cases h : 1024 < L.length
  · rw [if_pos (by omega), if_pos h]
  · rw [if_neg (by omega), if_neg h]
    have := folded_loop L hL (by omega) g n f o ho L.length 0 k [] (by omega) rfl (by omega)
    simpa using this
def lostB : List UInt8 := [226, 151, 140]
/-- What two words cost. -/
def twoP (a ka b kb : ByteArray) (n f : Int) : Int := if ka.data.toList = kb.data.toList then 0 else if a.data.toList = lostB ∨ b.data.toList = lostB then min n f else min f (((Lv.lev (cb ka) (cb kb) : Nat) : Int) * n)
theorem lev_256 (x y : ByteArray) (hx : (cb x).length ≤ 256) (hy : (cb y).length ≤ 256) : Lv.lev (cb x) (cb y) ≤ 256 := by
  have := Lv.lev_max (cb x) (cb y)
  omega
theorem two_eq (a ka b kb : ByteArray) (g n f o : Int) (hn : 1 ≤ n ∧ n ≤ 1000) (h1 : ka.size ≤ 12582912) (h2 : kb.size ≤ 12582912) (l1 : (cb ka).length ≤ 256) (l2 : (cb kb).length ≤ 256) (k : Nat) (hk : 30000000 ≤ k) :
    cost_two.f k a ka b kb g n f o = some (twoP a ka b kb n f) := by
  unfold cost_two.f twoP lostB
  simp only [toList_data]
  by_cases e1 : ka.data.toList = kb.data.toList
  · rw [if_pos e1, if_pos e1]
  · rw [if_neg e1, if_neg e1]
    by_cases e2 : a.data.toList = [226, 151, 140]
    · rw [if_pos e2, if_pos (Or.inl e2), mn_eq]
    · rw [if_neg e2]
      by_cases e3 : b.data.toList = [226, 151, 140]
      · rw [if_pos e3, if_pos (Or.inr e3), mn_eq]
      · have hlv := lev_256 ka kb l1 l2
        have hb1 : 0 ≤ ((Lv.lev (cb ka) (cb kb) : Nat) : Int) * n := Int.mul_nonneg (by omega) (by omega)
        have hb2 : ((Lv.lev (cb ka) (cb kb) : Nat) : Int) * n ≤ 256 * 1000 := Int.mul_le_mul (by omega) (by omega) (by omega) (by omega)
        rw [if_neg e3, if_neg (fun h => h.elim e2 e3), of_eq ka kb (by omega) (by omega) k (by unfold kOf; omega), Option.bind_some]
        unfold dOf
        rw [if_pos ⟨l1, l2⟩]
        dsimp only
        rw [ws _ (by omega) (by omega), mn_eq]
/-- What two words cost, by a scale; or the error. -/
def wP (a b : ByteArray) (g n f o : Int) : Int × Int := if scaleOk g n f o then (if longW a o = true ∨ longW b o = true then (0, 1) else (twoP a (fd a o) b (fd b o) n f, 0)) else (0, 90)
theorem short_of (s : ByteArray) (o : Int) (h : ¬ longW s o = true) : (cb (fd s o)).length ≤ 256 := by
  unfold longW at h
  simpa using h
theorem check_eq (g n f o : Int) : cost_Check.f g n f o = some (if scaleOk g n f o then 0 else 90) := rfl
theorem words_eq (a b : ByteArray) (ha : a.size ≤ 1048576) (hb : b.size ≤ 1048576) (g n f o : Int) (k : Nat) (hk : 30000000 ≤ k) : cost_Words.f k a b g n f o = some (wP a b g n f o) := by
  unfold cost_Words.f wP
  rw [check_eq, Option.bind_some]
  by_cases hs : scaleOk g n f o
  · have hs' := hs
    unfold scaleOk at hs'
    obtain ⟨_, hn, _, ho⟩ := hs'
    have z1 := fd_size a o
    have z2 := fd_size b o
    rw [if_pos hs, if_pos rfl, if_pos hs, folded_eq [a, b] (by intro s h; simp at h; rcases h with rfl | rfl <;> assumption) g n f o ho k (by omega), Option.bind_some]
    have hF : foldedP [a, b] o = if longW a o = true ∨ longW b o = true then ([], 1) else ([wordOf o a, wordOf o b], 0) := by
      unfold foldedP
      rw [if_neg (show ¬ 1024 < [a, b].length by simp)]
      simp
    rw [hF]
    by_cases hl : longW a o = true ∨ longW b o = true
    · rw [if_pos hl, if_pos hl, if_neg (by decide)]
    · rw [if_neg hl, if_neg hl, if_pos rfl, if_pos (by simp), if_pos (by simp)]
      have r0 : rd_T73 [wordOf o a, wordOf o b] 0 = wordOf o a := rfl
      have r1 : rd_T73 [wordOf o a, wordOf o b] 1 = wordOf o b := rfl
      rw [r0, r1]
      show ((cost_two.f k a (fd a o) b (fd b o) g n f o).bind fun t => some (t, 0)) = _
      rw [two_eq a (fd a o) b (fd b o) g n f o hn (by omega) (by omega) (short_of a o (fun h => hl (Or.inl h))) (short_of b o (fun h => hl (Or.inr h))) k hk, Option.bind_some]
  · rw [if_neg hs, if_neg hs]
    rw [if_neg (by decide)]
theorem two_symm (a ka b kb : ByteArray) (n f : Int) : twoP a ka b kb n f = twoP b kb a ka n f := by
  unfold twoP
  by_cases e1 : ka.data.toList = kb.data.toList
  · rw [if_pos e1, if_pos e1.symm]
  · have e1' : ¬ kb.data.toList = ka.data.toList := fun h => e1 h.symm
    by_cases e2 : a.data.toList = lostB ∨ b.data.toList = lostB
    · rw [if_neg e1, if_neg e1', if_pos e2, if_pos e2.symm]
    · have e2' : ¬ (b.data.toList = lostB ∨ a.data.toList = lostB) := fun h => e2 h.symm
      rw [if_neg e1, if_neg e1', if_neg e2, if_neg e2', Lv.lev_symm]
theorem wP_symm (a b : ByteArray) (g n f o : Int) : wP a b g n f o = wP b a g n f o := by
  unfold wP
  by_cases hs : scaleOk g n f o
  · rw [if_pos hs, if_pos hs, two_symm]
    by_cases hl : longW a o = true ∨ longW b o = true
    · rw [if_pos hl, if_pos hl.symm]
    · rw [if_neg hl, if_neg (fun h => hl h.symm)]
  · rw [if_neg hs, if_neg hs]
theorem lev_pos (x y : ByteArray) (h : ¬ x.data.toList = y.data.toList) : 1 ≤ Lv.lev (cb x) (cb y) := by
  rcases Nat.eq_zero_or_pos (Lv.lev (cb x) (cb y)) with h0 | h0
  · exact absurd (by rw [← toList_data, ← toList_data]; exact (cb_inj x y).1 (Lv.lev_zero.1 h0)) h
  · exact h0
theorem two_range (a ka b kb : ByteArray) (n f : Int) (hn : 1 ≤ n) (hf : 1 ≤ f) : 0 ≤ twoP a ka b kb n f ∧ twoP a ka b kb n f ≤ f ∧ (twoP a ka b kb n f = 0 ↔ ka.data.toList = kb.data.toList) := by
  unfold twoP
  by_cases e1 : ka.data.toList = kb.data.toList
  · rw [if_pos e1]
    exact ⟨by omega, by omega, ⟨fun _ => e1, fun _ => rfl⟩⟩
  · rw [if_neg e1]
    by_cases e2 : a.data.toList = lostB ∨ b.data.toList = lostB
    · rw [if_pos e2]
      exact ⟨by omega, by omega, ⟨fun h => by omega, fun h => absurd h e1⟩⟩
    · rw [if_neg e2]
      have h1 := lev_pos ka kb e1
      have h2 : n ≤ ((Lv.lev (cb ka) (cb kb) : Nat) : Int) * n := by
        have := Int.mul_le_mul_of_nonneg_right (show (1 : Int) ≤ ((Lv.lev (cb ka) (cb kb) : Nat) : Int) by omega) (show (0 : Int) ≤ n by omega)
        omega
      exact ⟨by omega, by omega, ⟨fun h => by omega, fun h => absurd h e1⟩⟩
end Go.Proofs.YtcpbalnbgmjhjaaDoor.Pure
