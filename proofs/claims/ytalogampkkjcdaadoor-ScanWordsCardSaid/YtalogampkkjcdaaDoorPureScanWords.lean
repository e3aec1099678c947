/-
  A token, by itself, is that one token.
-/
import Derived.Test.YtalogampkkjcdaaDoorPureScan
import Derived.Test.YtalogampkkjcdaaDoorPureCut
import Derived.Test.YtalogampkkjcdaaDoorEx7
namespace Go.Proofs.YtalogampkkjcdaaDoor.Pure
open Go.RowKit Go.Proofs.YtalogampkkjcdaaDoor.E Go.Proofs.YtalogampkkjcdaaDoorW.PrintWords Go.Proofs.YtalogampkkjcdaaDoorW.PrintLast
section
variable (L M : List S75) (i m : Nat) (hm : M.length = m) (him : i + m ≤ L.length) (hk : ∀ j : Nat, j < m → rd (kinds M) (j : Int) = rd (kinds L) ((i + j : Nat) : Int))
include hm him hk
theorem word_sub : ∀ f j g, j ≤ m → m + 1 ≤ j + f → wordE (kinds L) g (i + j) = i + m → L.length + 1 ≤ i + j + g → wordE (kinds M) f j = m
  | 0, j, g, hj, hf, _, _ => by omega
  | f + 1, j, g, hj, hf, he, hg => by
    obtain ⟨g, rfl⟩ : ∃ z, g = z + 1 := ⟨g - 1, by omega⟩
    by_cases h : j < m
    · unfold wordE at he ⊢
      rw [hk j h]
      by_cases hw : wordyB (rd (kinds L) ((i + j : Nat) : Int)) = true
      · rw [if_pos hw] at he ⊢
        exact word_sub f (j + 1) g h (by omega) he (by omega)
      · rw [if_neg hw] at he ⊢
        by_cases h4 : rd (kinds L) ((i + j : Nat) : Int) = 4 ∧ wordyB (rd (kinds L) ((i + j + 1 : Nat) : Int)) = true
        · have hlt : i + j + 1 < L.length := by
            refine Classical.byContradiction fun hn => ?_
            have := (kinds_dead L (i + j + 1) (by omega)).1
            rw [this] at h4
            exact absurd h4.2 (by decide)
          rw [if_pos h4] at he
          have h2 : j + 1 < m := by
            obtain ⟨z, rfl⟩ : ∃ z, g = z + 1 := ⟨g - 1, by omega⟩
            rw [wordE, if_pos h4.2] at he
            have := wordE_le (kinds L) L.length (kinds_rest L) z (i + j + 1 + 1) (by omega)
            omega
          rw [if_pos ⟨h4.1, by rw [hk (j + 1) h2]; exact h4.2⟩]
          exact word_sub f (j + 1) g h (by omega) he (by omega)
        · rw [if_neg h4] at he
          omega
    · have hj2 : j = m := by omega
      subst hj2
      have hd := kinds_dead M j (by omega)
      rw [wordE, if_neg (by rw [hd.1]; decide), if_neg (fun x => hd.2.1 x.1)]
theorem blank_sub : ∀ f j g, j ≤ m → m + 1 ≤ j + f → blankE (kinds L) g (i + j) = i + m → L.length + 1 ≤ i + j + g → blankE (kinds M) f j = m
  | 0, j, g, hj, hf, _, _ => by omega
  | f + 1, j, g, hj, hf, he, hg => by
    obtain ⟨g, rfl⟩ : ∃ z, g = z + 1 := ⟨g - 1, by omega⟩
    by_cases h : j < m
    · unfold blankE at he ⊢
      rw [hk j h]
      by_cases hw : rd (kinds L) ((i + j : Nat) : Int) = 5
      · rw [if_pos hw] at he ⊢
        exact blank_sub f (j + 1) g h (by omega) he (by omega)
      · rw [if_neg hw] at he
        omega
    · have hj2 : j = m := by omega
      subst hj2
      have hd := kinds_dead M j (by omega)
      rw [blankE, if_neg hd.2.2]
theorem tokS_sub (h2 : ∀ j : Nat, j < m → (rd_T75 M (j : Int)).f2 = (rd_T75 L ((i + j : Nat) : Int)).f2) (t : Int) (hS : tokS L (kinds L) i = (t, i + m)) (h0 : 0 < m) : tokS M (kinds M) 0 = (t, m) := by
  have k0 : rd (kinds M) ((0 : Nat) : Int) = rd (kinds L) (i : Int) := by have := hk 0 h0; rwa [Nat.add_zero] at this
  have c0 : (rd_T75 M ((0 : Nat) : Int)).f2 = (rd_T75 L (i : Int)).f2 := by have := h2 0 h0; rwa [Nat.add_zero] at this
  by_cases hw : wordyB (rd (kinds L) (i : Int)) = true
  · rw [tokS_word L _ i hw] at hS
    obtain ⟨ht, hn⟩ := Prod.mk.inj hS
    rw [tokS_word M _ 0 (by rw [k0]; exact hw), ← ht, word_sub L M i m hm him hk (M.length + 1) 0 (L.length + 1) (by omega) (by omega) hn (by omega)]
  · by_cases h5 : rd (kinds L) (i : Int) = 5
    · rw [tokS_blank L _ i h5] at hS
      obtain ⟨ht, hn⟩ := Prod.mk.inj hS
      rw [tokS_blank M _ 0 (by rw [k0]; exact h5), ← ht, blank_sub L M i m hm him hk (M.length + 1) 0 (L.length + 1) (by omega) (by omega) hn (by omega)]
    · by_cases h6 : rd (kinds L) (i : Int) = 6
      · by_cases hc : (rd_T75 L (i : Int)).f2 = 13 ∧ i + 1 < L.length ∧ (rd_T75 L ((i + 1 : Nat) : Int)).f2 = 10
        · rw [tokS_line2 L _ i h6 hc] at hS
          obtain ⟨ht, hn⟩ := Prod.mk.inj hS
          have e : m = 2 := by omega
          subst e
          rw [tokS_line2 M _ 0 (by rw [k0]; exact h6) ⟨by rw [c0]; exact hc.1, by omega, by rw [Nat.zero_add, h2 1 (by omega)]; exact hc.2.2⟩, ← ht]
        · rw [tokS_line1 L _ i h6 hc] at hS
          obtain ⟨ht, hn⟩ := Prod.mk.inj hS
          have e : m = 1 := by omega
          subst e
          rw [tokS_line1 M _ 0 (by rw [k0]; exact h6) (fun x => by have := x.2.1; omega), ← ht]
      · by_cases h7 : rd (kinds L) (i : Int) = 7 ∨ rd (kinds L) (i : Int) = 4
        · rw [tokS_point L _ i h7] at hS
          obtain ⟨ht, hn⟩ := Prod.mk.inj hS
          have e : m = 1 := by omega
          subst e
          rw [tokS_point M _ 0 (by rw [k0]; exact h7), ← ht]
        · rw [tokS_other L _ i hw h5 h6 h7] at hS
          obtain ⟨ht, hn⟩ := Prod.mk.inj hS
          have e : m = 1 := by omega
          subst e
          rw [tokS_other M _ 0 (by rw [k0]; exact hw) (by rw [k0]; exact h5) (by rw [k0]; exact h6) (by rw [k0]; exact h7), ← ht]
end
theorem word_get (l : List S51) (i : Nat) (h : i < l.length) : rd_T51 l (i : Int) = l[i] := by
  unfold rd_T51
  rw [Int.toNat_natCast, List.getD_eq_getElem?_getD, List.getElem?_eq_getElem h]
  rfl
theorem extract_whole (s : ByteArray) : s.extract 0 s.size = s := by
  apply ByteArray.ext
  simp
theorem one_token (s : ByteArray) (i n : Nat) (t : Int) (hi : i < (gCells s s.size 0).length) (hS : tokS (gCells s s.size 0) (kinds (gCells s s.size 0)) i = (t, n)) :
    (tok1 s 0 (gCells s s.size 0) t i n).f0 = t ∧ toks (tok1 s 0 (gCells s s.size 0) t i n).f2 = [⟨t, 0, (tok1 s 0 (gCells s s.size 0) t i n).f2⟩] ∧ (tok1 s 0 (gCells s s.size 0) t i n).f2.size ≤ s.size := by
  refine ⟨rfl, ?_⟩
  obtain ⟨h1, h2⟩ := tokS_le (gCells s s.size 0) (kinds (gCells s s.size 0)) (kinds_rest _) i hi
  rw [hS] at h1 h2
  dsimp only at h1 h2
  obtain ⟨s1, s2, hc⟩ := sub_cells s i n (by omega) h2
  have hA := cellAt_pos s n h2
  have hB := cellAt_pos s i (by omega)
  unfold cellAt at hB
  rw [if_pos hi] at hB
  obtain ⟨p, hp⟩ : ∃ p, gPos s i 0 = p := ⟨_, rfl⟩
  obtain ⟨q, hq⟩ : ∃ q, gPos s n 0 = q := ⟨_, rfl⟩
  rw [hp, hq] at s1 hc
  rw [hq] at s2 hA
  rw [hp] at hB
  have htx : (tok1 s 0 (gCells s s.size 0) t i n).f2 = s.extract p q := by
    unfold tok1
    rw [hA, hB, Int.toNat_natCast, Int.toNat_natCast]
  rw [htx]
  obtain ⟨x, hx⟩ : ∃ x, s.extract p q = x := ⟨_, rfl⟩
  have hxs : x.size ≤ s.size := by rw [← hx, ByteArray.size_extract]; omega
  rw [hx] at hc ⊢
  refine ⟨?_, hxs⟩
  obtain ⟨L, hL⟩ : ∃ L, gCells s s.size 0 = L := ⟨_, rfl⟩
  obtain ⟨M, hM⟩ : ∃ M, gCells x x.size 0 = M := ⟨_, rfl⟩
  rw [hL] at hc hS hi h2
  rw [hM] at hc
  obtain ⟨m, rfl⟩ : ∃ m, n = i + m := ⟨n - i, by omega⟩
  have hlen : M.length = m := by
    have := congrArg List.length hc
    rw [List.length_map, List.length_drop, List.length_take] at this
    omega
  have hel : ∀ (j : Nat) (h : j < M.length) (h' : i + j < L.length), ({ M[j] with f0 := M[j].f0 + (p : Int) } : S75) = L[i + j] := fun j h h' => by
    have e1 : (M.map (fun c => ({ c with f0 := c.f0 + (p : Int) } : S75)))[j]? = ((L.take (i + m)).drop i)[j]? := by rw [hc]
    rw [List.getElem?_map, List.getElem?_eq_getElem h, List.getElem?_drop, List.getElem?_take_of_lt (by omega), List.getElem?_eq_getElem h'] at e1
    exact Option.some.inj e1
  have hk : ∀ j : Nat, j < m → rd (kinds M) (j : Int) = rd (kinds L) ((i + j : Nat) : Int) := fun j hj => by
    rw [kinds_at M j (by omega), kinds_at L (i + j) (by omega), ← hel j (by omega) (by omega)]
    rfl
  have hf : ∀ j : Nat, j < m → (rd_T75 M (j : Int)).f2 = (rd_T75 L ((i + j : Nat) : Int)).f2 := fun j hj => by
    rw [Pl.get_rd M j (by omega), Pl.get_rd L (i + j) (by omega), ← hel j (by omega) (by omega)]
  have hT := tokS_sub L M i m hlen h2 hk hf t hS (by omega)
  have h0 : (rd_T75 M ((0 : Nat) : Int)).f0 = 0 := by
    have := cellAt_pos x 0 (Nat.zero_le _)
    rw [hM] at this
    unfold cellAt at this
    rw [if_pos (by omega)] at this
    exact this
  unfold toks
  rw [hM]
  obtain ⟨z, hz⟩ : ∃ z, M.length = z + 1 := ⟨M.length - 1, by omega⟩
  have hst := tokL_step x 0 M (kinds M) z 0 (by omega) t m hT
  rw [← hz] at hst
  rw [hst, tokL_end _ _ _ _ _ _ (by omega)]
  unfold tok1 cellAt
  rw [h0, if_neg (by omega)]
  have e : x.extract (0 : Int).toNat ((x.size : Int)).toNat = x := extract_whole x
  rw [e]
  rfl
theorem mem_toks (s : ByteArray) (L : List S75) (K : List Int) : ∀ f i, ∀ x ∈ tokL s 0 L K f i, ∃ j t n, j < L.length ∧ tokS L K j = (t, n) ∧ x = tok1 s 0 L t j n
  | 0, i, x, hx => by cases hx
  | f + 1, i, x, hx => by
    by_cases h : i < L.length
    · rw [tokL_step s 0 L K f i h _ _ rfl] at hx
      rcases List.mem_cons.1 hx with e | hx
      · exact ⟨i, _, _, h, rfl, e⟩
      · exact mem_toks s L K f _ x hx
    · rw [tokL_end _ _ _ _ _ _ h] at hx
      cases hx
theorem words_loop (T : List S51) (hT : T.length ≤ 65536) (hw : ∀ x ∈ T, scan_Tokens.f x.f2 = some ([⟨x.f0, 0, x.f2⟩], 0)) : ∀ d i k, i + d = T.length → d + 1 ≤ k → siglumlaw04_ScanWords.l0 k T (T.length : Int) (i : Int) = some true
  | d, i, k, hd, hk => by
    obtain ⟨k, rfl⟩ : ∃ g, k = g + 1 := ⟨k - 1, by omega⟩
    rw [siglumlaw04_ScanWords.l0]
    by_cases h : i < T.length
    · obtain ⟨d, rfl⟩ : ∃ g, d = g + 1 := ⟨d - 1, by omega⟩
      have ih := words_loop T hT hw d (i + 1) k (by omega) (by omega)
      have e : rd_T51 [(⟨T[i].f0, 0, T[i].f2⟩ : S51)] 0 = ⟨T[i].f0, 0, T[i].f2⟩ := rfl
      rw [if_pos (by omega), if_pos (by omega), if_pos (by omega), word_get T i h, hw T[i] (List.getElem_mem h), Option.bind_some, if_pos rfl]
      have e1 : (([(⟨T[i].f0, 0, T[i].f2⟩ : S51)] : List S51).length : Int) = 1 := rfl
      dsimp only
      rw [e1, if_pos rfl, if_pos (by decide), e, if_neg (by simp), Pl.wrap_id ((i : Int) + 1) (by omega) (by omega)]
      exact ih
    · rw [if_neg (by omega)]
  termination_by d => d
theorem ScanWords (a0 : ByteArray) (_ : a0.size ≤ maxLen) (_ : a0.size ≤ 140737488351232) : ∃ k, siglumlaw04_ScanWords.f k a0 = some true := by
  refine ⟨a0.size + 200, ?_⟩
  unfold siglumlaw04_ScanWords.f
  rw [scan_awake, Option.bind_some, if_pos rfl]
  have hj : ∀ T : List S51, siglumlaw04_ScanWords.j0 (a0.size + 200) T true = some true := fun T => by rw [siglumlaw04_ScanWords.j0, if_pos rfl]
  by_cases h : a0.size ≤ 65536
  · have hl := gCells_len a0 a0.size 0
    have h2 := toks_len a0
    rw [scan_some a0 h, Option.bind_some, if_pos rfl]
    dsimp only
    by_cases hb : (toks a0).length ≤ 2000
    · rw [decide_eq_false (by omega), siglumlaw04_ScanWords.j0, if_neg (by decide)]
      refine words_loop (toks a0) (by omega) (fun x hx => ?_) (toks a0).length 0 _ (by omega) (by omega)
      obtain ⟨j, t, n, hj1, hj2, rfl⟩ := mem_toks a0 _ _ _ _ x hx
      obtain ⟨e1, e2, e3⟩ := one_token a0 j n t hj1 hj2
      rw [scan_some _ (by omega), e2]
      rfl
    · rw [decide_eq_true (by omega)]
      exact hj _
  · rw [scan_long a0 h, Option.bind_some, if_neg (by decide)]
    exact hj _
end Go.Proofs.YtalogampkkjcdaaDoor.Pure
