/-
  Valid words that are folded already cost what they cost ahead of it.
-/
import Derived.Test.YtcpbalnbgmjhjaaDoorPureCostEven
import Derived.Test.YtcpbalnbgmjhjaaDoorPureFold
import Derived.Test.YtcpbalnbgmjhjaaDoorEFacts
import Derived.Test.YtcpbalnbgmjhjaaDoorEx15
import Derived.Test.YtcpbalnbgmjhjaaDoorEx16
namespace Go.Proofs.YtcpbalnbgmjhjaaDoor.Pure
open Go.RowKit Go.Proofs.YtcpbalnbgmjhjaaDoor.E Go.Proofs.YtcpbalnbgmjhjaaDoorW.PrintWords Go.Proofs.YtcpbalnbgmjhjaaDoorW.PrintLast Go.Proofs.YtcpbalnbgmjhjaaDoorW.PrintMore
theorem decode_ok (s : ByteArray) (i : Nat) : okR (Utf8.decode s i).1 := by
  have k0 := Utf.byte_lt s i
  have k1 := Utf.byte_lt s (i + 1)
  have k2 := Utf.byte_lt s (i + 2)
  have k3 := Utf.byte_lt s (i + 3)
  rw [Lib.decode_at]
  unfold okR
  rcases Lib.decodeN_shape (s.size - i) (s.get! i).toNat (s.get! (i + 1)).toNat (s.get! (i + 2)).toNat (s.get! (i + 3)).toNat with ⟨c, e⟩ | ⟨c1, c2, c3, cv, e⟩ | ⟨c1, c2, c3, c4, cv, cs, e⟩ | ⟨c1, c2, c3, c4, c5, cv, cw, e⟩ | e
  · rw [e]; dsimp only; omega
  · rw [e]; dsimp only; omega
  · rw [e]; dsimp only; omega
  · rw [e]; dsimp only; omega
  · rw [e]; dsimp only; omega
theorem cells_ok (s : ByteArray) : ∀ f i, ∀ c ∈ gCells s f i, ∃ r : Nat, c.f2 = (r : Int) ∧ okR r
  | 0, i, c, hc => by simp [gCells] at hc
  | f + 1, i, c, hc => by
    unfold gCells at hc
    split at hc
    · rcases List.mem_cons.1 hc with rfl | hc
      · exact ⟨_, rfl, decode_ok s i⟩
      · exact cells_ok s f _ c hc
    · cases hc
/-- The runes that a text becomes. -/
def outs (o : Int) (l : List S91) : List Int := l.flatMap fun c => outR o c.f2
theorem foldT_outs (o : Int) : ∀ l : List S91, l.all (fun c => !c.f3) = true → foldT o l = (outs o l).flatMap fun y => Lib.encodeRune y
  | [], _ => rfl
  | c :: l, h => by
    rw [List.all_cons, Bool.and_eq_true] at h
    have ih := foldT_outs o l h.2
    have hc : foldC o c = (outR o c.f2).flatMap fun y => Lib.encodeRune y := by
      unfold foldC
      have : c.f3 = false := by simpa using h.1
      rw [this, if_neg (by decide), foldR_out]
    have e1 : foldT o (c :: l) = foldC o c ++ foldT o l := rfl
    have e2 : outs o (c :: l) = outR o c.f2 ++ outs o l := rfl
    rw [e1, e2, List.flatMap_append, hc, ih]
theorem outs_same (o : Int) : ∀ (L : List Nat) (l : List S91), l.map (fun c => (c.f2, c.f3)) = L.map (fun r : Nat => ((r : Int), false)) → (∀ r ∈ L, outR o (r : Int) = [(r : Int)]) → l.all (fun c => !c.f3) = true ∧ outs o l = L.map fun r : Nat => (r : Int)
  | [], [], _, _ => ⟨rfl, rfl⟩
  | r :: L, [], h, _ => by cases h
  | [], c :: l, h, _ => by cases h
  | r :: L, c :: l, h, hr => by
    rw [List.map_cons, List.map_cons, List.cons.injEq, Prod.mk.injEq] at h
    obtain ⟨ih1, ih2⟩ := outs_same o L l h.2 fun q hq => hr q (List.mem_cons_of_mem _ hq)
    refine ⟨?_, ?_⟩
    · rw [List.all_cons, ih1, h.1.2]; rfl
    · have e2 : outs o (c :: l) = outR o c.f2 ++ outs o l := rfl
      rw [e2, ih2, h.1.1, hr r List.mem_cons_self, List.map_cons]
      rfl
theorem ints_nats : ∀ l : List Int, (∀ y ∈ l, ∃ r : Nat, y = (r : Int) ∧ okR r) → ∃ L : List Nat, l = L.map (fun r : Nat => (r : Int)) ∧ ∀ r ∈ L, okR r
  | [], _ => ⟨[], rfl, fun _ h => by cases h⟩
  | y :: l, h => by
    obtain ⟨r, rfl, hr⟩ := h y List.mem_cons_self
    obtain ⟨L, rfl, hL⟩ := ints_nats l fun z hz => h z (List.mem_cons_of_mem _ hz)
    refine ⟨r :: L, rfl, fun q hq => ?_⟩
    rcases List.mem_cons.1 hq with rfl | hq
    · exact hr
    · exact hL q hq
/-- Folded once is folded. -/
theorem fd_fd (s : ByteArray) (o : Int) (ho : 0 ≤ o ∧ o ≤ 31) (hv : (gCells s s.size 0).all (fun c => !c.f3) = true) : fd (fd s o) o = fd s o := by
  have hfix : ∀ y ∈ outs o (gCells s s.size 0), outR o y = [y] ∧ ∃ r : Nat, y = (r : Int) ∧ okR r := by
    intro y hy
    obtain ⟨c, hc, hy⟩ := List.mem_flatMap.1 hy
    obtain ⟨r, hr, hok⟩ := cells_ok s _ _ c hc
    rw [hr] at hy
    exact out_fix o ho r hok y hy
  obtain ⟨L, hL, hLok⟩ := ints_nats _ fun y hy => (hfix y hy).2
  have hb : (fd s o).data.toList = L.flatMap fun r : Nat => Lib.encodeRune (r : Int) := by
    show (foldT o (gCells s s.size 0)).toArray.toList = _
    rw [List.toList_toArray, foldT_outs o _ hv, hL, List.flatMap_map]
  have hcl := enc_cells (fd s o) L (fd s o).size 0 hLok (by rw [List.drop_zero]; exact hb) (Nat.zero_le _) (by omega)
  obtain ⟨h1, h2⟩ := outs_same o L _ hcl fun r hr => (hfix (r : Int) (by rw [hL]; exact List.mem_map.2 ⟨r, hr, rfl⟩)).1
  apply ByteArray.ext
  apply Array.toList_inj.1
  rw [hb]
  show (foldT o (gCells (fd s o) (fd s o).size 0)).toArray.toList = _
  rw [List.toList_toArray, foldT_outs o _ h1, h2, List.flatMap_map]
theorem fold_big (s : ByteArray) (o : Int) (hs : s.size ≤ 12582912) (ho : 0 ≤ o ∧ o ≤ 31) : fold_Text.f s o = some (fd s o, 0) := by
  have h2 := Pl.cells_le s
  unfold fold_Text.f glyph_Cells.f
  rw [if_pos ho, if_pos (by omega), Option.bind_some, if_pos ⟨fun c hc => Pl.cells_byte s s.size 0 c hc, by omega⟩]
  rfl
theorem folded_loop_big (L : List ByteArray) (hL : ∀ s ∈ L, s.size ≤ 12582912) (hl : L.length ≤ 1024) (g n f o : Int) (ho : 0 ≤ o ∧ o ≤ 31) : ∀ (d i k : Nat) (acc : List S73), i + d = L.length → acc.length = i → d + 1 ≤ k →
    cost_folded.l0 k acc L (L.length : Int) (i : Int) g n f o = some (if (L.drop i).any (fun s => longW s o) = true then ([], 1) else (acc ++ (L.drop i).map (wordOf o), 0))
  | 0, i, k, acc, hd, ha, hk => by
    obtain ⟨k, rfl⟩ : ∃ m, k = m + 1 := ⟨k - 1, by omega⟩
    rw [cost_folded.l0, if_neg (by omega), List.drop_of_length_le (by omega)]
    simp
  | d + 1, i, k, acc, hd, ha, hk => by
    obtain ⟨k, rfl⟩ : ∃ m, k = m + 1 := ⟨k - 1, by omega⟩
    have hi : i < L.length := by omega
    have hs := hL _ (List.getElem_mem hi)
    have hz := fd_size L[i] o
    have e2 : ((i + 1 : Nat) : Int) = (i : Int) + 1 := by omega
    rw [cost_folded.l0, if_pos (by omega), if_pos (by omega), if_pos (by omega), rdOf_nat L i hi, fold_big _ _ hs ho, Option.bind_some]
    dsimp only
    rw [count_eq _ (by omega), Option.bind_some, List.drop_eq_getElem_cons hi, List.any_cons]
    by_cases hlg : 256 < (cb (fd L[i] o)).length
    · rw [if_pos (by omega)]
      have : longW L[i] o = true := decide_eq_true hlg
      rw [this]
      simp
    · have hf : longW L[i] o = false := decide_eq_false hlg
      rw [if_neg (by omega), if_pos (by omega), ws ((i : Int) + 1) (by omega) (by omega), ← e2, folded_loop_big L hL hl g n f o ho d (i + 1) k _ (by omega) (by simp; omega) (by omega), hf, List.map_cons]
      simp [wordOf]
theorem folded_big (L : List ByteArray) (hL : ∀ s ∈ L, s.size ≤ 12582912) (g n f o : Int) (ho : 0 ≤ o ∧ o ≤ 31) (k : Nat) (hk : 1025 ≤ k) : cost_folded.f k L g n f o = some (foldedP L o) := by
  unfold cost_folded.f foldedP
  by_cases h : 1024 < L.length
  · rw [if_pos (by omega), if_pos h]
  · rw [if_neg (by omega), if_neg h]
    have := folded_loop_big L hL (by omega) g n f o ho L.length 0 k [] (by omega) rfl (by omega)
    simpa using this
theorem words_big (a b : ByteArray) (ha : a.size ≤ 12582912) (hb : b.size ≤ 12582912) (g n f o : Int) (za : (fd a o).size ≤ 12582912) (zb : (fd b o).size ≤ 12582912) (k : Nat) (hk : 30000000 ≤ k) : cost_Words.f k a b g n f o = some (wP a b g n f o) := by
  unfold cost_Words.f wP
  rw [check_eq, Option.bind_some]
  by_cases hs : scaleOk g n f o
  · have hs' := hs
    unfold scaleOk at hs'
    obtain ⟨_, hn, _, ho⟩ := hs'
    rw [if_pos hs, if_pos rfl, if_pos hs, folded_big [a, b] (by intro s h; simp at h; rcases h with rfl | rfl <;> assumption) g n f o ho k (by omega), Option.bind_some]
    have hF : foldedP [a, b] o = if longW a o = true ∨ longW b o = true then ([], 1) else ([wordOf o a, wordOf o b], 0) := by
      unfold foldedP
      rw [if_neg (show ¬ 1024 < [a, b].length by simp)]
      simp
    rw [hF]
    by_cases hl : longW a o = true ∨ longW b o = true
    · rw [if_pos hl, if_pos hl, if_neg (by decide)]
    · rw [if_neg hl, if_neg hl, if_pos rfl, if_pos (by simp), if_pos (by simp)]
      have r0 : rd_T73 [wordOf o a, wordOf o b] 0 = wordOf o a := rfl
      have r1 : rd_T73 [wordOf o a, wordOf o b] 1 = wordOf o b := rfl
      rw [r0, r1]
      show ((cost_two.f k a (fd a o) b (fd b o) g n f o).bind fun t => some (t, 0)) = _
      rw [two_eq a (fd a o) b (fd b o) g n f o hn za zb (short_of a o (fun h => hl (Or.inl h))) (short_of b o (fun h => hl (Or.inr h))) k hk, Option.bind_some]
  · rw [if_neg hs, if_neg hs]
    rw [if_neg (by decide)]
theorem fold_wrong (s : ByteArray) (o : Int) (h : ¬ (0 ≤ o ∧ o ≤ 31)) : fold_Text.f s o = some (⟨#[]⟩, 2) := by
  unfold fold_Text.f
  rw [if_neg h]
theorem CostFolded (a b : ByteArray) (g n f o : Int) (_ : a.size ≤ maxLen) (_ : b.size ≤ maxLen) (_ : (Lit.int .i64 g).wf = true ∧ (Lit.int .i64 n).wf = true ∧ (Lit.int .i64 f).wf = true ∧ (Lit.int .i64 o).wf = true) (hb : (a.size + 1) + (b.size + 1) + (1 + 1 + 1 + 1 + 1) ≤ 1048576) : ∃ k, siglumlaw09_CostFolded.f k a b g n f o = some true := by
  have h0 : a.size ≤ 1048576 := by omega
  have h1 : b.size ≤ 1048576 := by omega
  refine ⟨30000001, ?_⟩
  have hj : ∀ x y, siglumlaw09_CostFolded.j0 30000001 a b x y true g n f o = some true := fun x y => by rw [siglumlaw09_CostFolded.j0, if_pos rfl]
  unfold siglumlaw09_CostFolded.f
  rw [awake9 _ (by decide), Option.bind_some, if_pos rfl]
  by_cases ho : 0 ≤ o ∧ o ≤ 31
  · have z1 := fd_size a o
    have z2 := fd_size b o
    rw [fold_eq a o h0 ho, Option.bind_some, fold_eq b o h1 ho, Option.bind_some]
    dsimp only
    rw [if_pos rfl, if_pos rfl, hj]
    simp only [toList_data]
    by_cases e1 : a.data.toList = [226, 151, 140]
    · rw [if_pos e1]
    rw [if_neg e1]
    by_cases e2 : b.data.toList = [226, 151, 140]
    · rw [if_pos e2]
    rw [if_neg e2]
    by_cases e3 : (fd a o).data.toList = [226, 151, 140]
    · rw [if_pos e3]
    rw [if_neg e3]
    by_cases e4 : (fd b o).data.toList = [226, 151, 140]
    · rw [if_pos e4]
    rw [if_neg e4]
    unfold glyph_Valid.f
    rw [if_pos (by omega), if_pos (by omega), Option.bind_some, Option.bind_some, Pl.valid_cells, Pl.valid_cells]
    by_cases v1 : (gCells a a.size 0).all (fun c => !c.f3) = true
    · rw [if_pos v1]
      by_cases v2 : (gCells b b.size 0).all (fun c => !c.f3) = true
      · have i1 := fd_fd a o ho v1
        have i2 := fd_fd b o ho v2
        have hW : wP (fd a o) (fd b o) g n f o = wP a b g n f o := by
          unfold wP longW twoP
          rw [i1, i2, if_neg (show ¬ ((fd a o).data.toList = lostB ∨ (fd b o).data.toList = lostB) from fun h => h.elim e3 e4), if_neg (show ¬ (a.data.toList = lostB ∨ b.data.toList = lostB) from fun h => h.elim e1 e2)]
        rw [v2, siglumlaw09_CostFolded.j0, if_neg (by decide), words_eq a b h0 h1 g n f o _ (Nat.le_refl _), Option.bind_some, words_big (fd a o) (fd b o) (by omega) (by omega) g n f o (by rw [i1]; omega) (by rw [i2]; omega) _ (Nat.le_refl _), Option.bind_some, hW, if_pos rfl]
        simp
      · have hf : (gCells b b.size 0).all (fun c => !c.f3) = false := by simpa using v2
        rw [hf]
        exact hj _ _
    · rw [if_neg v1]
  · rw [fold_wrong a o ho, fold_wrong b o ho, Option.bind_some, Option.bind_some]
    dsimp only
    rw [if_neg (by decide), hj]
end Go.Proofs.YtcpbalnbgmjhjaaDoor.Pure
