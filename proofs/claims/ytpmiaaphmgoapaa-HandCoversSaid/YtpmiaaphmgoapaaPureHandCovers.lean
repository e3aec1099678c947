/-
  The spans cover the text, one behind the other, and each holds its piece's text.
-/
import Derived.Test.YtpmiaaphmgoapaaPureHandSpans
import Derived.Test.YtpmiaaphmgoapaaHCovers
namespace Go.Proofs.Ytpmiaaphmgoapaa.Pure
open Go.RowKit Go.Proofs Go.Proofs.Ytpmiaaphmgoapaa.H Go.Proofs.YtpmiaaphmgoapaaW.PrintWords Go.Proofs.YtpmiaaphmgoapaaW.PrintLast Go.Proofs.YtpmiaaphmgoapaaW.PrintMore
def spansL (h : Int) : List S37 → Int → List (Int × Int)
  | [], _ => []
  | p :: l, a => (a, a + (givesS p h).size) :: spansL h l (a + (givesS p h).size)
theorem spansG_L (h : Int) : ∀ (L : List S37) (a : Int) (acc q : List (Int × Int)), spansG h L a acc = some q → q = acc ++ spansL h L a
  | [], a, acc, q, hq => by
    unfold spansG at hq
    rw [← Option.some.inj hq]
    simp [spansL]
  | p :: l, a, acc, q, hq => by
    unfold spansG at hq
    split at hq
    · cases hq
    · rw [spansG_L h l _ _ q hq, List.append_assoc]
      rfl
theorem cut_mid_text (pre rest : List UInt8) (G : ByteArray) : (⟨(pre ++ (G.data.toList ++ rest)).toArray⟩ : ByteArray).extract pre.length (pre.length + G.size) = G := by
  have e2 : G.data.toList.length = G.size := by rw [Array.length_toList]; rfl
  apply ByteArray.ext
  rw [ByteArray.data_extract]
  apply Array.ext'
  simp only [List.extract_toArray, List.extract_eq_take_drop]
  rw [Nat.add_sub_cancel_left, List.drop_left, ← e2, List.take_left]
theorem rdOf_last (l : List ByteArray) (h : Int) (h1 : h < (l.length : Int)) : (if h < (l.length : Int) - 1 then h else (l.length : Int) - 1) = h := by split <;> omega
theorem cover_ok (T : List UInt8) (h : Int) (hh : 0 ≤ h) : ∀ (L : List S37) (pre : List UInt8), (∀ p ∈ L, ∃ b, rightB b p = true) → T = pre ++ givesT h L → coverB ⟨T.toArray⟩ h L (spansL h L (pre.length : Int)) (pre.length : Int) = true
  | [], pre, _, e => by
    have e1 : T = pre := by rw [e]; simp [givesT]
    unfold coverB
    rw [e1]
    simp [ByteArray.size]
  | p :: L, pre, hr, e => by
    obtain ⟨b, hb⟩ := hr p List.mem_cons_self
    have ec : givesT h (p :: L) = (givesS p h).data.toList ++ givesT h L := by simp [givesT]
    have e2 : (givesS p h).data.toList.length = (givesS p h).size := by rw [Array.length_toList]; rfl
    have hcut : (⟨T.toArray⟩ : ByteArray).extract pre.length (pre.length + (givesS p h).size) = givesS p h := by rw [e, ec]; exact cut_mid_text pre _ _
    have hsz : (⟨T.toArray⟩ : ByteArray).size = pre.length + (givesS p h).size + (givesT h L).length := by
      rw [e, ec]
      show (pre ++ ((givesS p h).data.toList ++ givesT h L)).toArray.size = _
      rw [List.size_toArray, List.length_append, List.length_append, e2]
      omega
    have ih := cover_ok T h hh L (pre ++ (givesS p h).data.toList) (fun q hq => hr q (List.mem_cons_of_mem _ hq)) (by rw [e, ec, List.append_assoc])
    have el : ((pre ++ (givesS p h).data.toList).length : Int) = (pre.length : Int) + ((givesS p h).size : Int) := by rw [List.length_append, e2]; omega
    rw [el] at ih
    unfold spansL coverB
    rw [Bool.and_eq_true, decide_eq_true_eq]
    have hq : ((pre.length : Int) + ((givesS p h).size : Int)).toNat = pre.length + (givesS p h).size := by omega
    refine ⟨⟨rfl, by omega, by dsimp only; omega, by dsimp only; rw [hsz]; omega, fun h14 => ?_, fun h3 hlt => ?_⟩, ih⟩
    · dsimp only
      rw [hq, Int.toNat_natCast, hcut]
      have h1 : p.f1.length = 1 := by
        unfold rightB at hb
        rcases h14 with h1 | h1
        · rw [if_pos h1] at hb
          simp at hb
          omega
        · rw [if_neg (by omega), if_pos h1] at hb
          simp at hb
          omega
      refine ⟨by omega, ?_⟩
      unfold givesS givesP
      rw [if_neg (by omega), h1]
      congr 1
      show (0 : Int) = if h < ((1 : Nat) : Int) - 1 then h else ((1 : Nat) : Int) - 1
      split <;> omega
    · dsimp only
      rw [hq, Int.toNat_natCast, hcut]
      refine ⟨hh, ?_⟩
      unfold givesS givesP
      rw [if_neg (by omega), rdOf_last p.f1 h hlt]
theorem HandCoversP (L : List S37) (h : Int) (hl : L.length ≤ 4398046511104) (hs : rightL 0 L = true → ∀ p ∈ L, (givesS p h).size ≤ 140737488355328) : ∃ k, siglumlaw06_HandCovers.f k L h = some true := by
  refine ⟨3 * L.length + 300, ?_⟩
  unfold siglumlaw06_HandCovers.f
  rw [awake6 _ (by omega), Option.bind_some, if_pos rfl, read_eq L h hl hs _ (by omega), Option.bind_some, spans_eq L h hl hs _ (by omega), Option.bind_some]
  unfold readP spansP
  by_cases hr : rightL 0 L = true
  · rw [if_pos hr, if_pos hr]
    by_cases hh : 0 ≤ h ∧ h < 4
    · rw [if_pos hh, if_pos hh]
      have hi := okG_spans h L 0 []
      by_cases ho : okG h L 0 = true
      · rw [if_pos ho]
        cases hg : spansG h L 0 [] with
        | none =>
          rw [hg, ho] at hi
          cases hi
        | some q =>
          have hql := spansG_len h L 0 [] q hg
          have hqe := spansG_L h L 0 [] q hg
          have hT := okG_len h L 0 (by omega) ho
          have hc := cover_ok (givesT h L) h hh.1 L [] (right_mem L 0 hr) rfl
          rw [List.nil_append] at hqe
          rw [show spansR (some q) = (q, 0) from rfl]
          dsimp only
          rw [if_pos rfl, if_pos ⟨rfl, by rw [hqe]; exact hc, by rw [hql]; simp, by omega, by show (givesT h L).toArray.size ≤ _; rw [List.size_toArray]; omega⟩]
      · rw [if_neg ho]
        cases hg : spansG h L 0 [] with
        | some q =>
          rw [hg] at hi
          exact absurd hi.symm ho
        | none =>
          rw [show spansR none = ([], 1) from rfl]
          dsimp only
          rw [if_neg (by decide), ref_right_eq L hl _ (by omega), Option.bind_some, if_pos ⟨rfl, rfl, .inr (.inr (.inr rfl))⟩]
    · rw [if_neg hh, if_neg hh]
      dsimp only
      rw [if_neg (by decide), ref_right_eq L hl _ (by omega), Option.bind_some, if_pos ⟨rfl, rfl, by by_cases h0 : h < 0; exact .inr (.inl h0); exact .inr (.inr (.inl (by omega)))⟩]
  · rw [if_neg hr, if_neg hr]
    dsimp only
    rw [if_neg (by decide), ref_right_eq L hl _ (by omega), Option.bind_some, if_pos ⟨rfl, rfl, .inl (by simpa using hr)⟩]
theorem HandCovers (L : List S37) (h : Int) (g : (∀ y ∈ L, (((Lit.int .i64 y.f0).wf = true) ∧ ((∀ z ∈ y.f1, (z.size ≤ 140737488351232)) ∧ y.f1.length * 16 ≤ 140737488351232) ∧ ((Lit.int .i64 y.f2).wf = true))) ∧ L.length * 40 ≤ 140737488351232) (_ : (Lit.int .i64 h).wf = true) : ∃ k, siglumlaw06_HandCovers.f k L h = some true :=
  HandCoversP L h (by omega) fun hr p hp => by
    obtain ⟨b, hb⟩ := right_mem L 0 hr p hp
    exact gives_size b p h hb (g.1 p hp).2.1.1
end Go.Proofs.Ytpmiaaphmgoapaa.Pure
