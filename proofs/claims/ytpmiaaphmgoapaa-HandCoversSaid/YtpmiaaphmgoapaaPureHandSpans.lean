/-
  Every piece's span: both ways tell the same spans.
-/
import Derived.Test.YtpmiaaphmgoapaaPureHandReads
import Derived.Test.YtpmiaaphmgoapaaHSpans
import Derived.Test.YtpmiaaphmgoapaaHxf12
namespace Go.Proofs.Ytpmiaaphmgoapaa.Pure
open Go.RowKit Go.Proofs Go.Proofs.Ytpmiaaphmgoapaa.H Go.Proofs.YtpmiaaphmgoapaaW.PrintWords Go.Proofs.YtpmiaaphmgoapaaW.PrintLast Go.Proofs.YtpmiaaphmgoapaaW.PrintMore
/-- What Spans answers. -/
def spansP (h : Int) (L : List S37) : List (Int × Int) × Int := if rightL 0 L = true then (if 0 ≤ h ∧ h < 4 then spansR (spansG h L 0 []) else ([], 2)) else ([], 51)
theorem spans_eq (L : List S37) (h : Int) (hl : L.length ≤ 4398046511104) (hs : rightL 0 L = true → ∀ p ∈ L, (givesS p h).size ≤ 140737488355328) (k : Nat) (hk : L.length + 1 ≤ k) : hand_Spans.f k L h = some (spansP h L) := by
  unfold hand_Spans.f spansP
  rw [hands_eq L hl k hk, Option.bind_some]
  by_cases hr : rightL 0 L = true
  · rw [if_pos hr, if_pos hr]
    dsimp only
    rw [if_pos rfl]
    by_cases hh : 0 ≤ h ∧ h < 4
    · rw [if_pos hh, if_pos hh, if_pos ⟨fun p hp => by
        obtain ⟨b, hb⟩ := right_mem L 0 hr p hp
        exact ⟨right_gives b p h hh.1 hb, hs hr p hp⟩, by omega⟩]
    · rw [if_neg hh, if_neg hh]
  · rw [if_neg hr, if_neg hr]
    dsimp only
    rw [if_neg (by decide)]
theorem refspans_eq (L : List S37) (h : Int) (hl : L.length ≤ 4398046511104) (hs : rightL 0 L = true → ∀ p ∈ L, (givesS p h).size ≤ 140737488355328) (k : Nat) (hk : 3 * L.length + 300 ≤ k) : siglumref06_Spans.f k L h = some (spansP h L) := by
  unfold siglumref06_Spans.f
  rw [refread_eq L h hl hs k hk, Option.bind_some]
  unfold readP spansP
  by_cases hr : rightL 0 L = true
  · rw [if_pos hr, if_pos hr]
    by_cases hh : 0 ≤ h ∧ h < 4
    · rw [if_pos hh, if_pos hh]
      have hi := okG_spans h L 0 []
      by_cases ho : okG h L 0 = true
      · rw [if_pos ho]
        dsimp only
        rw [if_pos rfl, if_pos ⟨fun p hp => by
          obtain ⟨b, hb⟩ := right_mem L 0 hr p hp
          exact refgives_eq b p h hh.1 hb k (by omega), by omega, by rw [hi]; exact ho⟩]
      · rw [if_neg ho]
        dsimp only
        rw [if_neg (by decide)]
        cases hg : spansG h L 0 [] with
        | none => rfl
        | some q =>
          rw [hg] at hi
          exact absurd hi.symm ho
    · rw [if_neg hh, if_neg hh]
      dsimp only
      rw [if_neg (by decide)]
  · rw [if_neg hr, if_neg hr]
    dsimp only
    rw [if_neg (by decide)]
theorem spansG_len (h : Int) : ∀ (L : List S37) (a : Int) (acc q : List (Int × Int)), spansG h L a acc = some q → q.length = acc.length + L.length
  | [], a, acc, q, hq => by
    unfold spansG at hq
    rw [Option.some.inj hq]
    rfl
  | p :: l, a, acc, q, hq => by
    unfold spansG at hq
    split at hq
    · cases hq
    · have := spansG_len h l _ _ q hq
      rw [this, List.length_append]
      simp
      omega
theorem spansP_len (h : Int) (L : List S37) : (spansP h L).1.length ≤ L.length := by
  unfold spansP
  split
  · split
    · cases hg : spansG h L 0 [] with
      | none => exact Nat.zero_le _
      | some q =>
        have := spansG_len h L 0 [] q hg
        show q.length ≤ _
        rw [this]
        simp
    · exact Nat.zero_le _
  · exact Nat.zero_le _
theorem HandSpansP (L : List S37) (h : Int) (hl : L.length ≤ 4398046511104) (hs : rightL 0 L = true → ∀ p ∈ L, (givesS p h).size ≤ 140737488355328) : ∃ k, siglumlaw06_HandSpans.f k L h = some true := by
  refine ⟨3 * L.length + 300, ?_⟩
  have hz := spansP_len h L
  unfold siglumlaw06_HandSpans.f
  rw [awake6 _ (by omega), Option.bind_some, if_pos rfl, spans_eq L h hl hs _ (by omega), Option.bind_some, refspans_eq L h hl hs _ (by omega), Option.bind_some, if_pos ⟨rfl, by omega⟩]
theorem HandSpans (L : List S37) (h : Int) (g : (∀ y ∈ L, (((Lit.int .i64 y.f0).wf = true) ∧ ((∀ z ∈ y.f1, (z.size ≤ 140737488351232)) ∧ y.f1.length * 16 ≤ 140737488351232) ∧ ((Lit.int .i64 y.f2).wf = true))) ∧ L.length * 40 ≤ 140737488351232) (_ : (Lit.int .i64 h).wf = true) : ∃ k, siglumlaw06_HandSpans.f k L h = some true :=
  HandSpansP L h (by omega) fun hr p hp => by
    obtain ⟨b, hb⟩ := right_mem L 0 hr p hp
    exact gives_size b p h hb (g.1 p hp).2.1.1
end Go.Proofs.Ytpmiaaphmgoapaa.Pure
