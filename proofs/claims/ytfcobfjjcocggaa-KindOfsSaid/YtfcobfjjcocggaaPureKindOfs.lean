/-
  Every number's kind: kind.Of and the document's table answer alike. For every list of numbers of the range that Go's rune has.
-/
import Derived.Test.YtfcobfjjcocggaaPKindOfsKind
import Derived.Test.YtfcobfjjcocggaaPKindOfsx3
namespace Go.Proofs.Ytfcobfjjcocggaa.Pure
open Go.RowKit Go.Proofs.Ytfcobfjjcocggaa.PKindOfs Go.Proofs.YtfcobfjjcocggaaW.PrintWords Go.Proofs.YtfcobfjjcocggaaW.PrintLast

theorem ofs_from (l : List Int) (hl : l.length ≤ 140737488351232) : ∀ (d k : Nat) (i : Int), 0 ≤ i → (l.length : Int) - i = d → d + 16 < k → siglumlaw02_KindOfs.l0 k l (l.length : Int) i = some true
  | 0, k, i, h0, hd, hk => by
    obtain ⟨k, rfl⟩ : ∃ m, k = m + 1 := ⟨k - 1, by omega⟩
    rw [siglumlaw02_KindOfs.l0, if_neg (by omega)]
  | d + 1, k, i, h0, hd, hk => by
    obtain ⟨k, rfl⟩ : ∃ m, k = m + 1 := ⟨k - 1, by omega⟩
    rw [siglumlaw02_KindOfs.l0, if_pos (by omega), if_pos h0, if_pos (by omega), Pl.of_ge _ _ (by omega), Pl.ref_ge _ _ (by omega)]
    simp only [Option.bind_some, if_true]
    rw [Pl.wrap_id (i + 1) (by omega) (by omega)]
    exact ofs_from l hl d k (i + 1) (by omega) (by omega) (by omega)

theorem KindOfs (l0 : List Int) (_ : (∀ y ∈ l0, (Lit.int .i32 y).wf = true) ∧ l0.length ≤ maxLen) (hw : l0.length * 4 ≤ 140737488351232) : ∃ k, siglumlaw02_KindOfs.f k l0 = some true := by
  refine ⟨l0.length + 20, ?_⟩
  unfold siglumlaw02_KindOfs.f
  rw [Pl.awake_ge _ (by omega)]
  simp only [Option.bind_some, if_true]
  exact ofs_from l0 (by omega) l0.length _ 0 (by omega) (by omega) (by omega)

end Go.Proofs.Ytfcobfjjcocggaa.Pure
