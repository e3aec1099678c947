/-
  Every cell's kind: kind.Cell and the document's table answer alike.
-/
import Derived.Test.YtfcobfjjcocggaaPKindCellsKind
import Derived.Test.YtfcobfjjcocggaaPKindCellsx3
namespace Go.Proofs.Ytfcobfjjcocggaa.Pure
open Go.RowKit Go.Proofs.Ytfcobfjjcocggaa.PKindCells Go.Proofs.YtfcobfjjcocggaaW.PrintWords Go.Proofs.YtfcobfjjcocggaaW.PrintLast

theorem cells_from (l : List S28) (hl : l.length ≤ 140737488351232) : ∀ (d k : Nat) (i : Int), 0 ≤ i → (l.length : Int) - i = d → d + 17 < k → siglumlaw02_KindCells.l0 k l (l.length : Int) i = some true
  | 0, k, i, h0, hd, hk => by
    obtain ⟨k, rfl⟩ : ∃ m, k = m + 1 := ⟨k - 1, by omega⟩
    rw [siglumlaw02_KindCells.l0, if_neg (by omega)]
  | d + 1, k, i, h0, hd, hk => by
    obtain ⟨k, rfl⟩ : ∃ m, k = m + 1 := ⟨k - 1, by omega⟩
    rw [siglumlaw02_KindCells.l0, if_pos (by omega), if_pos h0, if_pos (by omega), Pl.cell_ge _ _ _ _ _ _ (by omega), Pl.refcell_ge _ _ _ _ _ _ (by omega)]
    simp only [Option.bind_some, if_true]
    rw [Pl.wrap_id (i + 1) (by omega) (by omega)]
    exact cells_from l hl d k (i + 1) (by omega) (by omega) (by omega)

theorem KindCells (l0 : List S28) (_ : (∀ y ∈ l0, ((Lit.int .i64 y.f0).wf = true) ∧ ((Lit.int .i64 y.f1).wf = true) ∧ ((Lit.int .i32 y.f2).wf = true) ∧ True ∧ ((Lit.int .u8 y.f4).wf = true)) ∧ l0.length ≤ maxLen) (hw : l0.length * 24 ≤ 140737488351232) : ∃ k, siglumlaw02_KindCells.f k l0 = some true := by
  refine ⟨l0.length + 20, ?_⟩
  unfold siglumlaw02_KindCells.f
  rw [Pl.awake_ge _ (by omega)]
  simp only [Option.bind_some, if_true]
  exact cells_from l0 (by omega) l0.length _ 0 (by omega) (by omega) (by omega)

end Go.Proofs.Ytfcobfjjcocggaa.Pure
