/-
  The document's tokens, cell by cell, are the program's: both as one plain function of the cells' kinds.
-/
import Derived.Test.YtalogampkkjcdaaDoorFFacts
import Derived.Test.YtalogampkkjcdaaDoorFKind
import Derived.Test.YtalogampkkjcdaaDoorFx7
namespace Go.Proofs.YtalogampkkjcdaaDoor.Pure
open Go.RowKit Go.Proofs.YtalogampkkjcdaaDoor.F Go.Proofs.YtalogampkkjcdaaDoorW.PrintWords Go.Proofs.YtalogampkkjcdaaDoorW.PrintLast

/-- A cell's kind. -/
def kc (c : S75) : Int := if c.f3 = true then 1 else kindOf' c.f2
  where kindOf' := Pl.kindOf
theorem cell_kc (k : Nat) (c : S75) (h : 8 ≤ k) : kind_Cell.f k c.f0 c.f1 c.f2 c.f3 c.f4 = some (kc c) := Pl.cell_ge k _ _ _ _ _ h
/-- The kinds of cells, and what stands behind them. -/
def kinds (L : List S75) : List Int := L.map kc ++ [-1]
theorem kindsL_map : ∀ L : List S75, kindsL L = some (L.map kc)
  | [] => rfl
  | c :: L => by rw [kindsL, cell_kc 16 c (by omega), Option.bind_some, kindsL_map L]; rfl
/-- A text's tokens. -/
def toks (s : ByteArray) : List S51 := tokL s 0 (gCells s s.size 0) (kinds (gCells s s.size 0)) (gCells s s.size 0).length 0
theorem scan_some (s : ByteArray) (h : s.size ≤ 65536) : scan_Tokens.f s = some (toks s, 0) := by
  unfold scan_Tokens.f scan_tokens.f
  rw [if_neg (by omega), if_pos ⟨by omega, by omega, by omega⟩, kindsL_map]
  rfl
theorem scan_long (s : ByteArray) (h : ¬ s.size ≤ 65536) : scan_Tokens.f s = some ([], 1) := by
  unfold scan_Tokens.f
  rw [if_pos (by omega)]
section
variable (L : List S75)
theorem kinds_len : (kinds L).length = L.length + 1 := by simp [kinds]
theorem kinds_at (i : Nat) (h : i < L.length) : rd (kinds L) (i : Int) = kc L[i] := by
  rw [rd_get _ i (by rw [kinds_len]; omega)]
  unfold kinds
  rw [List.getElem_append_left (by simpa using h), List.getElem_map]
theorem kinds_last : rd (kinds L) (L.length : Int) = -1 := by
  rw [rd_get _ L.length (by rw [kinds_len]; omega)]
  unfold kinds
  rw [List.getElem_append_right (by simp)]
  simp
theorem kinds_rest (i : Nat) (h : L.length ≤ i) : rd (kinds L) (i : Int) = -1 ∨ rd (kinds L) (i : Int) = 0 := kinds_end (L.map kc) L.length (List.length_map _) i h
theorem kinds_dead (i : Nat) (h : L.length ≤ i) : wordyB (rd (kinds L) (i : Int)) = false ∧ rd (kinds L) (i : Int) ≠ 4 ∧ rd (kinds L) (i : Int) ≠ 5 := by
  rcases kinds_rest L i h with e | e <;> (rw [e]; decide)
end
theorem toks_len (s : ByteArray) : (toks s).length ≤ (gCells s s.size 0).length := by
  have : ∀ (L : List S75) (K : List Int) f i, (tokL s 0 L K f i).length ≤ f := by
    intro L K f
    induction f with
    | zero => intro i; exact Nat.le_refl _
    | succ f ih =>
      intro i
      unfold tokL
      split
      · rw [List.length_cons]; exact Nat.succ_le_succ (ih _)
      · exact Nat.zero_le _
  exact this _ _ _ _
theorem scan_awake : siglumlaw04_awake.f = some true := by decide +kernel
end Go.Proofs.YtalogampkkjcdaaDoor.Pure
