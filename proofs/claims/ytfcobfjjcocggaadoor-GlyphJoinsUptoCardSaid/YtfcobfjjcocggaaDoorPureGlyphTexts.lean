/-
  Every list of cells: glyph.Text and the document's Text write the same bytes.
-/
import Derived.Test.YtfcobfjjcocggaaDoorQFacts
import Derived.Test.YtfcobfjjcocggaaDoorQx4
import Derived.Test.YtfcobfjjcocggaaDoorQx5
namespace Go.Proofs.YtfcobfjjcocggaaDoor.Pure
open Go.RowKit Go.Proofs.YtfcobfjjcocggaaDoor.Q Go.Proofs.YtfcobfjjcocggaaDoorW.PrintWords Go.Proofs.YtfcobfjjcocggaaDoorW.PrintLast

set_option maxRecDepth 100000 in
theorem awake1 : siglumlaw01_awake.f = some true := by kernel_rfl
def cN (c : S30) : List Int := if c.f3 = true then [c.f4] else Lib.encodeRuneZ c.f2
theorem cN_len (c : S30) : (cN c).length ≤ 4 := by
  unfold cN
  split
  · simp
  · exact (Lib.encodeRuneZ_length _).2
theorem cN_bytes (c : S30) : (strOfNums (cN c)).data.toList = cBytes c := by
  unfold cN cBytes
  split
  · rfl
  · exact Pl.strOf_rune _
theorem text_loop (L : List S30) (hl : L.length ≤ 5864062014805) : ∀ (d i k : Nat) (acc : List Int), i + d = L.length → acc.length ≤ 4 * i → d + 5 ≤ k →
    siglumref01_Text.l0 k L acc (i : Int) = some (strOfNums (acc ++ (L.drop i).flatMap cN))
  | 0, i, k, acc, hd, ha, hk => by
    obtain ⟨k, rfl⟩ : ∃ m, k = m + 1 := ⟨k - 1, by omega⟩
    rw [siglumref01_Text.l0, if_neg (by omega), List.drop_of_length_le (by omega)]
    simp
  | d + 1, i, k, acc, hd, ha, hk => by
    obtain ⟨k, rfl⟩ : ∃ m, k = m + 1 := ⟨k - 1, by omega⟩
    have hi : i < L.length := by omega
    have e2 : ((i + 1 : Nat) : Int) = (i : Int) + 1 := by omega
    have hc := cN_len L[i]
    rw [siglumref01_Text.l0, if_pos (by omega), if_pos (by omega), Pl.get_rd L i hi, Pl.wrap_small _ (by omega) (by omega), ← e2, List.drop_eq_getElem_cons hi, List.flatMap_cons]
    by_cases hb : L[i].f3 = true
    · rw [if_pos hb, if_pos (by omega), text_loop L hl d (i + 1) k _ (by omega) (by simp; omega) (by omega)]
      have : cN L[i] = [L[i].f4] := by rw [cN, if_pos hb]
      rw [this, List.append_assoc]
    · have : cN L[i] = Lib.encodeRuneZ L[i].f2 := by rw [cN, if_neg hb]
      rw [this] at hc ⊢
      rw [if_neg hb, Pl.written_ge _ _ (by omega)]
      simp only [Option.bind_some]
      rw [if_pos (by omega), text_loop L hl d (i + 1) k _ (by omega) (by rw [List.length_append]; omega) (by omega), List.append_assoc]
theorem flat_bytes : ∀ L : List S30, (strOfNums (L.flatMap cN)).data.toList = gText L
  | [] => rfl
  | c :: L => by
    have ih := flat_bytes L
    unfold gText at ih ⊢
    rw [List.flatMap_cons, List.flatMap_cons, Pl.strOf_append, ih, cN_bytes]
theorem ba_ext (a b : ByteArray) (h : a.data.toList = b.data.toList) : a = b := by
  cases a; cases b
  congr 1
  exact Array.toList_inj.1 h
theorem text_eq (L : List S30) : strOfNums (L.flatMap cN) = (⟨(gText L).toArray⟩ : ByteArray) := ba_ext _ _ (by rw [flat_bytes])
theorem GlyphTexts (l0 : List S30) (hw : (∀ y ∈ l0, ((Lit.int .i64 y.f0).wf = true) ∧ ((Lit.int .i64 y.f1).wf = true) ∧ ((Lit.int .i32 y.f2).wf = true) ∧ True ∧ ((Lit.int .u8 y.f4).wf = true)) ∧ l0.length ≤ maxLen) (hb : l0.length * 24 ≤ 140737488351232) : ∃ k, siglumlaw01_GlyphTexts.f k l0 = some true := by
  refine ⟨l0.length + 10, ?_⟩
  have hl : l0.length ≤ 5864062014805 := by omega
  have hr : ∀ c ∈ l0, 0 ≤ c.f4 ∧ c.f4 < 256 := fun c hc => by
    have := (hw.1 c hc).2.2.2.2
    simp [Lit.wf, IntKind.min, IntKind.max, IntKind.bits, IntKind.signed] at this
    omega
  have := text_loop l0 hl l0.length 0 (l0.length + 10) [] (by omega) (by simp) (by omega)
  simp only [Int.natCast_zero, List.nil_append, List.drop_zero] at this
  unfold siglumlaw01_GlyphTexts.f siglumref01_Text.f glyph_Text.f
  rw [awake1, if_pos ⟨hl, hr⟩, this, text_eq]
  simp
end Go.Proofs.YtfcobfjjcocggaaDoor.Pure
