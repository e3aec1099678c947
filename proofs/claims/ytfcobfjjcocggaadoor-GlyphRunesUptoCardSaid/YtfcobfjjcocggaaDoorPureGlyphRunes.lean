/-
  Texts as lists of runes, and lists of runes as texts; there and back where no byte is bad, and only there.
-/
import Derived.Test.YtfcobfjjcocggaaDoorPureGlyphCells
import Derived.Test.YtfcobfjjcocggaaDoorQx25
import Derived.Test.YtfcobfjjcocggaaDoorQx26
import Derived.Test.YtfcobfjjcocggaaDoorQx27
namespace Go.Proofs.YtfcobfjjcocggaaDoor.Pure
open Go.RowKit Go.Proofs.YtfcobfjjcocggaaDoor.Q Go.Proofs.YtfcobfjjcocggaaDoorW.PrintWords Go.Proofs.YtfcobfjjcocggaaDoorW.PrintLast

theorem rd_get (l : List Int) (i : Nat) (h : i < l.length) : rd l (i : Int) = l[i] := by
  unfold rd
  rw [Int.toNat_natCast, List.getD_eq_getElem?_getD, List.getElem?_eq_getElem h]
  rfl
theorem back_len (s : ByteArray) : ∀ f i, s.size ≤ i + f → i ≤ s.size →
    (gBack ((gCells s f i).map (fun c => c.f2))).length = s.size - i + 2 * ((gCells s f i).filter (fun c => c.f3)).length
  | 0, i, h, _ => by simp [gCells, gBack]; omega
  | f + 1, i, h, hi0 => by
    by_cases hi : i < s.size
    · have h1 := Utf.width_pos s i hi
      have h2 := Utf.width_le s i hi
      have ih := back_len s f (i + (Utf8.decode s i).2) (by omega) (by omega)
      rw [gCells_step s f i hi]
      unfold gBack at ih ⊢
      rw [List.map_cons, List.flatMap_cons, List.length_append, ih, List.filter_cons]
      have e3 : (gCell s i).f2 = ((Utf8.decode s i).1 : Int) := rfl
      have e4 : (gCell s i).f3 = Utf.bad s i := rfl
      rw [e3, e4]
      cases hb : Utf.bad s i
      · rw [Utf.encode_bytes s i hi hb, if_neg (by decide), List.length_take, List.length_drop, Array.length_toList]
        have : s.data.size = s.size := rfl
        omega
      · have := (Utf.bad_iff s i).1 hb
        rw [this.1, this.2] at *
        rw [if_pos rfl, List.length_cons]
        have e5 : (Utf8.encode ((65533 : Nat) : Int)).data.toList.length = 3 := by decide
        rw [e5]
        omega
    · rw [gCells_end s _ i hi]
      simp [gBack]
      omega
theorem back_good : ∀ L : List S30, L.all (fun c => !c.f3) = true → gBack (L.map (fun c => c.f2)) = gText L
  | [], _ => rfl
  | c :: L, h => by
    rw [List.all_cons, Bool.and_eq_true] at h
    have ih := back_good L h.2
    have e : cBytes c = (Utf8.encode c.f2).data.toList := by
      unfold cBytes
      rw [if_neg (by simpa using h.1)]
    unfold gBack gText at ih ⊢
    rw [List.map_cons, List.flatMap_cons, List.flatMap_cons, ih, e]
/-- There and back: just where no cell is bad. -/
theorem back_iff (s : ByteArray) : ((⟨(gBack ((gCells s s.size 0).map (fun c => c.f2))).toArray⟩ : ByteArray).toList == s.toList) = (gCells s s.size 0).all (fun c => !c.f3) := by
  rw [Bool.eq_iff_iff, beq_iff_eq]
  constructor
  · intro h
    have hl := back_len s s.size 0 (by omega) (by omega)
    have e : (gBack ((gCells s s.size 0).map (fun c => c.f2))).length = s.size := by
      have := congrArg List.length h
      simp only [ByteArray.toList_eq] at this
      simpa using this
    have hz : ((gCells s s.size 0).filter (fun c => c.f3)).length = 0 := by omega
    rw [List.all_eq_true]
    intro c hc
    have := List.filter_eq_nil_iff.1 (List.eq_nil_of_length_eq_zero hz) c hc
    simpa using this
  · intro h
    rw [back_good _ h, Pl.text_back]
theorem runes_loop (s : ByteArray) (rs l : List Int) (L : List S30) (hL : l = L.map (fun c => c.f2)) (hl : L.length ≤ 4294967296) : ∀ (d i k : Nat), i + d = L.length → 1 ≤ k →
    siglumlaw01_GlyphRunes.l0 (k + d) s rs l L (l.length : Int) (i : Int) = siglumlaw01_GlyphRunes.l0 k s rs l L (l.length : Int) (l.length : Int)
  | 0, i, k, hd, hk => by
    have : i = l.length := by rw [hL, List.length_map]; omega
    rw [this]; rfl
  | d + 1, i, k, hd, hk => by
    have hln : l.length = L.length := by rw [hL, List.length_map]
    have hi : i < L.length := by omega
    have hi2 : i < l.length := by omega
    have e2 : ((i + 1 : Nat) : Int) = (i : Int) + 1 := by omega
    have e : l[i] = L[i].f2 := by simp only [hL, List.getElem_map]
    rw [show k + (d + 1) = k + d + 1 from by omega, siglumlaw01_GlyphRunes.l0, if_pos (by omega), if_pos (by omega), if_pos (by omega), if_pos (by omega), Pl.get_rd L i hi, rd_get l i hi2, if_pos e, Pl.wrap_small _ (by omega) (by omega), ← e2]
    exact runes_loop s rs l L hL hl d (i + 1) k (by omega) hk
theorem refback_loop (R : List Int) (hl : R.length ≤ 4294967296) : ∀ (d i k : Nat) (acc : List Int), i + d = R.length → acc.length ≤ 4 * i → d + 5 ≤ k →
    siglumref01_Back.l0 k R acc (i : Int) = some (strOfNums (acc ++ (R.drop i).flatMap Lib.encodeRuneZ))
  | 0, i, k, acc, hd, ha, hk => by
    obtain ⟨k, rfl⟩ : ∃ m, k = m + 1 := ⟨k - 1, by omega⟩
    rw [siglumref01_Back.l0, if_neg (by omega), List.drop_of_length_le (by omega)]
    simp
  | d + 1, i, k, acc, hd, ha, hk => by
    obtain ⟨k, rfl⟩ : ∃ m, k = m + 1 := ⟨k - 1, by omega⟩
    have hi : i < R.length := by omega
    have e2 : ((i + 1 : Nat) : Int) = (i : Int) + 1 := by omega
    have hc := (Lib.encodeRuneZ_length R[i]).2
    rw [siglumref01_Back.l0, if_pos (by omega), if_pos (by omega), rd_get R i hi, Pl.written_ge _ _ (by omega), Pl.wrap_small _ (by omega) (by omega), ← e2, List.drop_eq_getElem_cons hi, List.flatMap_cons]
    simp only [Option.bind_some]
    rw [if_pos (by omega), refback_loop R hl d (i + 1) k _ (by omega) (by rw [List.length_append]; omega) (by omega), List.append_assoc]
theorem back_bytes : ∀ R : List Int, (strOfNums (R.flatMap Lib.encodeRuneZ)).data.toList = gBack R
  | [] => rfl
  | c :: R => by
    have ih := back_bytes R
    unfold gBack at ih ⊢
    rw [List.flatMap_cons, List.flatMap_cons, Pl.strOf_append, ih, Pl.strOf_rune]
theorem sum_ones : ∀ l : List Int, (l.map fun _ => 1).sum = l.length
  | [] => rfl
  | _ :: l => by rw [List.map_cons, List.sum_cons, sum_ones l, List.length_cons]; omega
theorem GlyphRunes (a0 : ByteArray) (l1 : List Int) (_ : a0.size ≤ maxLen) (_ : (∀ y ∈ l1, ((Lit.int .i32 y).wf = true)) ∧ l1.length ≤ maxLen) (hb : (a0.size + 1) + ((l1.map fun _ => 1).sum + 1) ≤ 1048576) : ∃ k, siglumlaw01_GlyphRunes.f k a0 l1 = some true := by
  have hsum := sum_ones l1
  refine ⟨(a0.size + l1.length + 40) + (gCells a0 a0.size 0).length, ?_⟩
  have hs : a0.size ≤ 4294967296 := by omega
  have hl := Pl.cells_le a0
  have hloop := runes_loop a0 l1 _ (gCells a0 a0.size 0) rfl (by omega) (gCells a0 a0.size 0).length 0 (a0.size + l1.length + 40) (by omega) (by omega)
  have hbk := refback_loop l1 (by omega) l1.length 0 (a0.size + l1.length + 39) [] (by omega) (by simp) (by omega)
  simp only [Int.natCast_zero, List.nil_append, List.drop_zero] at hbk hloop
  unfold siglumlaw01_GlyphRunes.f glyph_Runes.f
  rw [awake1, Pl.cells_eq _ a0 hs (by omega), if_pos hs, Pl.runes_cells]
  simp only [Option.bind_some, if_true]
  rw [if_pos (by rw [List.length_map]), hloop, siglumlaw01_GlyphRunes.l0, if_neg (by omega)]
  unfold glyph_Back.f siglumref01_Back.f
  rw [refvalid a0 hs _ (by omega), hbk]
  simp only [Option.bind_some]
  rw [back_iff, if_pos (by simp)]
  have : strOfNums (l1.flatMap Lib.encodeRuneZ) = (⟨(gBack l1).toArray⟩ : ByteArray) := ba_ext _ _ (by rw [back_bytes])
  rw [this]
  simp
end Go.Proofs.YtfcobfjjcocggaaDoor.Pure
