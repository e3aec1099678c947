/-
  A distance is no less than the lengths differ, no more than the greater one; with the same text behind both it is no greater.
-/
import Derived.Test.YtalogampkkjcdaaDoorPureDistAwake
import Derived.Test.YtalogampkkjcdaaDoorUx10
namespace Go.Proofs.YtalogampkkjcdaaDoor.Pure
open Go.RowKit Go.Proofs.YtalogampkkjcdaaDoor.U Go.Proofs.YtalogampkkjcdaaDoorW.PrintWords Go.Proofs.YtalogampkkjcdaaDoorW.PrintLast Go.Proofs.YtalogampkkjcdaaDoorW.PrintMore
theorem valid_loop (L : List S75) (hl : L.length ≤ 4294967296) : ∀ (d i k : Nat), i + d = L.length → d + 1 ≤ k →
    siglumref01_Valid.l0 k L (i : Int) = some ((L.drop i).all (fun c => !c.f3))
  | 0, i, k, hd, hk => by
    obtain ⟨k, rfl⟩ : ∃ m, k = m + 1 := ⟨k - 1, by omega⟩
    rw [siglumref01_Valid.l0, if_neg (by omega), List.drop_of_length_le (by omega)]
    rfl
  | d + 1, i, k, hd, hk => by
    obtain ⟨k, rfl⟩ : ∃ m, k = m + 1 := ⟨k - 1, by omega⟩
    have hi : i < L.length := by omega
    have e2 : ((i + 1 : Nat) : Int) = (i : Int) + 1 := by omega
    rw [siglumref01_Valid.l0, if_pos (by omega), if_pos (by omega), Pl.get_rd L i hi, Pl.wrap_small _ (by omega) (by omega), ← e2, List.drop_eq_getElem_cons hi, List.all_cons]
    by_cases h : L[i].f3 = true
    · rw [if_pos h, h]; rfl
    · rw [if_neg h, valid_loop L hl d (i + 1) k (by omega) (by omega)]
      simp at h
      rw [h]; rfl
theorem refvalid (s : ByteArray) (hs : s.size ≤ 4294967296) (k : Nat) (hk : s.size + 12 ≤ k) : siglumref01_Valid.f k s = some ((gCells s s.size 0).all (fun c => !c.f3)) := by
  have hl := Pl.cells_le s
  unfold siglumref01_Valid.f
  rw [Pl.cells_eq k s hs hk, Option.bind_some]
  have := valid_loop (gCells s s.size 0) (by omega) (gCells s s.size 0).length 0 k (by omega) (by omega)
  simpa using this
/-- The bytes of the pieces from a place on. -/
def cbf (s : ByteArray) (f i : Nat) : List (List UInt8) := (gCells s f i).map (fun c => (pc s c).toList)
theorem cb_f (s : ByteArray) : cb s = cbf s s.size 0 := by unfold cb pcs cbf; rw [List.map_map]; rfl
theorem cbf_step (s : ByteArray) (f i : Nat) (h : i < s.size) : cbf s (f + 1) i = (s.data.toList.drop i).take (Utf8.decode s i).2 :: cbf s f (i + (Utf8.decode s i).2) := by
  unfold cbf
  rw [gCells_step s f i h, List.map_cons, piece_bytes]
theorem cbf_end (s : ByteArray) (f i : Nat) (h : ¬ i < s.size) : cbf s f i = [] := by unfold cbf; rw [gCells_end s f i h]; rfl
theorem app_data (a c : ByteArray) : (a ++ c).data.toList = a.data.toList ++ c.data.toList := by simp [ByteArray.data_append]
theorem app_size (a c : ByteArray) : (a ++ c).size = a.size + c.size := ByteArray.size_append
theorem app_tail (a c : ByteArray) : (a ++ c).extract a.size (a ++ c).size = c := by
  apply ByteArray.ext
  apply Array.ext'
  rw [ByteArray.data_extract]
  have h1 : a.data.size = a.size := rfl
  have h2 : (a ++ c).size = a.size + c.size := app_size a c
  have h3 : c.data.size = c.size := rfl
  simp only [List.extract_eq_take_drop, Array.toList_extract, app_data, h2]
  rw [List.drop_append, List.drop_of_length_le (by rw [Array.length_toList]; omega), List.nil_append, Array.length_toList, h1, Nat.sub_self, List.drop_zero]
  rw [List.take_of_length_le (by rw [Array.length_toList]; omega)]
theorem dec_tail (a c : ByteArray) (j : Nat) : Utf8.decode (a ++ c) (a.size + j) = Utf8.decode c j := by
  have := Utf.decode_tail (a ++ c) a.size j
  rw [app_tail] at this
  exact this.symm
theorem cbf_tail (a c : ByteArray) : ∀ f j, cbf (a ++ c) f (a.size + j) = cbf c f j
  | 0, _ => rfl
  | f + 1, j => by
    have hs := app_size a c
    by_cases h : j < c.size
    · rw [cbf_step _ f _ (by omega), cbf_step c f j h, dec_tail, Nat.add_assoc, cbf_tail a c f, app_data]
      congr 2
      rw [List.drop_append, List.drop_of_length_le (by rw [Array.length_toList]; have : a.data.size = a.size := rfl; omega), List.nil_append]
      congr 1
      rw [Array.length_toList]
      have : a.data.size = a.size := rfl
      omega
    · rw [cbf_end _ _ _ (by omega), cbf_end c _ j h]
theorem app_get (a c : ByteArray) (i : Nat) (h : i < a.size) : (a ++ c).get! i = a.get! i := by
  have hs := app_size a c
  have h1 := get_data (a ++ c) i (by omega)
  have h2 := get_data a i h
  rw [app_data, List.getElem?_append_left (by rw [Array.length_toList]; exact h), h2] at h1
  exact (Option.some.inj h1).symm
theorem cbf_head (a c : ByteArray) : ∀ f i g, i ≤ a.size → a.size ≤ i + f → (a ++ c).size ≤ i + g → (gCells a f i).all (fun c => !c.f3) = true → cbf (a ++ c) g i = cbf a f i ++ cb c
  | f, i, g, hi, hf, hg, hv => by
    have hs := app_size a c
    by_cases h : i < a.size
    · obtain ⟨f, rfl⟩ : ∃ m, f = m + 1 := ⟨f - 1, by omega⟩
      obtain ⟨g, rfl⟩ : ∃ m, g = m + 1 := ⟨g - 1, by omega⟩
      have hw1 := Utf.width_pos a i h
      have hw2 := Utf.width_le a i h
      rw [gCells_step a f i h, List.all_cons, Bool.and_eq_true] at hv
      have hb : Utf.bad a i = false := by
        have := hv.1
        simpa [gCell] using this
      have hd : Utf8.decode (a ++ c) i = Utf8.decode a i := dec_piece a (a ++ c) i i h (by omega) hb (fun q hq => ⟨by omega, (app_get a c (i + q) (by omega)).symm⟩)
      rw [cbf_step _ g i (by omega), cbf_step a f i h, hd, cbf_head a c f _ g hw2 (by omega) (by omega) hv.2, app_data, List.cons_append]
      congr 1
      rw [List.drop_append_of_le_length (by rw [Array.length_toList]; have : a.data.size = a.size := rfl; omega), List.take_append_of_le_length (by rw [List.length_drop, Array.length_toList]; have : a.data.size = a.size := rfl; omega)]
    · obtain rfl : i = a.size := by omega
      rw [cbf_end a f _ h, List.nil_append, cb_f, ← Nat.add_zero a.size, cbf_tail]
      unfold cbf
      rw [gCells_more c g c.size 0 (by omega) (by omega)]
termination_by f => f
theorem cb_append (a c : ByteArray) (hv : (gCells a a.size 0).all (fun c => !c.f3) = true) : cb (a ++ c) = cb a ++ cb c := by
  rw [cb_f (a ++ c), cb_f a]
  exact cbf_head a c a.size 0 _ (by omega) (by omega) (by omega) hv
theorem DistBounds (a0 a1 a2 : ByteArray) (_ : a0.size ≤ maxLen) (_ : a1.size ≤ maxLen) (_ : a2.size ≤ maxLen) (hb : (a0.size + 1) + (a1.size + 1) + (a2.size + 1) ≤ 1048576) : ∃ k, siglumlaw08_DistBounds.f k a0 a1 a2 = some true := by
  have h0 : a0.size ≤ 4294967296 := by omega
  have h1 : a1.size ≤ 4294967296 := by omega
  have h2 : a2.size ≤ 4294967296 := by omega
  have s02 := app_size a0 a2
  have s12 := app_size a1 a2
  have k01 : kOf a0 a1 ≤ 3999999 := by unfold kOf; omega
  have k2 : kOf (a0 ++ a2) (a1 ++ a2) ≤ 3999999 := by unfold kOf; omega
  refine ⟨3999999 + 1, ?_⟩
  unfold siglumlaw08_DistBounds.f
  rw [awake8 _ (by decide), Option.bind_some, if_pos rfl, Pl.cells_eq _ a0 h0 (by omega), Option.bind_some, Pl.cells_eq _ a1 h1 (by omega), Option.bind_some, of_eq a0 a1 h0 h1 _ (by omega), Option.bind_some, ← cb_len, ← cb_len]
  by_cases hl : (cb a0).length ≤ 256 ∧ (cb a1).length ≤ 256
  · have hd : dOf a0 a1 = (((Lv.lev (cb a0) (cb a1) : Nat) : Int), 0) := by unfold dOf; rw [if_pos hl]
    rw [hd]
    dsimp only
    have m1 := Lv.lev_max (cb a0) (cb a1)
    have m2 := Lv.lev_len (cb a0) (cb a1)
    have hj : siglumlaw08_DistBounds.j0 (3999999 + 1) a0 a1 a2 ((Lv.lev (cb a0) (cb a1) : Nat) : Int) false = some true := by
      rw [siglumlaw08_DistBounds.j0, if_neg (by simp), refvalid a0 h0 _ (by omega), Option.bind_some]
      by_cases v0 : (gCells a0 a0.size 0).all (fun c => !c.f3) = true
      · rw [if_pos v0, refvalid a1 h1 _ (by omega), Option.bind_some]
        by_cases v1 : (gCells a1 a1.size 0).all (fun c => !c.f3) = true
        · rw [if_pos v1, refvalid a2 h2 _ (by omega), Option.bind_some]
          by_cases v2 : (gCells a2 a2.size 0).all (fun c => !c.f3) = true
          · rw [if_pos v2]
            by_cases hz : (a2.size : Int) > 1000
            · rw [if_pos hz]
            · rw [if_neg hz, if_pos (by omega), if_pos (by omega), of_eq (a0 ++ a2) (a1 ++ a2) (by omega) (by omega) _ k2, Option.bind_some]
              unfold dOf
              have ap := Lv.lev_append_le (cb a0) (cb a1) (cb a2)
              rw [cb_append a0 a2 v0, cb_append a1 a2 v1]
              by_cases hl2 : (cb a0 ++ cb a2).length ≤ 256 ∧ (cb a1 ++ cb a2).length ≤ 256
              · rw [if_pos hl2, if_neg (show ¬ ((0 : Int) = 1) by decide), if_pos rfl, decide_eq_true (Int.ofNat_le.2 ap)]
              · rw [if_neg hl2, if_pos rfl]
          · rw [if_neg v2]
        · rw [if_neg v1]
      · rw [if_neg v0]
    obtain ⟨x, hx⟩ : ∃ x, Lv.lev (cb a0) (cb a1) = x := ⟨_, rfl⟩
    rw [hx] at m1 m2 hj ⊢
    have w1 : Aside0 (wrap64 (((cb a0).length : Int) - ((cb a1).length : Int)) = ((cb a0).length : Int) - ((cb a1).length : Int)) := ⟨ws _ (by omega) (by omega)⟩
    have w2 : Aside0 (wrap64 (((cb a1).length : Int) - ((cb a0).length : Int)) = ((cb a1).length : Int) - ((cb a0).length : Int)) := ⟨ws _ (by omega) (by omega)⟩
    rw [if_pos rfl, mx_eq, if_neg (by omega), w1.out, if_neg (by omega), w2.out, decide_eq_false (by omega)]
    exact hj
  · have hd : dOf a0 a1 = (0, 1) := by unfold dOf; rw [if_neg hl]
    rw [hd]
    dsimp only
    rw [if_neg (by decide), if_pos rfl, if_pos rfl]
    by_cases h : ((cb a0).length : Int) > 256
    · rw [if_pos h]
    · rw [if_neg h, decide_eq_true (by omega)]
end Go.Proofs.YtalogampkkjcdaaDoor.Pure
