import Derived.Test.YtcpbalnbgmjhjaaDoorV616
import Derived.Lib.MapLaws
import Derived.Test.YtcpbalnbgmjhjaaDoorV67
import Derived.Test.YtcpbalnbgmjhjaaDoorV614
import Derived.Test.YtcpbalnbgmjhjaaDoorV65
/-
  A text's pieces (its cells' bytes), as the program has them and as the document has them: two cells are the same just where their bytes are.
-/
namespace Go.Proofs.YtcpbalnbgmjhjaaDoor.Pure
open Go.RowKit Go.Proofs.YtcpbalnbgmjhjaaDoor.Q Go.Proofs.YtcpbalnbgmjhjaaDoorW.PrintWords Go.Proofs.YtcpbalnbgmjhjaaDoorW.PrintLast
theorem ws (x : Int) (h : -9223372036854775808 ≤ x) (h2 : x < 9223372036854775808) : wrap64 x = x := by
  unfold wrap64
  omega
def pc (s : ByteArray) (c : S91) : ByteArray := s.extract c.f0.toNat (c.f0 + c.f1).toNat
def pcs (s : ByteArray) : List ByteArray := (gCells s s.size 0).map (pc s)
def cb (s : ByteArray) : List (List UInt8) := (pcs s).map (·.toList)
theorem pcs_len (s : ByteArray) : (pcs s).length = (gCells s s.size 0).length := by unfold pcs; rw [List.length_map]
theorem cb_len (s : ByteArray) : (cb s).length = (gCells s s.size 0).length := by unfold cb; rw [List.length_map, pcs_len]
theorem cells_range (s : ByteArray) : ∀ f i, i ≤ s.size → ∀ c ∈ gCells s f i, ∃ j, j < s.size ∧ c = gCell s j
  | 0, _, _, c, h => by cases h
  | f + 1, i, hi, c, h => by
    unfold gCells at h
    split at h
    · rename_i hlt
      rcases List.mem_cons.1 h with rfl | h
      · exact ⟨i, hlt, rfl⟩
      · exact cells_range s f _ (Utf.width_le s i hlt) c h
    · cases h
theorem cell_at (s : ByteArray) (i : Nat) (h : i < (gCells s s.size 0).length) : ∃ j, j < s.size ∧ (gCells s s.size 0)[i] = gCell s j :=
  cells_range s s.size 0 (by omega) _ (List.getElem_mem h)
theorem pieces_loop (s : ByteArray) (hs : s.size ≤ 4294967296) (L : List S91) (hl : L.length ≤ 4294967296) (hL : ∀ c ∈ L, ∃ j, j < s.size ∧ c = gCell s j) : ∀ (d i k : Nat) (acc : List ByteArray), i + d = L.length → acc.length = i → d + 1 ≤ k →
    dist_pieces.l0 k s acc L (L.length : Int) (i : Int) = some (acc ++ (L.drop i).map (pc s))
  | 0, i, k, acc, hd, ha, hk => by
    obtain ⟨k, rfl⟩ : ∃ m, k = m + 1 := ⟨k - 1, by omega⟩
    rw [dist_pieces.l0, if_neg (by omega), List.drop_of_length_le (by omega)]
    simp
  | d + 1, i, k, acc, hd, ha, hk => by
    obtain ⟨k, rfl⟩ : ∃ m, k = m + 1 := ⟨k - 1, by omega⟩
    have hi : i < L.length := by omega
    obtain ⟨j, hj, hc⟩ := hL _ (List.getElem_mem hi)
    have e2 : ((i + 1 : Nat) : Int) = (i : Int) + 1 := by omega
    have hw1 := Utf.width_pos s j hj
    have hw2 := Utf.width_le s j hj
    have f0 : (rd_T91 L (i : Int)).f0 = (j : Int) := by rw [Pl.get_rd L i hi, hc]; rfl
    have f1 : (rd_T91 L (i : Int)).f1 = ((Utf8.decode s j).2 : Int) := by rw [Pl.get_rd L i hi, hc]; rfl
    have hp : pc s L[i] = s.extract j (j + (Utf8.decode s j).2) := by
      rw [hc]
      show s.extract ((j : Int)).toNat ((j : Int) + ((Utf8.decode s j).2 : Int)).toNat = _
      rw [Int.toNat_natCast]
      congr 1
    rw [dist_pieces.l0, if_pos (by omega), if_pos (by omega), if_pos (by omega), f0, f1, if_pos (by omega), ws ((j : Int) + _) (by omega) (by omega), if_pos (by omega), if_pos (by omega), if_pos (by omega), ws ((i : Int) + 1) (by omega) (by omega), ← e2]
    rw [pieces_loop s hs L hl hL d (i + 1) k _ (by omega) (by simp; omega) (by omega), List.drop_eq_getElem_cons hi, List.map_cons, hp]
    have e3 : ((j : Int) + ((Utf8.decode s j).2 : Int)).toNat = j + (Utf8.decode s j).2 := by omega
    rw [e3, Int.toNat_natCast]
    simp
theorem pieces_eq (s : ByteArray) (hs : s.size ≤ 4294967296) (k : Nat) (hk : s.size + 1 ≤ k) : dist_pieces.f k s = some (pcs s) := by
  have hl := Pl.cells_le s
  unfold dist_pieces.f glyph_Cells.f
  rw [if_pos hs, Option.bind_some]
  have := pieces_loop s hs (gCells s s.size 0) (by omega) (cells_range s s.size 0 (by omega)) (gCells s s.size 0).length 0 k [] (by omega) rfl (by omega)
  simpa [pcs] using this
theorem both_eq (a b : ByteArray) (ha : a.size ≤ 4294967296) (hb : b.size ≤ 4294967296) (k : Nat) (hk : a.size + 1 ≤ k) (hk2 : b.size + 1 ≤ k) :
    dist_both.f k a b = if (pcs a).length ≤ 256 ∧ (pcs b).length ≤ 256 then some (pcs a, pcs b, 0) else some ([], [], 1) := by
  unfold dist_both.f
  rw [pieces_eq a ha k hk, Option.bind_some, pieces_eq b hb k hk2, Option.bind_some]
  by_cases h1 : (pcs a).length ≤ 256
  · rw [if_neg (by omega)]
    by_cases h2 : (pcs b).length ≤ 256
    · rw [if_neg (by omega), if_pos ⟨h1, h2⟩]
    · rw [if_pos (by omega), if_neg (fun h => h2 h.2)]
  · rw [if_pos (by omega), if_neg (fun h => h1 h.1)]
theorem ext_toList (s : ByteArray) (i n : Nat) : (s.extract i (i + n)).data.toList = (s.data.toList.drop i).take n := by
  rw [ByteArray.data_extract]
  simp [List.extract_eq_take_drop]
theorem toList_data (s : ByteArray) : s.toList = s.data.toList := ByteArray.toList_eq s
theorem piece_bytes (s : ByteArray) (j : Nat) : (pc s (gCell s j)).toList = (s.data.toList.drop j).take (Utf8.decode s j).2 := by
  rw [toList_data]
  show (s.extract ((j : Int)).toNat ((j : Int) + ((Utf8.decode s j).2 : Int)).toNat).data.toList = _
  have e3 : ((j : Int) + ((Utf8.decode s j).2 : Int)).toNat = j + (Utf8.decode s j).2 := by omega
  rw [e3, Int.toNat_natCast, ext_toList]
theorem get_data (s : ByteArray) (i : Nat) (h : i < s.size) : s.data.toList[i]? = some (s.get! i) := by
  rw [Utf.get_lt s i h, List.getElem?_eq_getElem (by simpa using h)]
  rfl
theorem get_piece (s : ByteArray) (i n q : Nat) (h : i + q < s.size) (hq : q < n) : ((s.data.toList.drop i).take n)[q]? = some (s.get! (i + q)) := by
  rw [List.getElem?_take, if_pos hq, List.getElem?_drop, get_data s _ h]
theorem piece_len (s : ByteArray) (i n : Nat) (h : i + n ≤ s.size) : ((s.data.toList.drop i).take n).length = n := by
  rw [List.length_take, List.length_drop]
  have : s.data.toList.length = s.size := by rw [Array.length_toList]; rfl
  omega
theorem good_piece (s : ByteArray) (j : Nat) (hj : j < s.size) (hb : Utf.bad s j = false) : (s.data.toList.drop j).take (Utf8.decode s j).2 = (Utf8.encode ((Utf8.decode s j).1 : Int)).data.toList :=
  (Utf.encode_bytes s j hj hb).symm
theorem good_dec (n n' b0 b1 b2 b3 c1 c2 c3 r k : Nat) (hk : Lib.decodeN n b0 b1 b2 b3 = (r, k)) (hg : ¬ (r = 65533 ∧ k = 1)) (hn : k ≤ n') (e1 : 1 < k → b1 = c1) (e2 : 2 < k → b2 = c2) (e3 : 3 < k → b3 = c3) :
    Lib.decodeN n' b0 c1 c2 c3 = (r, k) := by
  rcases Lib.decodeN_shape n b0 b1 b2 b3 with ⟨q, e⟩ | ⟨q1, q2, q3, q4, e⟩ | ⟨q1, q2, q3, q4, q5, q6, e⟩ | ⟨q1, q2, q3, q4, q5, q6, q7, e⟩ | e
  · rw [hk] at e
    obtain ⟨rfl, rfl⟩ := Prod.mk.inj e
    unfold Lib.decodeN
    rw [if_pos q]
  · rw [hk] at e
    obtain ⟨rfl, rfl⟩ := Prod.mk.inj e
    have := e1 (by omega)
    subst this
    unfold Lib.decodeN
    rw [if_neg (by omega), if_pos ⟨q1, by omega, q3⟩, if_pos q4]
  · rw [hk] at e
    obtain ⟨rfl, rfl⟩ := Prod.mk.inj e
    have := e1 (by omega)
    subst this
    have := e2 (by omega)
    subst this
    unfold Lib.decodeN
    rw [if_neg (by omega), if_neg (by omega), if_pos ⟨q1, ⟨by omega, q3⟩, by omega, q4⟩, if_pos ⟨q5, by omega⟩]
  · rw [hk] at e
    obtain ⟨rfl, rfl⟩ := Prod.mk.inj e
    have := e1 (by omega)
    subst this
    have := e2 (by omega)
    subst this
    have := e3 (by omega)
    subst this
    unfold Lib.decodeN
    rw [if_neg (by omega), if_neg (by omega), if_neg (by omega), if_pos ⟨q1, ⟨by omega, q3⟩, ⟨by omega, q4⟩, by omega, q5⟩, if_pos ⟨q6, by omega⟩]
  · rw [hk] at e
    exact absurd (Prod.mk.inj e) hg
theorem dec_piece (s t : ByteArray) (i j : Nat) (hi : i < s.size) (hj : j < t.size) (hb : Utf.bad s i = false) (he : ∀ q, q < (Utf8.decode s i).2 → j + q < t.size ∧ s.get! (i + q) = t.get! (j + q)) : Utf8.decode t j = Utf8.decode s i := by
  have hw1 := Utf.width_pos s i hi
  have hw2 := Utf.width_le s i hi
  obtain ⟨r, k, hd⟩ : ∃ r k, Utf8.decode s i = (r, k) := ⟨_, _, rfl⟩
  have hg : ¬ (r = 65533 ∧ k = 1) := fun h => by
    have := (Utf.bad_iff s i).2 (by rw [hd]; exact h)
    rw [hb] at this
    cases this
  rw [hd] at he hw1 hw2 ⊢
  dsimp only at he hw1 hw2
  have h0 := he 0 (by omega)
  rw [Lib.decode_at] at hd ⊢
  rw [Nat.add_zero, Nat.add_zero] at h0
  rw [← h0.2]
  exact good_dec _ _ _ _ _ _ _ _ _ r k hd hg (by have := (he (k - 1) (by omega)).1; omega) (fun h => by rw [(he 1 h).2]) (fun h => by rw [(he 2 h).2]) (fun h => by rw [(he 3 h).2])
theorem bytes_at {s t : ByteArray} {i j k m : Nat} (hs : i + k ≤ s.size) (ht : j + m ≤ t.size) (h : (s.data.toList.drop i).take k = (t.data.toList.drop j).take m) : k = m ∧ ∀ q, q < k → s.get! (i + q) = t.get! (j + q) := by
  have hl := congrArg List.length h
  rw [piece_len s i k hs, piece_len t j m ht] at hl
  refine ⟨hl, fun q hq => ?_⟩
  have e : ((s.data.toList.drop i).take k)[q]? = ((t.data.toList.drop j).take m)[q]? := by rw [h]
  rw [get_piece s i k q (by omega) hq, get_piece t j m q (by omega) (by omega)] at e
  exact Option.some.inj e
theorem same_iff (s t : ByteArray) (i j : Nat) (hi : i < s.size) (hj : j < t.size) :
    siglumref08_Same.f (gCell s i).f0 (gCell s i).f1 (gCell s i).f2 (gCell s i).f3 (gCell s i).f4 (gCell t j).f0 (gCell t j).f1 (gCell t j).f2 (gCell t j).f3 (gCell t j).f4 =
      some (decide ((pc s (gCell s i)).toList = (pc t (gCell t j)).toList)) := by
  rw [piece_bytes, piece_bytes]
  have hi1 := Utf.width_le s i hi
  have hj1 := Utf.width_le t j hj
  unfold siglumref08_Same.f
  show (if (Utf.bad s i == Utf.bad t j) = true then (if Utf.bad s i = true then (if (if Utf.bad s i = true then bt s i else 0) = (if Utf.bad t j = true then bt t j else 0) then some true else some false) else some (((Utf8.decode s i).1 : Int) == ((Utf8.decode t j).1 : Int))) else some false) = _
  have key : ∀ (s t : ByteArray) (i j : Nat), i < s.size → j < t.size → Utf.bad s i = false → (s.data.toList.drop i).take (Utf8.decode s i).2 = (t.data.toList.drop j).take (Utf8.decode t j).2 → Utf8.decode t j = Utf8.decode s i := by
    intro s t i j hi hj hb he
    have h := bytes_at (Utf.width_le s i hi) (Utf.width_le t j hj) he
    have := Utf.width_le t j hj
    exact dec_piece s t i j hi hj hb (fun q hq => ⟨by omega, h.2 q hq⟩)
  rcases hbs : Utf.bad s i with _ | _ <;> rcases hbt : Utf.bad t j with _ | _
  · rw [if_pos (by rfl), if_neg (by simp)]
    congr 1
    rw [Bool.eq_iff_iff, beq_iff_eq, decide_eq_true_iff]
    constructor
    · intro h
      have h' : (Utf8.decode s i).1 = (Utf8.decode t j).1 := by omega
      rw [good_piece s i hi hbs, good_piece t j hj hbt, h']
    · intro h
      rw [key s t i j hi hj hbs h]
  · rw [if_neg (by simp)]
    congr 1
    symm
    rw [decide_eq_false_iff_not]
    intro h
    have e := key s t i j hi hj hbs h
    have b1 := (Utf.bad_iff t j).1 hbt
    rw [e] at b1
    rw [(Utf.bad_iff s i).2 b1] at hbs
    cases hbs
  · rw [if_neg (by simp)]
    congr 1
    symm
    rw [decide_eq_false_iff_not]
    intro h
    have e := key t s j i hj hi hbt h.symm
    have b1 := (Utf.bad_iff s i).1 hbs
    rw [e] at b1
    rw [(Utf.bad_iff t j).2 b1] at hbt
    cases hbt
  · rw [if_pos (by rfl), if_pos rfl, if_pos rfl, if_pos rfl]
    have b1 := ((Utf.bad_iff s i).1 hbs).2
    have b2 := ((Utf.bad_iff t j).1 hbt).2
    rw [b1, b2, ← Utf.bad_bytes s i hi, ← Utf.bad_bytes t j hj, Pl.bt_nat s i hi, Pl.bt_nat t j hj]
    by_cases h : s.get! i = t.get! j
    · rw [if_pos (by rw [h]), h]; simp
    · rw [if_neg (fun e => h (UInt8.toNat_inj.1 (by omega)))]
      simp [h]
theorem cell_same (s t : ByteArray) (i j : Nat) (hi : i < (gCells s s.size 0).length) (hj : j < (gCells t t.size 0).length) (c d : S91) (hc : c = (gCells s s.size 0)[i]) (hd : d = (gCells t t.size 0)[j]) :
    siglumref08_Same.f c.f0 c.f1 c.f2 c.f3 c.f4 d.f0 d.f1 d.f2 d.f3 d.f4 = some (decide ((cb s)[i]'(by rw [cb_len]; exact hi) = (cb t)[j]'(by rw [cb_len]; exact hj))) := by
  obtain ⟨p, hp, e1⟩ := cell_at s i hi
  obtain ⟨q, hq, e2⟩ := cell_at t j hj
  have x1 : (cb s)[i]'(by rw [cb_len]; exact hi) = (pc s (gCell s p)).toList := by
    unfold cb pcs
    rw [List.getElem_map, List.getElem_map, e1]
  have x2 : (cb t)[j]'(by rw [cb_len]; exact hj) = (pc t (gCell t q)).toList := by
    unfold cb pcs
    rw [List.getElem_map, List.getElem_map, e2]
  rw [x1, x2, hc, hd, e1, e2]
  exact same_iff s t p q hp hq
theorem same_cells (a b : ByteArray) (i j : Nat) (hi : i < (cb a).length) (hj : j < (cb b).length) :
    siglumref08_Same.f (rd_T91 (gCells a a.size 0) (i : Int)).f0 (rd_T91 (gCells a a.size 0) (i : Int)).f1 (rd_T91 (gCells a a.size 0) (i : Int)).f2 (rd_T91 (gCells a a.size 0) (i : Int)).f3 (rd_T91 (gCells a a.size 0) (i : Int)).f4 (rd_T91 (gCells b b.size 0) (j : Int)).f0 (rd_T91 (gCells b b.size 0) (j : Int)).f1 (rd_T91 (gCells b b.size 0) (j : Int)).f2 (rd_T91 (gCells b b.size 0) (j : Int)).f3 (rd_T91 (gCells b b.size 0) (j : Int)).f4 = some (decide ((cb a)[i] = (cb b)[j])) := by
  have h1 := cb_len a
  have h2 := cb_len b
  exact cell_same a b i j (by omega) (by omega) _ _ (Pl.get_rd _ i (by omega)) (Pl.get_rd _ j (by omega))
theorem cells_bytes (s : ByteArray) : ∀ f i, s.size ≤ i + f → ((gCells s f i).map (fun c => (pc s c).toList)).flatten = s.data.toList.drop i
  | 0, i, h => by
    rw [List.drop_of_length_le (by rw [Array.length_toList]; have : s.data.size = s.size := rfl; omega)]
    rfl
  | f + 1, i, h => by
    unfold gCells
    split
    · rename_i hlt
      have := Utf.width_pos s i hlt
      rw [List.map_cons, List.flatten_cons, cells_bytes s f _ (by omega), piece_bytes, ← List.drop_drop]
      exact List.take_append_drop _ _
    · rw [List.drop_of_length_le (by rw [Array.length_toList]; have : s.data.size = s.size := rfl; omega)]
      rfl
theorem cb_flat (s : ByteArray) : (cb s).flatten = s.data.toList := by
  have := cells_bytes s s.size 0 (by omega)
  rw [List.drop_zero] at this
  unfold cb pcs
  rw [List.map_map]
  exact this
theorem cb_inj (a b : ByteArray) : cb a = cb b ↔ a.toList = b.toList := by
  constructor
  · intro h
    rw [toList_data, toList_data, ← cb_flat a, ← cb_flat b, h]
  · intro h
    rw [toList_data, toList_data] at h
    have : a = b := by
      apply ByteArray.ext
      apply Array.ext'
      exact h
    rw [this]
end Go.Proofs.YtcpbalnbgmjhjaaDoor.Pure
