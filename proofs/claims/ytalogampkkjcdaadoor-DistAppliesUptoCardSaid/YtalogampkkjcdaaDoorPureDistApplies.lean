/-
  Every Apply, of any edits, is the document's.
-/
import Derived.Test.YtalogampkkjcdaaDoorPureDistAwake
import Derived.Test.YtalogampkkjcdaaDoorBx7
import Derived.Test.YtalogampkkjcdaaDoorBx10
set_option linter.unusedVariables false
namespace Go.Proofs.YtalogampkkjcdaaDoor.Pure
open Go.RowKit Go.Proofs.YtalogampkkjcdaaDoor.B Go.Proofs.YtalogampkkjcdaaDoorW.PrintWords Go.Proofs.YtalogampkkjcdaaDoorW.PrintLast Go.Proofs.YtalogampkkjcdaaDoorW.PrintMore

theorem piece_at (a : ByteArray) (ha : a.size ≤ 4294967296) (i : Nat) (hi : i < (pcs a).length) :
    siglumref08_bytes.f a (rd_T75 (gCells a a.size 0) (i : Int)).f0 (rd_T75 (gCells a a.size 0) (i : Int)).f1 (rd_T75 (gCells a a.size 0) (i : Int)).f2 (rd_T75 (gCells a a.size 0) (i : Int)).f3 (rd_T75 (gCells a a.size 0) (i : Int)).f4 = some ((pcs a)[i]) := by
  have hl := pcs_len a
  obtain ⟨p, hp, e⟩ := cell_at a i (by omega)
  have e2 := (Pl.get_rd (gCells a a.size 0) i (by omega)).trans e
  rw [bytes_eq a p hp ha _ e2, e2]
  have e3 : (pcs a)[i] = pc a (gCells a a.size 0)[i] := by simp only [pcs, List.getElem_map]
  rw [e3, e]
theorem get_edit (l : List S30) (i : Nat) (h : i < l.length) : rd_T30 l (i : Int) = l[i] := by
  unfold rd_T30
  rw [Int.toNat_natCast, List.getD_eq_getElem?_getD, List.getElem?_eq_getElem h]
  rfl
def nums (l : List UInt8) : List Int := l.map fun b => (b.toNat : Int)
theorem nums_bytes (l : List UInt8) (s : ByteArray) : nums l ++ bytesOf s = nums (l ++ s.data.toList) := by
  unfold nums bytesOf
  simp
theorem nums_str (l : List UInt8) : strOfNums (nums l) = ⟨l.toArray⟩ := by
  unfold strOfNums nums
  congr 1
  simp [List.map_map, Function.comp_def]
theorem refapply_loop (a : ByteArray) (ha : a.size ≤ 4294967296) (l : List S30) (hl : l.length ≤ 1048576) (X : List ByteArray) (hX : X = pcs a) (hXl : X.length ≤ 4294967296) (L : List S75) (hL : L = gCells a a.size 0) :
    ∀ (d i p k : Nat) (acc : List UInt8), i + d = l.length → p ≤ X.length → acc.length + editSum (l.drop i) ≤ 1048576 → 3 * d + 3 ≤ k →
      siglumref08_Apply.l0 k a l L (p : Int) (nums acc) (i : Int) = some (applied (applyL (X.drop p) (l.drop i) acc)) := by
  have hLl : (L.length : Int) = (X.length : Int) := by rw [hL, hX, pcs_len]
  intro d
  induction d with
  | zero =>
    intro i p k acc hd hp hs hk
    obtain ⟨k, rfl⟩ : ∃ m, k = m + 1 := ⟨k - 1, by omega⟩
    rw [siglumref08_Apply.l0, if_neg (by omega), hLl, List.drop_of_length_le (l := l) (by omega)]
    unfold applyL
    by_cases h : p < X.length
    · rw [if_pos (by omega), if_neg (by rw [List.drop_eq_nil_iff]; omega)]
      rfl
    · rw [if_neg (by omega), if_pos (by rw [List.drop_eq_nil_iff]; omega), nums_str]
      rfl
  | succ d ih =>
    intro i p k acc hd hp hs hk
    obtain ⟨k, rfl⟩ : ∃ m, k = m + 3 := ⟨k - 3, by omega⟩
    have hi : i < l.length := by omega
    have hdr := List.drop_eq_getElem_cons hi
    have he := get_edit l i hi
    obtain ⟨⟨t, s⟩, hE⟩ : ∃ e, l[i] = e := ⟨_, rfl⟩
    rw [hE] at hdr he
    rw [hdr] at hs ⊢
    have hs2 : acc.length + (s.size + editSum (l.drop (i + 1))) ≤ 1048576 := hs
    have sz : s.data.toList.length = s.size := by rw [Array.length_toList]; rfl
    have nl : (nums acc).length = acc.length := by unfold nums; rw [List.length_map]
    have wi : Aside0 (wrap64 ((i : Int) + 1) = ((i + 1 : Nat) : Int)) := ⟨by rw [ws _ (by omega) (by omega)]; rfl⟩
    have wp : Aside0 (wrap64 ((p : Int) + 1) = ((p + 1 : Nat) : Int)) := ⟨by rw [ws _ (by omega) (by omega)]; rfl⟩
    rw [siglumref08_Apply.l0, if_pos (by omega), if_pos (by omega), he]
    dsimp only
    by_cases hr : t < 1 ∨ 4 < t
    · have e1 : (if t < 1 then siglumref08_Apply.j1 (k + 2) a l L (p : Int) (nums acc) (i : Int) true t s else siglumref08_Apply.j1 (k + 2) a l L (p : Int) (nums acc) (i : Int) (decide (t > 4)) t s) = siglumref08_Apply.j1 (k + 2) a l L (p : Int) (nums acc) (i : Int) true t s := by
        by_cases h : t < 1
        · rw [if_pos h]
        · rw [if_neg h, decide_eq_true (by omega)]
      rw [e1, siglumref08_Apply.j1, if_pos rfl]
      unfold applyL
      dsimp only
      rw [if_neg (by omega), if_neg (by omega), if_neg (by omega), if_neg (by omega)]
      rfl
    · rw [if_neg (by omega), decide_eq_false (by omega), siglumref08_Apply.j1, if_neg (by simp)]
      by_cases h4 : t = 4
      · subst h4
        rw [if_pos rfl, if_neg (by omega), if_pos (by omega), wi.out, nums_bytes, ih (i + 1) p _ _ (by omega) hp (by rw [List.length_append]; omega) (by omega)]
        conv => rhs; unfold applyL
        simp
      · rw [if_neg h4, hLl]
        by_cases hpn : p < X.length
        · have hdx := List.drop_eq_getElem_cons hpn
          rw [if_neg (by omega), hdx]
          by_cases h2 : t = 2
          · subst h2
            rw [if_pos rfl, siglumref08_Apply.j2, if_neg (by simp), if_neg (by omega), if_pos (by omega), wi.out, wp.out, nums_bytes, ih (i + 1) (p + 1) _ _ (by omega) hpn (by rw [List.length_append]; omega) (by omega)]
            conv => rhs; unfold applyL
            simp
          · have hbx := piece_at a ha p (by rw [← hX]; exact hpn)
            rw [← hL] at hbx
            have hxp : (pcs a)[p]'(by rw [← hX]; exact hpn) = X[p] := by subst hX; rfl
            rw [hxp] at hbx
            rw [if_neg h2, if_pos (by omega), if_pos (by omega), hbx, Option.bind_some]
            by_cases hsame : X[p].toList = s.toList
            · rw [show (s.toList != X[p].toList) = false from bne_eq_false_iff_eq.2 hsame.symm, siglumref08_Apply.j2, if_neg (by simp)]
              by_cases h3 : t = 3
              · subst h3
                rw [if_pos rfl, wi.out, wp.out, ih (i + 1) (p + 1) _ _ (by omega) hpn (by omega) (by omega)]
                conv => rhs; unfold applyL
                simp [hsame]
              · have h1 : t = 1 := by omega
                subst h1
                rw [if_neg h3, if_pos (by omega), wi.out, wp.out, nums_bytes, ih (i + 1) (p + 1) _ _ (by omega) hpn (by rw [List.length_append]; omega) (by omega)]
                conv => rhs; unfold applyL
                simp [hsame]
            · rw [show (s.toList != X[p].toList) = true from bne_iff_ne.2 (fun h => hsame h.symm), siglumref08_Apply.j2, if_pos rfl]
              have : applyL (X[p] :: X.drop (p + 1)) (⟨t, s⟩ :: l.drop (i + 1)) acc = none := by
                unfold applyL
                have h13 : t = 1 ∨ t = 3 := by omega
                rcases h13 with rfl | rfl <;> simp [hsame]
              rw [this]
              rfl
        · rw [if_pos (by omega), List.drop_of_length_le (l := X) (by omega)]
          have : applyL [] (⟨t, s⟩ :: l.drop (i + 1)) acc = none := by
            unfold applyL
            have h13 : t = 1 ∨ t = 2 ∨ t = 3 := by omega
            rcases h13 with rfl | rfl | rfl <;> simp
          rw [this]
          rfl
theorem refapply_eq (a : ByteArray) (ha : a.size ≤ 4294967296) (l : List S30) (hl : l.length ≤ 1048576) (hs : editSum l ≤ 1048576) (k : Nat) (hk : a.size + 12 ≤ k) (hk2 : 3 * l.length + 3 ≤ k) : siglumref08_Apply.f k a l = some (applied (applyL (pcs a) l [])) := by
  have hc := Pl.cells_le a
  have hp := pcs_len a
  unfold siglumref08_Apply.f
  rw [Pl.cells_eq k a ha hk, Option.bind_some]
  have := refapply_loop a ha l hl (pcs a) rfl (by omega) _ rfl l.length 0 0 k [] (by omega) (Nat.zero_le _) (by simpa using hs) hk2
  rw [List.drop_zero, List.drop_zero] at this
  exact this
theorem apply_eq (a : ByteArray) (ha : a.size ≤ 4294967296) (l : List S30) (hl : l.length ≤ 1048576) (hs : editSum l ≤ 1048576) (k : Nat) (hk : a.size + 1 ≤ k) : dist_Apply.f k a l = some (applied (applyL (pcs a) l [])) := by
  have hc := Pl.cells_le a
  have hp := pcs_len a
  unfold dist_Apply.f
  rw [pieces_eq a ha k hk, Option.bind_some, if_pos ⟨by omega, by omega, by omega⟩]
theorem edit_sum : ∀ l : List S30, editSum l + l.length ≤ (l.map fun y => (1 + (y.f1.size + 1) + 1)).sum
  | [] => Nat.le_refl _
  | e :: l => by
    have := edit_sum l
    rw [List.map_cons, List.sum_cons, List.length_cons]
    show e.f1.size + editSum l + _ ≤ _
    omega
theorem DistApplies (a0 : ByteArray) (l1 : List S30) (_ : a0.size ≤ maxLen) (_ : (∀ y ∈ l1, ((Lit.int .i64 y.f0).wf = true) ∧ (y.f1.size ≤ maxLen)) ∧ l1.length ≤ maxLen) (hb : (a0.size + 1) + ((l1.map fun y => (1 + (y.f1.size + 1) + 1)).sum + 1) ≤ 1048576) : ∃ k, siglumlaw08_DistApplies.f k a0 l1 = some true := by
  have he := edit_sum l1
  have h0 : a0.size ≤ 4294967296 := by omega
  refine ⟨4000000, ?_⟩
  unfold siglumlaw08_DistApplies.f
  rw [awake8 _ (by decide), Option.bind_some, if_pos rfl, apply_eq a0 h0 l1 (by omega) (by omega) _ (by omega), Option.bind_some, refapply_eq a0 h0 l1 (by omega) (by omega) _ (by omega) (by omega), Option.bind_some, if_pos rfl, beq_self_eq_true]
end Go.Proofs.YtalogampkkjcdaaDoor.Pure
