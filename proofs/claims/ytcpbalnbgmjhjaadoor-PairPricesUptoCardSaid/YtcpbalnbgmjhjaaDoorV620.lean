import Derived.Test.YtcpbalnbgmjhjaaDoorV618
import Derived.Test.YtcpbalnbgmjhjaaDoorV614
import Derived.Test.YtcpbalnbgmjhjaaDoorV615
import Derived.Test.YtcpbalnbgmjhjaaDoorV616
/-
  The document's distances of what is left of two texts are the edit distances.
-/
set_option linter.unusedVariables false
namespace Go.Proofs.YtcpbalnbgmjhjaaDoor.Pure
open Go.RowKit Go.Proofs.YtcpbalnbgmjhjaaDoor.Q Go.Proofs.YtcpbalnbgmjhjaaDoorW.PrintWords Go.Proofs.YtcpbalnbgmjhjaaDoorW.PrintLast Go.Proofs.YtcpbalnbgmjhjaaDoorW.PrintMore
def GV (A B : List (List UInt8)) (i j : Nat) : Int := (Lv.lev (A.drop i) (B.drop j) : Nat)
theorem GV_endl (A B : List (List UInt8)) (j : Nat) (h : j ≤ B.length) : GV A B A.length j = (B.length : Int) - (j : Int) := by
  unfold GV
  rw [List.drop_length, Lv.lev_nil, List.length_drop]
  omega
theorem GV_endr (A B : List (List UInt8)) (i : Nat) (h : i ≤ A.length) : GV A B i B.length = (A.length : Int) - (i : Int) := by
  unfold GV
  rw [List.drop_length, Lv.lev_nil', List.length_drop]
  omega
theorem GV_small (A B : List (List UInt8)) (hA : A.length ≤ 256) (hB : B.length ≤ 256) (i j : Nat) : 0 ≤ GV A B i j ∧ GV A B i j ≤ 256 := by
  unfold GV
  have := Lv.lev_max (A.drop i) (B.drop j)
  rw [List.length_drop, List.length_drop] at this
  omega
theorem GV_keep (A B : List (List UInt8)) (i j : Nat) (hi : i < A.length) (hj : j < B.length) (h : A[i] = B[j]) : GV A B i j = GV A B (i + 1) (j + 1) := by
  unfold GV
  rw [List.drop_eq_getElem_cons hi, List.drop_eq_getElem_cons hj, h, Lv.lev_keep]
theorem GV_swap (A B : List (List UInt8)) (i j : Nat) (hi : i < A.length) (hj : j < B.length) (h : A[i] ≠ B[j]) : GV A B i j = 1 + min (min (GV A B (i + 1) j) (GV A B i (j + 1))) (GV A B (i + 1) (j + 1)) := by
  unfold GV
  have e1 := List.drop_eq_getElem_cons hi
  have e2 := List.drop_eq_getElem_cons hj
  rw [e1, e2, Lv.lev_swap _ _ h, ← e1, ← e2]
  omega
theorem GV_near (A B : List (List UInt8)) (i j : Nat) (hi : i < A.length) (hj : j < B.length) : GV A B (i + 1) (j + 1) ≤ GV A B (i + 1) j + 1 ∧ GV A B (i + 1) (j + 1) ≤ GV A B i (j + 1) + 1 := by
  unfold GV
  have e1 := List.drop_eq_getElem_cons hi
  have e2 := List.drop_eq_getElem_cons hj
  have h1 := Lv.lev_trans (A.drop (i + 1)) (B.drop j) (B.drop (j + 1))
  have h2 : Lv.lev (B.drop j) (B.drop (j + 1)) ≤ 1 := by rw [e2]; exact Lv.lev_le (Lv.Ed.cut _ (Lv.Ed.same _))
  have h3 := Lv.lev_trans (A.drop (i + 1)) (A.drop i) (B.drop (j + 1))
  have h4 : Lv.lev (A.drop (i + 1)) (A.drop i) ≤ 1 := by rw [e1]; exact Lv.lev_le (Lv.Ed.put _ (Lv.Ed.same _))
  omega
theorem rl_set_same (T : List (List Int)) (p : Nat) (h : p < T.length) (r : List Int) : rd_L11 (T.set p r) (p : Int) = r := by
  unfold rd_L11
  rw [Int.toNat_natCast, List.getD_eq_getElem?_getD, List.getElem?_set, if_pos rfl, if_pos h]
  rfl
theorem rl_set_ne (T : List (List Int)) (p q : Nat) (h : p ≠ q) (r : List Int) : rd_L11 (T.set p r) (q : Int) = rd_L11 T (q : Int) := by
  unfold rd_L11
  rw [Int.toNat_natCast, List.getD_eq_getElem?_getD, List.getElem?_set, if_neg h, List.getD_eq_getElem?_getD]
def okRow (A B : List (List UInt8)) (r : List Int) (i lo : Nat) : Prop := r.length = B.length + 1 ∧ ∀ q : Nat, lo ≤ q → q ≤ B.length → rd r q = GV A B i q
def okTab (A B : List (List UInt8)) (T : List (List Int)) (i lo : Nat) : Prop := T.length = A.length + 1 ∧ (∀ p : Nat, i < p → p ≤ A.length → okRow A B (rd_L11 T p) p 0) ∧ okRow A B (rd_L11 T i) i lo
def goodTab (A B : List (List UInt8)) (T : List (List Int)) : Prop := T.length = A.length + 1 ∧ ∀ p : Nat, p ≤ A.length → okRow A B (rd_L11 T p) p 0
theorem okTab_set (A B : List (List UInt8)) (T : List (List Int)) (i j : Nat) (hi : i ≤ A.length) (hj : j ≤ B.length) (h : okTab A B T i (j + 1)) (v : Int) (hv : v = GV A B i j) : okTab A B (T.set i ((rd_L11 T i).set j v)) i j := by
  obtain ⟨h1, h2, h3, h4⟩ := h
  refine ⟨by rw [List.length_set]; exact h1, fun p hp hpa => ?_, ?_⟩
  · rw [rl_set_ne _ _ _ (by omega)]
    exact h2 p hp hpa
  · rw [rl_set_same _ _ (by omega)]
    refine ⟨by rw [List.length_set]; exact h3, fun q hq hqb => ?_⟩
    by_cases e : j = q
    · subst e
      rw [rd_set_same _ _ (by omega), hv]
    · rw [rd_set_ne _ _ _ e]
      exact h4 q (by omega) hqb
section
variable (A B : List (List UInt8)) (L M : List S91) (hA : A.length ≤ 256) (hB : B.length ≤ 256) (hLA : L.length = A.length) (hMB : M.length = B.length)
  (hS : ∀ (i j : Nat) (hi : i < A.length) (hj : j < B.length), siglumref08_Same.f (rd_T91 L (i : Int)).f0 (rd_T91 L (i : Int)).f1 (rd_T91 L (i : Int)).f2 (rd_T91 L (i : Int)).f3 (rd_T91 L (i : Int)).f4 (rd_T91 M (j : Int)).f0 (rd_T91 M (j : Int)).f1 (rd_T91 M (j : Int)).f2 (rd_T91 M (j : Int)).f3 (rd_T91 M (j : Int)).f4 = some (decide (A[i] = B[j])))
include hA hB hLA hMB hS
theorem rest_l1 (i : Nat) (hi : i ≤ A.length) (C : Nat)
    (next : ∀ (k : Nat) (T : List (List Int)), okTab A B T i 0 → C ≤ k → ∃ T', siglumref08_rests.l0 k L M T ((i : Int) - 1) = some T' ∧ goodTab A B T') :
    ∀ (J k : Nat) (T : List (List Int)), J ≤ B.length + 1 → okTab A B T i J → J + 1 + C ≤ k → ∃ T', siglumref08_rests.l1 k L M T (i : Int) ((J : Int) - 1) = some T' ∧ goodTab A B T'
  | 0, k, T, hJ, hT, hk => by
    obtain ⟨k, rfl⟩ : ∃ m, k = m + 1 := ⟨k - 1, by omega⟩
    have w1 : Aside0 (wrap64 ((i : Int) - 1) = (i : Int) - 1) := ⟨ws _ (by omega) (by omega)⟩
    rw [siglumref08_rests.l1, if_neg (by omega), w1.out]
    exact next k T hT (by omega)
  | j + 1, k, T, hJ, hT, hk => by
    obtain ⟨k, rfl⟩ : ∃ m, k = m + 1 := ⟨k - 1, by omega⟩
    have hjb : j ≤ B.length := by omega
    have ej : ((j + 1 : Nat) : Int) - 1 = (j : Int) := by omega
    have w1 : Aside0 (wrap64 ((j : Int) - 1) = (j : Int) - 1) := ⟨ws _ (by omega) (by omega)⟩
    have h1 := hT.1
    have h3 := hT.2.2.1
    have fin : Aside0 (∀ v : Int, v = GV A B i j → ∃ T', siglumref08_rests.l1 k L M (T.set i ((rd_L11 T i).set j v)) (i : Int) ((j : Int) - 1) = some T' ∧ goodTab A B T') :=
      ⟨fun v hv => rest_l1 i hi C next j k _ (by omega) (okTab_set A B T i j hi hjb hT v hv) (by omega)⟩
    rw [ej]
    by_cases hin : i = A.length
    · have g := GV_endl A B j hjb
      have w2 : Aside0 (wrap64 ((M.length : Int) - (j : Int)) = (M.length : Int) - (j : Int)) := ⟨ws _ (by omega) (by omega)⟩
      rw [siglumref08_rests.l1, if_pos (by omega), if_pos (by omega), if_pos (by omega), if_pos (by omega), if_pos (by omega), if_pos (by omega), w1.out, w2.out, Int.toNat_natCast, Int.toNat_natCast]
      exact fin.out _ (by rw [hin, g, hMB])
    · by_cases hjm : j = B.length
      · have g := GV_endr A B i hi
        have w2 : Aside0 (wrap64 ((L.length : Int) - (i : Int)) = (L.length : Int) - (i : Int)) := ⟨ws _ (by omega) (by omega)⟩
        rw [siglumref08_rests.l1, if_pos (by omega), if_neg (by omega), if_pos (by omega), if_pos (by omega), if_pos (by omega), if_pos (by omega), if_pos (by omega), w1.out, w2.out, Int.toNat_natCast, Int.toNat_natCast]
        exact fin.out _ (by rw [hjm, g, hLA])
      · have hia : i < A.length := by omega
        have hjb2 : j < B.length := by omega
        have ei : ((i + 1 : Nat) : Int) = (i : Int) + 1 := by omega
        have ej2 : ((j + 1 : Nat) : Int) = (j : Int) + 1 := by omega
        have w2 : Aside0 (wrap64 ((i : Int) + 1) = ((i + 1 : Nat) : Int)) := ⟨by rw [ws _ (by omega) (by omega)]; exact ei.symm⟩
        have w3 : Aside0 (wrap64 ((j : Int) + 1) = ((j + 1 : Nat) : Int)) := ⟨by rw [ws _ (by omega) (by omega)]; exact ej2.symm⟩
        obtain ⟨l1, r1⟩ := hT.2.1 (i + 1) (by omega) (by omega)
        have q1 := r1 j (by omega) (by omega)
        have q2 := hT.2.2.2 (j + 1) (by omega) (by omega)
        have q3 := r1 (j + 1) (by omega) (by omega)
        have b1 := GV_small A B hA hB (i + 1) j
        have b2 := GV_small A B hA hB i (j + 1)
        have b3 := GV_small A B hA hB (i + 1) (j + 1)
        have near := GV_near A B i j hia hjb2
        have hss := hS i j hia hjb2
        obtain ⟨g1, hg1⟩ : ∃ g, GV A B (i + 1) j = g := ⟨_, rfl⟩
        obtain ⟨g2, hg2⟩ : ∃ g, GV A B i (j + 1) = g := ⟨_, rfl⟩
        obtain ⟨g3, hg3⟩ : ∃ g, GV A B (i + 1) (j + 1) = g := ⟨_, rfl⟩
        rw [hg1] at q1 b1 near
        rw [hg2] at q2 b2 near
        rw [hg3] at q3 b3 near
        have w4 : Aside0 (wrap64 (mn (mn g1 g2) g3 + 1) = min (min g1 g2) g3 + 1) := ⟨by rw [mn_eq, mn_eq]; exact ws _ (by omega) (by omega)⟩
        have gk := GV_keep A B i j hia hjb2
        have gs := GV_swap A B i j hia hjb2
        rw [hg3] at gk
        rw [hg1, hg2, hg3] at gs
        clear r1 hT hS
        rw [siglumref08_rests.l1, if_pos (by omega), if_neg (by omega), if_neg (by omega), w2.out, w3.out, if_pos (by omega), if_pos (by omega), if_pos (by omega), if_pos (by omega), if_pos (by omega), if_pos (by omega), if_pos (by omega), if_pos (by omega), if_pos (by omega), if_pos (by omega), if_pos (by omega), hss, Option.bind_some, q1, q2, q3, w4.out, w1.out, Int.toNat_natCast, Int.toNat_natCast]
        by_cases hsame : A[i] = B[j]
        · rw [if_pos (decide_eq_true hsame), if_pos (by omega)]
          refine fin.out _ ?_
          rw [gk hsame, mn_eq]
          omega
        · rw [if_neg (by rw [decide_eq_false hsame]; simp), if_pos (by omega)]
          refine fin.out _ ?_
          rw [gs hsame]
          omega
theorem rest_l0 : ∀ (I k : Nat) (T : List (List Int)), I ≤ A.length + 1 → T.length = A.length + 1 → (∀ p : Nat, I ≤ p → p ≤ A.length → okRow A B (rd_L11 T p) p 0) → I * (B.length + 3) + 1 ≤ k → ∃ T', siglumref08_rests.l0 k L M T ((I : Int) - 1) = some T' ∧ goodTab A B T'
  | 0, k, T, hI, hl, hT, hk => by
    obtain ⟨k, rfl⟩ : ∃ m, k = m + 1 := ⟨k - 1, by omega⟩
    rw [siglumref08_rests.l0, if_neg (by omega)]
    exact ⟨T, rfl, hl, fun p hp => hT p (by omega) hp⟩
  | i + 1, k, T, hI, hl, hT, hk => by
    obtain ⟨k, rfl⟩ : ∃ m, k = m + 1 := ⟨k - 1, by omega⟩
    rw [Nat.succ_mul] at hk
    have ei : ((i + 1 : Nat) : Int) - 1 = (i : Int) := by omega
    have w2 : Aside0 (wrap64 ((M.length : Int) + 1) = ((B.length + 1 : Nat) : Int)) := ⟨by rw [ws _ (by omega) (by omega), hMB]; rfl⟩
    rw [ei, siglumref08_rests.l0, if_pos (by omega), w2.out, if_pos (by omega), if_pos (by omega), if_pos (by omega), if_pos (by omega), Int.toNat_natCast, Int.toNat_natCast]
    have em : (M.length : Int) = ((B.length + 1 : Nat) : Int) - 1 := by omega
    rw [em]
    refine rest_l1 A B L M hA hB hLA hMB hS i (by omega) (i * (B.length + 3) + 1) (fun k T hT hk => rest_l0 i k T (by omega) hT.1 (fun p hp hpa => ?_) hk) (B.length + 1) k _ (by omega) ?_ (by omega)
    · by_cases e : i = p
      · subst e; exact hT.2.2
      · exact hT.2.1 p (by omega) hpa
    · refine ⟨by rw [List.length_set]; exact hl, fun p hp hpa => ?_, ?_⟩
      · rw [rl_set_ne _ _ _ (by omega)]
        exact hT p (by omega) hpa
      · rw [rl_set_same _ _ (by omega)]
        exact ⟨by rw [List.length_replicate], fun q hq hqb => by omega⟩
theorem rests_ok (k : Nat) (hk : 257 * 259 + 1 ≤ k) : ∃ T', siglumref08_rests.f k L M = some T' ∧ goodTab A B T' := by
  have w2 : Aside0 (wrap64 ((L.length : Int) + 1) = ((A.length + 1 : Nat) : Int)) := ⟨by rw [ws _ (by omega) (by omega), hLA]; rfl⟩
  unfold siglumref08_rests.f
  rw [w2.out, if_pos (by omega), if_pos (by omega), Int.toNat_natCast]
  have em : (L.length : Int) = ((A.length + 1 : Nat) : Int) - 1 := by omega
  rw [em]
  have hm : (A.length + 1) * (B.length + 3) ≤ 257 * 259 := Nat.mul_le_mul (by omega) (by omega)
  exact rest_l0 A B L M hA hB hLA hMB hS (A.length + 1) k _ (by omega) (by rw [List.length_replicate]) (fun p hp hpa => by omega) (by omega)
end
theorem refcells_eq (a b : ByteArray) (ha : a.size ≤ 4294967296) (hb : b.size ≤ 4294967296) (k : Nat) (hk : kOf a b ≤ k) : siglumref08_cells.f k a b = some (gCells a a.size 0, gCells b b.size 0, decide ((cb a).length ≤ 256 ∧ (cb b).length ≤ 256)) := by
  unfold kOf at hk
  unfold siglumref08_cells.f
  rw [Pl.cells_eq k a ha (by omega), Option.bind_some, Pl.cells_eq k b hb (by omega), Option.bind_some, cb_len, cb_len]
  by_cases h1 : (gCells a a.size 0).length ≤ 256
  · rw [if_pos (by omega)]
    congr 3
    rw [Bool.eq_iff_iff]
    simp only [decide_eq_true_eq]
    omega
  · rw [if_neg (by omega)]
    congr 3
    symm
    rw [decide_eq_false_iff_not]
    omega
theorem refof_eq (a b : ByteArray) (ha : a.size ≤ 4294967296) (hb : b.size ≤ 4294967296) (k : Nat) (hk : kOf a b ≤ k) : siglumref08_Of.f k a b = some (dOf a b) := by
  unfold siglumref08_Of.f dOf
  rw [refcells_eq a b ha hb k hk, Option.bind_some]
  dsimp only
  by_cases h : (cb a).length ≤ 256 ∧ (cb b).length ≤ 256
  · rw [if_pos (decide_eq_true h), if_pos h]
    unfold kOf at hk
    obtain ⟨T, hT, hg⟩ := rests_ok (cb a) (cb b) (gCells a a.size 0) (gCells b b.size 0) h.1 h.2 (cb_len a).symm (cb_len b).symm (fun i j hi hj => same_cells a b i j hi hj) k (by omega)
    rw [hT, Option.bind_some]
    have g0 := hg.2 0 (by omega)
    have hl := hg.1
    have g1 := g0.1
    have g2 := g0.2 0 (by omega) (by omega)
    rw [if_pos (by omega), if_pos (by have : (rd_L11 T 0).length = (cb b).length + 1 := g1; omega)]
    have : rd (rd_L11 T 0) 0 = GV (cb a) (cb b) 0 0 := g2
    rw [this]
    rfl
  · rw [if_neg (by rw [decide_eq_false h]; simp), if_neg h]
end Go.Proofs.YtcpbalnbgmjhjaaDoor.Pure
