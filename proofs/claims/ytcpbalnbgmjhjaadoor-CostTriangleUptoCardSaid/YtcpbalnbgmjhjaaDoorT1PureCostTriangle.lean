/-
  Of words none of which is the sign of a lost one: no two cost more than both do with a third.
-/
import Derived.Test.YtcpbalnbgmjhjaaDoorT1PureCostEven
import Derived.Test.YtcpbalnbgmjhjaaDoorT1Ex14
namespace Go.Proofs.YtcpbalnbgmjhjaaDoor.Pure
open Go.RowKit Go.Proofs.YtcpbalnbgmjhjaaDoor.E Go.Proofs.YtcpbalnbgmjhjaaDoorW.PrintWords Go.Proofs.YtcpbalnbgmjhjaaDoorW.PrintLast Go.Proofs.YtcpbalnbgmjhjaaDoorW.PrintMore
theorem two_tri (a ka b kb c kc : ByteArray) (n f : Int) (hn : 1 ≤ n) (hf : 1 ≤ f) (ha : ¬ a.data.toList = lostB) (hb : ¬ b.data.toList = lostB) (hc : ¬ c.data.toList = lostB) :
    twoP a ka c kc n f ≤ twoP a ka b kb n f + twoP b kb c kc n f := by
  have h1 := two_range a ka b kb n f hn hf
  have h2 := two_range b kb c kc n f hn hf
  by_cases e1 : ka.data.toList = kc.data.toList
  · have h3 : twoP a ka c kc n f = 0 := (two_range a ka c kc n f hn hf).2.2.2 e1
    omega
  · by_cases e2 : ka.data.toList = kb.data.toList
    · have hk : ka = kb := by
        apply ByteArray.ext
        exact Array.toList_inj.1 e2
      subst hk
      have h3 : twoP b ka c kc n f = twoP a ka c kc n f := by
        unfold twoP
        rw [if_neg e1, if_neg e1, if_neg (fun h => h.elim hb hc), if_neg (fun h => h.elim ha hc)]
      omega
    · by_cases e3 : kb.data.toList = kc.data.toList
      · have hk : kb = kc := by
          apply ByteArray.ext
          exact Array.toList_inj.1 e3
        subst hk
        have h3 : twoP a ka b kb n f = twoP a ka c kb n f := by
          unfold twoP
          rw [if_neg e1, if_neg e1, if_neg (fun h => h.elim ha hb), if_neg (fun h => h.elim ha hc)]
        omega
      · have ht := Lv.lev_trans (cb ka) (cb kb) (cb kc)
        have hm : ((Lv.lev (cb ka) (cb kc) : Nat) : Int) * n ≤ (((Lv.lev (cb ka) (cb kb) : Nat) : Int) + ((Lv.lev (cb kb) (cb kc) : Nat) : Int)) * n := Int.mul_le_mul_of_nonneg_right (by omega) (by omega)
        rw [Int.add_mul] at hm
        have g1 : 0 ≤ ((Lv.lev (cb ka) (cb kb) : Nat) : Int) * n := Int.mul_nonneg (by omega) (by omega)
        have g2 : 0 ≤ ((Lv.lev (cb kb) (cb kc) : Nat) : Int) * n := Int.mul_nonneg (by omega) (by omega)
        unfold twoP
        rw [if_neg e1, if_neg e2, if_neg e3, if_neg (fun h => h.elim ha hc), if_neg (fun h => h.elim ha hb), if_neg (fun h => h.elim hb hc)]
        omega
theorem CostTriangle (a b c : ByteArray) (g n f o : Int) (_ : a.size ≤ maxLen ∧ b.size ≤ maxLen ∧ c.size ≤ maxLen ∧ (Lit.int .i64 g).wf = true ∧ (Lit.int .i64 n).wf = true ∧ (Lit.int .i64 f).wf = true ∧ (Lit.int .i64 o).wf = true) (hb : ((a.size + 1) + (b.size + 1) + (c.size + 1) + (1 + 1 + 1 + 1 + 1) + 1) ≤ 1048576) : ∃ k, siglumlaw09_CostTriangle.f k a b c g n f o = some true := by
  have h0 : a.size ≤ 1048576 := by omega
  have h1 : b.size ≤ 1048576 := by omega
  have h2 : c.size ≤ 1048576 := by omega
  refine ⟨30000000, ?_⟩
  unfold siglumlaw09_CostTriangle.f
  rw [awake9 _ (Nat.le_refl _), Option.bind_some, if_pos rfl, words_eq a b h0 h1 g n f o _ (Nat.le_refl _), Option.bind_some, words_eq b c h1 h2 g n f o _ (Nat.le_refl _), Option.bind_some, words_eq a c h0 h2 g n f o _ (Nat.le_refl _), Option.bind_some]
  by_cases hs : scaleOk g n f o
  · have hs' := hs
    unfold scaleOk at hs'
    obtain ⟨_, hn, hf, ho⟩ := hs'
    by_cases hl1 : longW a o = true ∨ longW b o = true
    · have hW : wP a b g n f o = (0, 1) := by unfold wP; rw [if_pos hs, if_pos hl1]
      rw [hW]
      rfl
    · have hW : wP a b g n f o = (twoP a (fd a o) b (fd b o) n f, 0) := by unfold wP; rw [if_pos hs, if_neg hl1]
      rw [hW]
      dsimp only
      rw [if_pos rfl]
      by_cases hl2 : longW b o = true ∨ longW c o = true
      · have hW2 : wP b c g n f o = (0, 1) := by unfold wP; rw [if_pos hs, if_pos hl2]
        rw [hW2]
        rfl
      · have hl3 : ¬ (longW a o = true ∨ longW c o = true) := fun h => h.elim (fun h => hl1 (Or.inl h)) (fun h => hl2 (Or.inr h))
        have hW2 : wP b c g n f o = (twoP b (fd b o) c (fd c o) n f, 0) := by unfold wP; rw [if_pos hs, if_neg hl2]
        have hW3 : wP a c g n f o = (twoP a (fd a o) c (fd c o) n f, 0) := by unfold wP; rw [if_pos hs, if_neg hl3]
        rw [hW2, hW3]
        dsimp only
        rw [if_pos rfl, if_pos rfl]
        simp only [toList_data]
        have r1 := two_range a (fd a o) b (fd b o) n f hn.1 hf.1
        have r2 := two_range b (fd b o) c (fd c o) n f hn.1 hf.1
        by_cases ha : a.data.toList = [226, 151, 140]
        · rw [if_pos ha]
        · rw [if_neg ha]
          by_cases hb' : b.data.toList = [226, 151, 140]
          · rw [if_pos hb']
          · rw [if_neg hb']
            by_cases hc : c.data.toList = [226, 151, 140]
            · rw [if_pos hc]
            · rw [if_neg hc, ws _ (by omega) (by omega), decide_eq_true (two_tri a (fd a o) b (fd b o) c (fd c o) n f hn.1 hf.1 ha hb' hc)]
  · have hW : wP a b g n f o = (0, 90) := by unfold wP; rw [if_neg hs]
    rw [hW]
    rfl
end Go.Proofs.YtcpbalnbgmjhjaaDoor.Pure
