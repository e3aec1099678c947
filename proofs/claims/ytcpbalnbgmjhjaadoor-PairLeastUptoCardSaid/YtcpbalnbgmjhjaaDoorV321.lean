import Derived.Test.YtcpbalnbgmjhjaaDoorV317
import Derived.Test.YtcpbalnbgmjhjaaDoorV320
import Derived.Test.YtcpbalnbgmjhjaaDoorV319
/-
  PairLeast: of short lists: none of all alignments has a lesser price, and Align's has the price that it tells.
-/
namespace Go.Proofs.YtcpbalnbgmjhjaaDoor.Pure
open Go.RowKit Go.Proofs.YtcpbalnbgmjhjaaDoor.G Go.Proofs.YtcpbalnbgmjhjaaDoorW.PrintWords Go.Proofs.YtcpbalnbgmjhjaaDoorW.PrintLast Go.Proofs.YtcpbalnbgmjhjaaDoorW.PrintMore
theorem least_eq (X Y : List ByteArray) (g n f o : Int) (hg : 1 ≤ g ∧ g ≤ 1000) (hn : 1 ≤ n ∧ n ≤ 1000) (hf : 1 ≤ f ∧ f ≤ 1000) (hX : X.length ≤ 1024) (hY : Y.length ≤ 1024) : ∀ (d i j : Nat), (X.length - i) + (Y.length - j) ≤ d → i ≤ X.length → j ≤ Y.length → Ev (fun k => siglumlaw10_least.f k (gridP X Y n f o) (i : Int) (j : Int) (Y.length : Int) g) (dR (wO n f o) g X Y i j) := by
  have hgw : ∀ x y, 0 ≤ wO n f o x y := fun x y => (wO_range n f o hn.1 hf x y).1
  have eG := grid_len X Y n f o
  intro d
  induction d with
  | zero =>
    intro i j hd hi hj
    have r := dR_range (wO n f o) g ⟨by omega, hg.2⟩ hgw X Y hX hY X.length j
    obtain rfl : i = X.length := by omega
    have e := dR_endl (wO n f o) g X Y j hj
    refine Ev.step (f := fun _ => some (dR (wO n f o) g X Y X.length j)) (fun k => ?_) (Ev.now _)
    rw [siglumlaw10_least.f, if_pos (by omega), ws ((Y.length : Int) - (j : Int)) (by omega) (by omega), ← e, ws _ (by omega) (by omega)]
  | succ d IH =>
    intro i j hd hi hj
    have r := dR_range (wO n f o) g ⟨by omega, hg.2⟩ hgw X Y hX hY i j
    by_cases h1 : i = X.length
    · subst h1
      have e := dR_endl (wO n f o) g X Y j hj
      refine Ev.step (f := fun _ => some (dR (wO n f o) g X Y X.length j)) (fun k => ?_) (Ev.now _)
      rw [siglumlaw10_least.f, if_pos (by omega), ws ((Y.length : Int) - (j : Int)) (by omega) (by omega), ← e, ws _ (by omega) (by omega)]
    · by_cases h2 : j = Y.length
      · subst h2
        have e := dR_endr (wO n f o) g X Y i hi
        refine Ev.step (f := fun _ => some (dR (wO n f o) g X Y i Y.length)) (fun k => ?_) (Ev.now _)
        rw [siglumlaw10_least.f, if_neg (by omega), if_pos rfl, eG, ws ((X.length : Int) - (i : Int)) (by omega) (by omega), ← e, ws _ (by omega) (by omega)]
      · have hi' : i < X.length := by omega
        have hj' : j < Y.length := by omega
        have r11 := dR_range (wO n f o) g ⟨by omega, hg.2⟩ hgw X Y hX hY (i + 1) (j + 1)
        have r10 := dR_range (wO n f o) g ⟨by omega, hg.2⟩ hgw X Y hX hY (i + 1) j
        have r01 := dR_range (wO n f o) g ⟨by omega, hg.2⟩ hgw X Y hX hY i (j + 1)
        have rw_ := wO_range n f o hn.1 hf X[i] Y[j]
        have hD := dR_step (wO n f o) g X Y i j hi' hj'
        have e2 : rd (rd_L11 (gridP X Y n f o) (i : Int)) (j : Int) = wO n f o X[i] Y[j] := grid_at X Y n f o i j hi' hj'
        have e2l : (rd_L11 (gridP X Y n f o) (i : Int)).length = Y.length := grid_rlen X Y n f o i hi'
        refine Ev.step (f := fun k => (siglumlaw10_least.f k (gridP X Y n f o) ((i + 1 : Nat) : Int) ((j + 1 : Nat) : Int) (Y.length : Int) g).bind fun a => (siglumlaw10_least.f k (gridP X Y n f o) ((i + 1 : Nat) : Int) (j : Int) (Y.length : Int) g).bind fun b => (siglumlaw10_least.f k (gridP X Y n f o) (i : Int) ((j + 1 : Nat) : Int) (Y.length : Int) g).bind fun c => some (mn (mn (wrap64 (a + wO n f o X[i] Y[j])) (wrap64 (b + g))) (wrap64 (c + g)))) (fun k => by
          have p1 : 0 ≤ (i : Int) := by omega
          have p2 : (i : Int) < ((gridP X Y n f o).length : Int) := by omega
          have p3 : 0 ≤ (j : Int) := by omega
          have p4 : (j : Int) < ((rd_L11 (gridP X Y n f o) (i : Int)).length : Int) := by omega
          rw [siglumlaw10_least.f, if_neg (by omega), if_neg (by omega), wsucc i (by omega), wsucc j (by omega)]
          simp only [if_pos p1, if_pos p2, if_pos p3, if_pos p4, e2]) ?_
        refine ev_bind (IH (i + 1) (j + 1) (by omega) (by omega) (by omega)) (ev_bind (IH (i + 1) j (by omega) (by omega) (by omega)) (ev_bind (IH i (j + 1) (by omega) (by omega) (by omega)) ?_))
        rw [hD]
        generalize dR (wO n f o) g X Y (i + 1) (j + 1) = D11 at r11
        generalize dR (wO n f o) g X Y (i + 1) j = D10 at r10
        generalize dR (wO n f o) g X Y i (j + 1) = D01 at r01
        generalize wO n f o X[i] Y[j] = W at rw_
        exact Ev.congr (fun k => by rw [ws (D11 + W) (by omega) (by omega), ws (D10 + g) (by omega) (by omega), ws (D01 + g) (by omega) (by omega), mn_eq, mn_eq]) (Ev.now _)
theorem PairLeast (a b : List ByteArray) (g n f o : Int) (_ : (∀ x ∈ a, x.size ≤ maxLen) ∧ a.length ≤ maxLen) (_ : (∀ x ∈ b, x.size ≤ maxLen) ∧ b.length ≤ maxLen) (_ : (Lit.int .i64 g).wf = true ∧ (Lit.int .i64 n).wf = true ∧ (Lit.int .i64 f).wf = true ∧ (Lit.int .i64 o).wf = true) (hb : ((a.map fun y => (y.size + 1)).sum + 1) + ((b.map fun y => (y.size + 1)).sum + 1) + (1 + 1 + 1 + 1 + 1) ≤ 1048576) : ∃ k, siglumlaw10_PairLeast.f k a b g n f o = some true := by
  have ha : smallL a := smallSum a (by omega)
  have hb' : smallL b := smallSum b (by omega)
  have triv : Ev (fun k => siglumlaw10_PairLeast.j0 k a b true g n f o) true := Ev.step (f := fun _ => some true) (fun k => by rw [siglumlaw10_PairLeast.j0, if_pos rfl]) (Ev.now _)
  have main : Ev (fun k => siglumlaw10_PairLeast.j0 k a b false g n f o) true := by
    refine Ev.step (fun k => by rw [siglumlaw10_PairLeast.j0, if_neg (by decide)]) (ev_bind (grid_eq a b ha hb' g n f o) (ev_bind (align_eq a b ha hb' g n f o) ?_))
    by_cases h : (gridR a b g n f o).2 = 0
    · obtain ⟨e, hs, l1, l2⟩ := gridR_ok h
      unfold scaleOk at hs
      have e1 : alignR a b g n f o = (pL (wO n f o) g a b 0 0, dL (wO n f o) g a b, 0) := by unfold alignR; rw [if_pos h]
      have eG := grid_len a b n f o
      obtain ⟨q1, q2⟩ := pL_all a b g n f o
      have hlen := (rightL_in a.length b.length _ 0 0 (Nat.zero_le _) (Nat.zero_le _) q1).1
      have r1 := right_eq a.length b.length _ (show (pL (wO n f o) g a b 0 0).length < 4611686018427387904 by omega)
      rw [q1] at r1
      have pr := price_eq a b ha hb' (pL (wO n f o) g a b 0 0) (by omega) g n f o
      have ep : priceR a b (pL (wO n f o) g a b 0 0) g n f o = (dL (wO n f o) g a b, 0) := by unfold priceR; rw [if_pos h, if_pos q1, q2]
      rw [ep] at pr
      have le := least_eq a b g n f o hs.1 hs.2.1 hs.2.2.1 l1 l2 (a.length + b.length) 0 0 (by omega) (Nat.zero_le _) (Nat.zero_le _)
      have key : ∀ (d x : Nat), x + d = a.length → Ev (fun k => siglumlaw10_PairLeast.l0 k a b (gridP a b n f o) (pL (wO n f o) g a b 0 0) (dL (wO n f o) g a b) (gridP a b n f o) (a.length : Int) (x : Int) g n f o) true := by
        intro d
        induction d with
        | zero =>
          intro x hd
          refine Ev.step (fun k => by rw [siglumlaw10_PairLeast.l0, if_neg (by omega)]) (ev_bind pr (Ev.congr (fun k => by rw [if_pos rfl, if_pos rfl]) (ev_bind (g := fun k => siglumlaw10_least.f k (gridP a b n f o) 0 0 (b.length : Int) g) le ?_)))
          exact Ev.congr (fun k => by rw [show dR (wO n f o) g a b 0 0 = dL (wO n f o) g a b from rfl, beq_self_eq_true]) (Ev.now _)
        | succ d IH =>
          intro x hd
          have el : (rd_L11 (gridP a b n f o) (x : Int)).length = b.length := grid_rlen a b n f o x (by omega)
          exact Ev.step (fun k => by rw [siglumlaw10_PairLeast.l0, if_pos (by omega), if_pos (by omega), if_pos (by omega), if_pos (by omega), wsucc x (by omega)]) (IH (x + 1) (by omega))
      rw [e, e1]
      refine Ev.congr (fun k => by dsimp only; rw [if_pos rfl, if_pos rfl, eG, if_pos rfl]) (ev_bind r1 ?_)
      exact Ev.step (fun k => by rw [siglumlaw10_PairLeast.j1, if_neg (by decide), eG]; rfl) (key a.length 0 (by omega))
    · have e1 : alignR a b g n f o = ([], 0, (gridR a b g n f o).2) := by unfold alignR; rw [if_neg h]
      rw [e1]
      exact Ev.congr (fun k => by dsimp only; rw [if_neg h, if_pos rfl]; rfl) (Ev.now _)
  refine Ev.rounds (ev_bind (f := fun k t => if t = true then (if (a.length : Int) > 5 then siglumlaw10_PairLeast.j0 k a b true g n f o else siglumlaw10_PairLeast.j0 k a b (decide ((b.length : Int) > 5)) g n f o) else some false) awake10 (Ev.congr (fun k => by rw [if_pos rfl]) ?_))
  by_cases h1 : (a.length : Int) > 5
  · exact Ev.congr (fun k => by rw [if_pos h1]) triv
  · by_cases h2 : (b.length : Int) > 5
    · exact Ev.congr (fun k => by rw [if_neg h1, decide_eq_true h2]) triv
    · exact Ev.congr (fun k => by rw [if_neg h1, decide_eq_false h2]) main
end Go.Proofs.YtcpbalnbgmjhjaaDoor.Pure
