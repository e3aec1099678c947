import Derived.Test.YtcpbalnbgmjhjaaDoorV315
import Derived.Test.YtcpbalnbgmjhjaaDoorV313
import Derived.Test.YtcpbalnbgmjhjaaDoorV316
import Derived.Test.YtcpbalnbgmjhjaaDoorV312
import Derived.Test.YtcpbalnbgmjhjaaDoorRows
import Derived.Test.YtcpbalnbgmjhjaaDoorV31
import Derived.ProofKit
import Derived.Deep.Slices
import Derived.Deep.Fields
import Derived.ChangeSame
import Derived.SizedLaws
import Derived.Test.YtcpbalnbgmjhjaaDoorV34
import Derived.Test.YtcpbalnbgmjhjaaDoorV35
import Derived.Lib.LaidIn
import Derived.Lib.LaidTab
import Derived.Lib.LaidU8T
import Derived.PinnedBridge
/-
  Is it an alignment, and what does it cost: the program's answers in plain numbers.
-/
namespace Go.Proofs.YtcpbalnbgmjhjaaDoor.Pure
open Go.RowKit Go.Proofs.YtcpbalnbgmjhjaaDoor.G Go.Proofs.YtcpbalnbgmjhjaaDoorW.PrintWords Go.Proofs.YtcpbalnbgmjhjaaDoorW.PrintLast Go.Proofs.YtcpbalnbgmjhjaaDoorW.PrintMore
/-- Is it an alignment of what is left behind i and j? -/
def rightL (n m : Int) : List S61 → Int → Int → Bool
  | [], i, j => decide (i = n ∧ j = m)
  | p :: l, i, j =>
    if p.f0 = i ∧ p.f1 = j ∧ i < n ∧ j < m then rightL n m l (i + 1) (j + 1)
    else if p.f0 = i ∧ p.f1 = -1 ∧ i < n then rightL n m l (i + 1) j
    else if p.f0 = -1 ∧ p.f1 = j ∧ j < m then rightL n m l i (j + 1) else false
theorem rdP_nat (l : List S61) (i : Nat) (h : i < l.length) : rd_T61 l (i : Int) = l[i] := by
  unfold rd_T61
  rw [Int.toNat_natCast, List.getD_eq_getElem?_getD, List.getElem?_eq_getElem h]
  rfl
theorem right_loop (n m : Int) (L : List S61) (hL : L.length < 4611686018427387904) : ∀ (d x i j : Nat), x + d = L.length → i ≤ x → j ≤ x →
    Ev (fun k => pair_Right.l0 k n m (i : Int) (j : Int) L (L.length : Int) (x : Int)) (rightL n m (L.drop x) (i : Int) (j : Int)) := by
  intro d
  induction d with
  | zero =>
    intro x i j hd hi hj
    rw [List.drop_of_length_le (by omega), rightL]
    refine Ev.step (f := fun _ => some (decide ((i : Int) = n ∧ (j : Int) = m))) (fun k => ?_) (Ev.now _)
    rw [pair_Right.l0, if_neg (by omega)]
    by_cases h : (i : Int) = n
    · rw [if_pos h]
      by_cases h2 : (j : Int) = m
      · rw [beq_iff_eq.2 h2, decide_eq_true ⟨h, h2⟩]
      · rw [beq_eq_false_iff_ne.2 h2, decide_eq_false (fun e => h2 e.2)]
    · rw [if_neg h, decide_eq_false (fun e => h e.1)]
  | succ d IH =>
    intro x i j hd hi hj
    have hx : x < L.length := by omega
    rw [List.drop_eq_getElem_cons hx, rightL]
    obtain ⟨p0, p1, hp⟩ : ∃ a b, L[x] = ⟨a, b⟩ := ⟨_, _, rfl⟩
    have e0 : rd_T61 L (x : Int) = ⟨p0, p1⟩ := by rw [rdP_nat L x hx, hp]
    rw [hp]
    dsimp only
    have wi := wsucc i (by omega)
    have wj := wsucc j (by omega)
    have wx := wsucc x (by omega)
    have ci : ((i : Int) + 1) = ((i + 1 : Nat) : Int) := by omega
    have cj : ((j : Int) + 1) = ((j + 1 : Nat) : Int) := by omega
    by_cases h1 : p0 = (i : Int) ∧ p1 = (j : Int) ∧ (i : Int) < n ∧ (j : Int) < m
    · rw [if_pos h1, ci, cj]
      refine Ev.step (f := fun k => pair_Right.j1 k n m (i : Int) (j : Int) L (L.length : Int) (x : Int) true p0 p1) (fun k => by
        rw [pair_Right.l0, if_pos (by omega), if_pos (by omega), if_pos (by omega), e0]
        dsimp only
        rw [if_pos h1.1, if_pos h1.2.1, if_pos h1.2.2.1, decide_eq_true h1.2.2.2]) ?_
      exact Ev.step (fun k => by rw [pair_Right.j1, if_pos rfl, wi, wj, wx]) (IH (x + 1) (i + 1) (j + 1) (by omega) (by omega) (by omega))
    · rw [if_neg h1]
      refine Ev.step (f := fun k => pair_Right.j1 k n m (i : Int) (j : Int) L (L.length : Int) (x : Int) false p0 p1) (fun k => by
        rw [pair_Right.l0, if_pos (by omega), if_pos (by omega), if_pos (by omega), e0]
        dsimp only
        by_cases a1 : p0 = (i : Int)
        · rw [if_pos a1]
          by_cases a2 : p1 = (j : Int)
          · rw [if_pos a2]
            by_cases a3 : (i : Int) < n
            · rw [if_pos a3, decide_eq_false (fun e => h1 ⟨a1, a2, a3, e⟩)]
            · rw [if_neg a3]
          · rw [if_neg a2]
        · rw [if_neg a1]) ?_
      by_cases h2 : p0 = (i : Int) ∧ p1 = -1 ∧ (i : Int) < n
      · rw [if_pos h2, ci]
        refine Ev.step (f := fun k => pair_Right.j2 k n m (i : Int) (j : Int) L (L.length : Int) (x : Int) true p0 p1) (fun k => by
          rw [pair_Right.j1, if_neg (by decide), if_pos h2.1, if_pos h2.2.1, decide_eq_true h2.2.2]) ?_
        exact Ev.step (fun k => by rw [pair_Right.j2, if_pos rfl, wi, wx]) (IH (x + 1) (i + 1) j (by omega) (by omega) (by omega))
      · rw [if_neg h2]
        refine Ev.step (f := fun k => pair_Right.j2 k n m (i : Int) (j : Int) L (L.length : Int) (x : Int) false p0 p1) (fun k => by
          rw [pair_Right.j1, if_neg (by decide)]
          by_cases a1 : p0 = (i : Int)
          · rw [if_pos a1]
            by_cases a2 : p1 = -1
            · rw [if_pos a2, decide_eq_false (fun e => h2 ⟨a1, a2, e⟩)]
            · rw [if_neg a2]
          · rw [if_neg a1]) ?_
        by_cases h3 : p0 = -1 ∧ p1 = (j : Int) ∧ (j : Int) < m
        · rw [if_pos h3, cj]
          exact Ev.step (fun k => by rw [pair_Right.j2, if_neg (by decide), if_pos h3.1, if_pos h3.2.1, if_pos h3.2.2, wj, wx]) (IH (x + 1) i (j + 1) (by omega) (by omega) (by omega))
        · rw [if_neg h3]
          refine Ev.step (f := fun _ => some false) (fun k => ?_) (Ev.now _)
          rw [pair_Right.j2, if_neg (by decide)]
          by_cases a1 : p0 = -1
          · rw [if_pos a1]
            by_cases a2 : p1 = (j : Int)
            · rw [if_pos a2, if_neg (fun e => h3 ⟨a1, a2, e⟩)]
            · rw [if_neg a2]
          · rw [if_neg a1]
theorem right_eq (n m : Int) (L : List S61) (hL : L.length < 4611686018427387904) : Ev (fun k => pair_Right.f k n m L) (rightL n m L 0 0) :=
  right_loop n m L hL L.length 0 0 0 (by omega) (Nat.le_refl _) (Nat.le_refl _)
/-- What an alignment's pairs name, and how many they are. -/
theorem rightL_in (N M : Nat) : ∀ (l : List S61) (i j : Nat), i ≤ N → j ≤ M → rightL N M l i j = true → l.length ≤ (N - i) + (M - j) ∧ ∀ p ∈ l, (p.f0 = -1 ∧ 0 ≤ p.f1 ∧ p.f1 < M) ∨ (p.f1 = -1 ∧ 0 ≤ p.f0 ∧ p.f0 < N) ∨ (0 ≤ p.f0 ∧ p.f0 < N ∧ 0 ≤ p.f1 ∧ p.f1 < M) := by
  intro l
  induction l with
  | nil => intro i j hi hj h; exact ⟨Nat.zero_le _, fun p hp => by cases hp⟩
  | cons p l IH =>
    intro i j hi hj h
    rw [rightL] at h
    have ci : ((i : Int) + 1) = ((i + 1 : Nat) : Int) := by omega
    have cj : ((j : Int) + 1) = ((j + 1 : Nat) : Int) := by omega
    by_cases h1 : p.f0 = (i : Int) ∧ p.f1 = (j : Int) ∧ (i : Int) < N ∧ (j : Int) < M
    · rw [if_pos h1, ci, cj] at h
      obtain ⟨a, b⟩ := IH (i + 1) (j + 1) (by omega) (by omega) h
      refine ⟨by rw [List.length_cons]; omega, fun q hq => ?_⟩
      rcases List.mem_cons.1 hq with rfl | hq
      · exact Or.inr (Or.inr ⟨by omega, by omega, by omega, by omega⟩)
      · exact b q hq
    · rw [if_neg h1] at h
      by_cases h2 : p.f0 = (i : Int) ∧ p.f1 = -1 ∧ (i : Int) < N
      · rw [if_pos h2, ci] at h
        obtain ⟨a, b⟩ := IH (i + 1) j (by omega) hj h
        refine ⟨by rw [List.length_cons]; omega, fun q hq => ?_⟩
        rcases List.mem_cons.1 hq with rfl | hq
        · exact Or.inr (Or.inl ⟨by omega, by omega, by omega⟩)
        · exact b q hq
      · rw [if_neg h2] at h
        by_cases h3 : p.f0 = -1 ∧ p.f1 = (j : Int) ∧ (j : Int) < M
        · rw [if_pos h3, cj] at h
          obtain ⟨a, b⟩ := IH i (j + 1) hi (by omega) h
          refine ⟨by rw [List.length_cons]; omega, fun q hq => ?_⟩
          rcases List.mem_cons.1 hq with rfl | hq
          · exact Or.inl ⟨by omega, by omega, by omega⟩
          · exact b q hq
        · rw [if_neg h3] at h
          cases h
/-- What pairs cost, by a grid. -/
def costP (T : List (List Int)) (g : Int) (p : S61) : Int := if p.f0 < 0 ∨ p.f1 < 0 then g else at2 T p.f0.toNat p.f1.toNat
def costL (T : List (List Int)) (g : Int) : List S61 → Int
  | [] => 0
  | p :: l => costP T g p + costL T g l
section
variable (X Y : List ByteArray) (g n f o : Int) (hg : 1 ≤ g ∧ g ≤ 1000) (hn : 1 ≤ n ∧ n ≤ 1000) (hf : 1 ≤ f ∧ f ≤ 1000) (hX : X.length ≤ 1024) (hY : Y.length ≤ 1024)
include hg hn hf
theorem costP_range (p : S61) (hp : (p.f0 = -1 ∧ 0 ≤ p.f1 ∧ p.f1 < Y.length) ∨ (p.f1 = -1 ∧ 0 ≤ p.f0 ∧ p.f0 < X.length) ∨ (0 ≤ p.f0 ∧ p.f0 < X.length ∧ 0 ≤ p.f1 ∧ p.f1 < Y.length)) : 0 ≤ costP (gridP X Y n f o) g p ∧ costP (gridP X Y n f o) g p ≤ 1000 := by
  unfold costP
  by_cases h : p.f0 < 0 ∨ p.f1 < 0
  · rw [if_pos h]; omega
  · rw [if_neg h, grid_at X Y n f o _ _ (by omega) (by omega)]
    exact wO_range n f o hn.1 hf _ _
theorem price_loop (L : List S61) (hL : L.length ≤ 4096) (hin : ∀ p ∈ L, (p.f0 = -1 ∧ 0 ≤ p.f1 ∧ p.f1 < Y.length) ∨ (p.f1 = -1 ∧ 0 ≤ p.f0 ∧ p.f0 < X.length) ∨ (0 ≤ p.f0 ∧ p.f0 < X.length ∧ 0 ≤ p.f1 ∧ p.f1 < Y.length)) : ∀ (d x : Nat) (s : Int), x + d = L.length → 0 ≤ s ∧ s ≤ 1000 * x →
    Ev (fun k => pair_Price.l0 k (gridP X Y n f o) s L (L.length : Int) (x : Int) g n f o) (s + costL (gridP X Y n f o) g (L.drop x), 0) := by
  intro d
  induction d with
  | zero =>
    intro x s hd hs
    rw [List.drop_of_length_le (by omega), costL, Int.add_zero]
    exact Ev.step (f := fun _ => some (s, 0)) (fun k => by rw [pair_Price.l0, if_neg (by omega)]) (Ev.now _)
  | succ d IH =>
    intro x s hd hs
    have hx : x < L.length := by omega
    have hpi := hin L[x] (List.getElem_mem hx)
    have hr := costP_range X Y g n f o hg hn hf L[x] hpi
    rw [List.drop_eq_getElem_cons hx, costL, ← Int.add_assoc]
    have e0 : rd_T61 L (x : Int) = L[x] := rdP_nat L x hx
    have wx := wsucc x (by omega)
    have eG := grid_len X Y n f o
    generalize hGd : gridP X Y n f o = G at hr eG IH ⊢
    refine Ev.step (fun k => ?_) (IH (x + 1) (s + costP G g L[x]) (by omega) (by omega))
    rw [pair_Price.l0, if_pos (by omega), if_pos (by omega), if_pos (by omega), e0, wx]
    unfold costP at hr ⊢
    by_cases h1 : L[x].f0 < 0
    · rw [if_pos (Or.inl h1)] at hr ⊢
      rw [if_pos h1, ws (s + g) (by omega) (by omega)]
    · rw [if_neg h1]
      by_cases h2 : L[x].f1 < 0
      · rw [if_pos (Or.inr h2)] at hr ⊢
        rw [if_pos h2, ws (s + g) (by omega) (by omega)]
      · have h3 : ¬ (L[x].f0 < 0 ∨ L[x].f1 < 0) := fun e => e.elim h1 h2
        rw [if_neg h3] at hr ⊢
        have el : (rd_L11 G L[x].f0).length = Y.length := by
          have := grid_rlen X Y n f o L[x].f0.toNat (by omega)
          rw [hGd] at this
          exact this
        have ev : rd (rd_L11 G L[x].f0) L[x].f1 = at2 G L[x].f0.toNat L[x].f1.toNat := rfl
        generalize at2 G L[x].f0.toNat L[x].f1.toNat = v at hr ev ⊢
        rw [if_neg h2, if_pos (by omega), if_pos (by omega), if_pos (by omega), if_pos (by omega), ev, ws (s + v) (by omega) (by omega)]
end
/-- A price, or the error. -/
def priceR (X Y : List ByteArray) (L : List S61) (g n f o : Int) : Int × Int := if (gridR X Y g n f o).2 = 0 then (if rightL X.length Y.length L 0 0 = true then (costL (gridP X Y n f o) g L, 0) else (0, 2)) else (0, (gridR X Y g n f o).2)
theorem price_eq (X Y : List ByteArray) (hX : smallL X) (hY : smallL Y) (L : List S61) (hL : L.length < 4611686018427387904) (g n f o : Int) : Ev (fun k => pair_Price.f k X Y L g n f o) (priceR X Y L g n f o) := by
  unfold priceR
  refine ev_bind (grid_eq X Y hX hY g n f o) ?_
  by_cases h : (gridR X Y g n f o).2 = 0
  · obtain ⟨e, hs, l1, l2⟩ := gridR_ok h
    unfold scaleOk at hs
    rw [if_pos h, e]
    refine Ev.congr (fun k => by rw [if_pos rfl]) (ev_bind (right_eq X.length Y.length L hL) ?_)
    by_cases hr : rightL X.length Y.length L 0 0 = true
    · rw [if_pos hr]
      obtain ⟨a, b⟩ := rightL_in X.length Y.length L 0 0 (Nat.zero_le _) (Nat.zero_le _) hr
      have := price_loop X Y g n f o hs.1 hs.2.1 hs.2.2.1 L (by omega) b L.length 0 0 (by omega) (by omega)
      rw [Int.zero_add] at this
      exact Ev.congr (fun k => by rw [if_pos hr]; rfl) this
    · rw [if_neg hr]
      exact Ev.congr (fun k => by rw [if_neg hr]) (Ev.now _)
  · rw [if_neg h]
    exact Ev.congr (fun k => by rw [if_neg h]) (Ev.now _)
end Go.Proofs.YtcpbalnbgmjhjaaDoor.Pure
/-
  What an alignment's walk gives: it is an alignment, it costs the least price; the law's first words.
-/
namespace Go.Proofs.YtcpbalnbgmjhjaaDoor.Pure
open Go.RowKit Go.Proofs.YtcpbalnbgmjhjaaDoor.G Go.Proofs.YtcpbalnbgmjhjaaDoorW.PrintWords Go.Proofs.YtcpbalnbgmjhjaaDoorW.PrintLast Go.Proofs.YtcpbalnbgmjhjaaDoorW.PrintMore
theorem smallSum (L : List ByteArray) (h : (L.map fun y => (y.size + 1)).sum ≤ 1048576) : smallL L := by
  intro s hs
  have : ∀ (L : List ByteArray), s ∈ L → s.size + 1 ≤ (L.map fun y => (y.size + 1)).sum := by
    intro L
    induction L with
    | nil => intro h; cases h
    | cons y L ih =>
      intro h
      rw [List.map_cons, List.sum_cons]
      rcases List.mem_cons.1 h with rfl | h
      · omega
      · have := ih h; omega
  have := this L hs
  omega
section
variable {α : Type} (w : α → α → Int) (gap : Int)
theorem code_cases (X Y : List α) (i j : Nat) (hi : i ≤ X.length) (hj : j ≤ Y.length) (hij : i < X.length ∨ j < Y.length) :
    (∃ h : i < X.length ∧ j < Y.length, pL w gap (X.drop i) (Y.drop j) i j = ⟨(i : Int), (j : Int)⟩ :: pL w gap (X.drop (i + 1)) (Y.drop (j + 1)) (i + 1) (j + 1) ∧ dR w gap X Y i j = dR w gap X Y (i + 1) (j + 1) + w (X[i]'h.1) (Y[j]'h.2)) ∨
    (i < X.length ∧ pL w gap (X.drop i) (Y.drop j) i j = ⟨(i : Int), -1⟩ :: pL w gap (X.drop (i + 1)) (Y.drop j) (i + 1) j ∧ dR w gap X Y i j = dR w gap X Y (i + 1) j + gap) ∨
    (j < Y.length ∧ pL w gap (X.drop i) (Y.drop j) i j = ⟨-1, (j : Int)⟩ :: pL w gap (X.drop i) (Y.drop (j + 1)) i (j + 1) ∧ dR w gap X Y i j = dR w gap X Y i (j + 1) + gap) := by
  by_cases c1 : codeP w gap X Y i j = 1
  · obtain ⟨e, h1, h2⟩ := pL_both w gap X Y i j c1 i j
    refine Or.inl ⟨⟨h1, h2⟩, e, ?_⟩
    rw [codeP_in _ _ _ _ _ _ h1 h2] at c1
    by_cases a : dR w gap X Y i j = dR w gap X Y (i + 1) (j + 1) + w X[i] Y[j]
    · exact a
    · rw [if_neg a] at c1; split at c1 <;> omega
  · by_cases c2 : codeP w gap X Y i j = 2
    · obtain ⟨e, h1⟩ := pL_first w gap X Y i j c2 i j
      refine Or.inr (Or.inl ⟨h1, e, ?_⟩)
      by_cases h2 : j < Y.length
      · rw [codeP_in _ _ _ _ _ _ h1 h2] at c2
        by_cases a : dR w gap X Y i j = dR w gap X Y (i + 1) (j + 1) + w X[i] Y[j]
        · rw [if_pos a] at c2; omega
        · rw [if_neg a] at c2
          by_cases b : dR w gap X Y i j = dR w gap X Y (i + 1) j + gap
          · exact b
          · rw [if_neg b] at c2; omega
      · obtain rfl : j = Y.length := by omega
        rw [dR_endr _ _ _ _ _ (by omega), dR_endr _ _ _ _ _ (by omega), show ((X.length : Int) - (i : Int)) = ((X.length : Int) - ((i + 1 : Nat) : Int)) + 1 by omega, Int.add_mul, Int.one_mul]
    · obtain ⟨e, h2⟩ := pL_second w gap X Y i j hij c1 c2 i j
      refine Or.inr (Or.inr ⟨h2, e, ?_⟩)
      by_cases h1 : i < X.length
      · have hd := dR_step w gap X Y i j h1 h2
        rw [codeP_in _ _ _ _ _ _ h1 h2] at c1 c2
        by_cases a : dR w gap X Y i j = dR w gap X Y (i + 1) (j + 1) + w X[i] Y[j]
        · rw [if_pos a] at c1; exact absurd rfl c1
        · rw [if_neg a] at c2
          by_cases b : dR w gap X Y i j = dR w gap X Y (i + 1) j + gap
          · rw [if_pos b] at c2; exact absurd rfl c2
          · omega
      · obtain rfl : i = X.length := by omega
        rw [dR_endl _ _ _ _ _ (by omega), dR_endl _ _ _ _ _ (by omega), show ((Y.length : Int) - (j : Int)) = ((Y.length : Int) - ((j + 1 : Nat) : Int)) + 1 by omega, Int.add_mul, Int.one_mul]
theorem pL_right (X Y : List α) : ∀ (d i j : Nat), (X.length - i) + (Y.length - j) ≤ d → i ≤ X.length → j ≤ Y.length → rightL X.length Y.length (pL w gap (X.drop i) (Y.drop j) i j) (i : Int) (j : Int) = true := by
  intro d
  induction d with
  | zero =>
    intro i j hd hi hj
    rw [pL_done _ _ _ _ _ _ (by omega) (by omega), rightL]
    exact decide_eq_true ⟨by omega, by omega⟩
  | succ d IH =>
    intro i j hd hi hj
    have ci : ((i : Int) + 1) = ((i + 1 : Nat) : Int) := by omega
    have cj : ((j : Int) + 1) = ((j + 1 : Nat) : Int) := by omega
    by_cases hij : i < X.length ∨ j < Y.length
    · rcases code_cases w gap X Y i j hi hj hij with ⟨⟨h1, h2⟩, e, _⟩ | ⟨h1, e, _⟩ | ⟨h2, e, _⟩
      · rw [e, rightL, if_pos ⟨rfl, rfl, by omega, by omega⟩, ci, cj]
        exact IH (i + 1) (j + 1) (by omega) (by omega) (by omega)
      · rw [e, rightL, if_neg (fun h => by have := h.2.1; dsimp only at this; omega), if_pos ⟨rfl, rfl, by omega⟩, ci]
        exact IH (i + 1) j (by omega) (by omega) (by omega)
      · rw [e, rightL, if_neg (fun h => by have := h.1; dsimp only at this; omega), if_neg (fun h => by have := h.1; dsimp only at this; omega), if_pos ⟨rfl, rfl, by omega⟩, cj]
        exact IH i (j + 1) (by omega) (by omega) (by omega)
    · rw [pL_done _ _ _ _ _ _ (by omega) (by omega), rightL]
      exact decide_eq_true ⟨by omega, by omega⟩
end
theorem pL_cost (X Y : List ByteArray) (g n f o : Int) : ∀ (d i j : Nat), (X.length - i) + (Y.length - j) ≤ d → i ≤ X.length → j ≤ Y.length → costL (gridP X Y n f o) g (pL (wO n f o) g (X.drop i) (Y.drop j) i j) = dR (wO n f o) g X Y i j := by
  intro d
  induction d with
  | zero =>
    intro i j hd hi hj
    rw [pL_done _ _ _ _ _ _ (by omega) (by omega), costL]
    unfold dR
    rw [List.drop_of_length_le (by omega), List.drop_of_length_le (by omega), dL_nil]
    simp
  | succ d IH =>
    intro i j hd hi hj
    by_cases hij : i < X.length ∨ j < Y.length
    · rcases code_cases (wO n f o) g X Y i j hi hj hij with ⟨⟨h1, h2⟩, e, q⟩ | ⟨h1, e, q⟩ | ⟨h2, e, q⟩
      · rw [e, costL, IH (i + 1) (j + 1) (by omega) (by omega) (by omega), q]
        unfold costP
        rw [if_neg (by dsimp only; omega)]
        dsimp only
        rw [Int.toNat_natCast, Int.toNat_natCast, grid_at X Y n f o i j h1 h2, Int.add_comm]
      · rw [e, costL, IH (i + 1) j (by omega) (by omega) (by omega), q]
        unfold costP
        rw [if_pos (by dsimp only; omega), Int.add_comm]
      · rw [e, costL, IH i (j + 1) (by omega) (by omega) (by omega), q]
        unfold costP
        rw [if_pos (by dsimp only; omega), Int.add_comm]
    · rw [pL_done _ _ _ _ _ _ (by omega) (by omega), costL]
      unfold dR
      rw [List.drop_of_length_le (by omega), List.drop_of_length_le (by omega), dL_nil]
      simp
theorem pL_all (X Y : List ByteArray) (g n f o : Int) : rightL X.length Y.length (pL (wO n f o) g X Y 0 0) 0 0 = true ∧ costL (gridP X Y n f o) g (pL (wO n f o) g X Y 0 0) = dL (wO n f o) g X Y :=
  ⟨pL_right (wO n f o) g X Y (X.length + Y.length) 0 0 (by omega) (Nat.zero_le _) (Nat.zero_le _), pL_cost X Y g n f o (X.length + Y.length) 0 0 (by omega) (Nat.zero_le _) (Nat.zero_le _)⟩
/-! the law's first words -/
def the_ : ByteArray := ⟨#[116, 104, 101]⟩
def cat_ : ByteArray := ⟨#[99, 97, 116]⟩
def old_ : ByteArray := ⟨#[111, 108, 100]⟩
theorem aw10_w : wO 1 3 0 the_ the_ = 0 ∧ wO 1 3 0 the_ old_ = 3 ∧ wO 1 3 0 the_ cat_ = 3 ∧ wO 1 3 0 cat_ the_ = 3 ∧ wO 1 3 0 cat_ old_ = 3 ∧ wO 1 3 0 cat_ cat_ = 0 := by decide +kernel
theorem aw10_long : ¬ longL [the_, cat_] 0 ∧ ¬ longL [the_, old_, cat_] 0 := by decide +kernel
theorem aw10_path : pL (wO 1 3 0) 2 [the_, cat_] [the_, old_, cat_] 0 0 = [⟨0, 0⟩, ⟨-1, 1⟩, ⟨1, 2⟩] ∧ dL (wO 1 3 0) 2 [the_, cat_] [the_, old_, cat_] = 2 := by
  obtain ⟨h1, h2, h3, h4, h5, h6⟩ := aw10_w
  constructor
  · simp [pL, dL_cons, dL_nil, dL_nil', h1, h2, h3, h4, h5, h6, Int.min_def]
  · simp [dL_cons, dL_nil, dL_nil', h1, h2, h3, h4, h5, h6, Int.min_def]
theorem awake10 : Ev (fun k => siglumlaw10_awake.f k) true := by
  have hs1 : smallL [the_, cat_] := by intro s h; simp at h; rcases h with rfl | rfl <;> decide
  have hs2 : smallL [the_, old_, cat_] := by intro s h; simp at h; rcases h with rfl | rfl | rfl <;> decide
  have e : alignR [the_, cat_] [the_, old_, cat_] 2 1 3 0 = ([⟨0, 0⟩, ⟨-1, 1⟩, ⟨1, 2⟩], 2, 0) := by
    have hg : gridR [the_, cat_] [the_, old_, cat_] 2 1 3 0 = (gridP [the_, cat_] [the_, old_, cat_] 1 3 0, 0) := by
      unfold gridR
      rw [if_pos (by decide), if_neg (fun h => h.elim aw10_long.1 aw10_long.2)]
    unfold alignR
    rw [hg, if_pos rfl, aw10_path.1, aw10_path.2]
  have := align_eq [the_, cat_] [the_, old_, cat_] hs1 hs2 2 1 3 0
  rw [e] at this
  exact ev_bind (g := fun k => pair_Align.f k [the_, cat_] [the_, old_, cat_] 2 1 3 0) this (Ev.now _)
end Go.Proofs.YtcpbalnbgmjhjaaDoor.Pure
/-
  How an argument's reading as data gives the kinds that the print speaks of: integers, bools, strings, slices, structs of one-cell fields; and that the bulk of what is read is no more than the data's bulk.
-/
namespace Go.Proofs.YtcpbalnbgmjhjaaDoor.Op
open Go.RowKit Go.ChangeShapes Go.WideShapes Go.Deep Go.Proofs.YtcpbalnbgmjhjaaDoorW.PrintWords
theorem bulk_pos {H : Type} (d : DataW H) : 1 ≤ Rows.uptoBulk d := by
  cases d with
  | lit l => cases l <;> simp [Rows.uptoBulk]
  | nil => simp [Rows.uptoBulk]
  | ptr d => simp [Rows.uptoBulk]
  | slice elems spare => simp [Rows.uptoBulk]
  | agg parts => simp [Rows.uptoBulk]
  | iface t d => simp [Rows.uptoBulk]
  | map entries => simp [Rows.uptoBulk]
  | held h => simp [Rows.uptoBulk]
theorem bulk_append {H : Type} (l r : List (DataW H)) : Rows.uptoBulkAll (l ++ r) = Rows.uptoBulkAll l + Rows.uptoBulkAll r := by
  induction l with
  | nil => simp [Rows.uptoBulkAll]
  | cons x l ih => simp only [List.cons_append, Rows.uptoBulkAll, ih]; omega
theorem bulk_bound {H : Type} {l : List (DataW H)} (hk : Rows.uptoSmall H l = true) : Rows.uptoBulkAll l ≤ 1048576 := of_decide_eq_true hk
/-- A reading of type t gives a value of kind d, good, of no more bulk. -/
def Opens (P : Program) {α : Type} (t : TypeId) (d : Kd α) (good : α → Prop) (bulk : α → Nat) : Prop :=
  ∀ {H : Type} {enc : TypeId × Value → H} {w : World} {base : Nat} {spare : Nat → Bool} {held : Bool} {fuel : Nat} {cs : List Value} {x : DataW H × List MemPlace},
    DataW.trod enc P w base spare held fuel t cs = some x → ∃ a : α, d.K w a cs ∧ good a ∧ bulk a ≤ Rows.uptoBulk x.1
variable {P : Program}
theorem opens_int {t : TypeId} {k : IntKind} (ht : P.underlying t = some (.int k)) : Opens P t (Kd.int k) (fun n => (Lit.int k n).wf = true) (fun _ => 1) := by
  intro H enc w base spare held fuel cs x h
  obtain ⟨n, rfl, rfl, hw⟩ := DataW.trod_int ht h
  exact ⟨n, rfl, hw, bulk_pos _⟩
theorem opens_string {t : TypeId} (ht : P.underlying t = some .string) : Opens P t Kd.string (fun s => s.size ≤ maxLen) (fun s => s.size + 1) := by
  intro H enc w base spare held fuel cs x h
  obtain ⟨n, rfl, rfl, hw⟩ := DataW.trod_string ht h
  refine ⟨n, rfl, hw, ?_⟩
  simp [Rows.uptoBulk]
theorem opens_slice {α : Type} {t e : TypeId} {d : Kd α} {good : α → Prop} {bulk : α → Nat} (ht : P.underlying t = some (.slice e)) (hc : P.cellsOf e = d.sz) (h : Opens P e d good bulk) :
    Opens P t (Kd.slice e d) (fun l => (∀ x ∈ l, good x) ∧ l.length ≤ maxLen) (fun l => (l.map bulk).sum + 1) := by
  intro H enc w base spare held fuel cs x hx
  rcases open_slice ht hx with ⟨rfl, rfl⟩ | ⟨a, len, cap, m, n, D, Pl, rfl, hb, hl, hm, hmm, rfl, hi⟩
  · exact ⟨[], ⟨none, 0, rfl, Nat.le_refl _, rfl, Nat.zero_le _, fun h0 => absurd h0 (Nat.lt_irrefl _)⟩, ⟨fun _ hx => absurd hx (List.not_mem_nil), Nat.zero_le _⟩, bulk_pos _⟩
  · have hlm : len ≤ m := by rw [hmm]; split <;> omega
    have key : ∀ j, j ≤ len → ∃ l : List α, l.length = j ∧ (∀ i p, l[i]? = some p → ∃ c, w.cells? base (a.add (i * P.cellsOf e)) (P.cellsOf e) = some c ∧ d.K w p c) ∧ (∀ x ∈ l, good x) ∧ (l.map bulk).sum ≤ Rows.uptoBulkAll ((List.range j).map D) := by
      intro j
      induction j with
      | zero => intro _; exact ⟨[], rfl, fun i p hp => by simp at hp, fun _ hx => absurd hx (List.not_mem_nil), by simp⟩
      | succ j ih =>
        intro hj
        obtain ⟨l, hll, h1, h2, h3⟩ := ih (by omega)
        obtain ⟨cs', hcs, htr⟩ := hi j (by omega)
        obtain ⟨p, hK, hg, hbk⟩ := h htr
        refine ⟨l ++ [p], by simp [hll], fun i q hq => ?_, fun x hx => ?_, ?_⟩
        · rcases Nat.lt_trichotomy i l.length with hlt | heq | hgt
          · rw [List.getElem?_append_left hlt] at hq
            exact h1 i q hq
          · subst heq
            simp at hq
            subst hq
            rw [hll]
            exact ⟨cs', hcs, hK⟩
          · rw [List.getElem?_eq_none (by simp; omega)] at hq
            cases hq
        · rcases List.mem_append.1 hx with hx | hx
          · exact h2 x hx
          · rw [List.mem_singleton.1 hx]; exact hg
        · rw [List.map_append, List.sum_append, List.range_succ, List.map_append, bulk_append]
          simp only [List.map_cons, List.map_nil, List.sum_cons, List.sum_nil, Rows.uptoBulkAll]
          have hbk' : bulk p ≤ Rows.uptoBulk (D j) := hbk
          omega
    obtain ⟨l, hll, h1, h2, h3⟩ := key len (Nat.le_refl _)
    refine ⟨l, ⟨some a, cap, by rw [hll], by omega, rfl, by rw [hll]; unfold maxLen at hm; omega, fun _ => ⟨a, rfl, fun j p hp => ?_⟩⟩, ⟨h2, by rw [hll]; omega⟩, ?_⟩
    · obtain ⟨c, hcc, hK⟩ := h1 j p hp
      obtain ⟨_, hcl, hat⟩ := World.cells?_some hcc
      refine ⟨c, by rw [hcl, hc], hK, fun i u hu => ?_⟩
      have hil : i < P.cellsOf e := by
        rw [← hcl]
        exact (List.getElem?_eq_some_iff.1 hu).1
      rw [← hc, ← Go.Deep.add_add, hat i hil, hu]
    · show (l.map bulk).sum + 1 ≤ Rows.uptoBulkAll ((List.range len).map D) + Rows.uptoBulkAll _ + 1
      omega
/-- A slice is no longer than its weight allows. -/
theorem sized_len {H : Type} {enc : TypeId × Value → H} {W : World} {base : Nat} {spare : Nat → Bool} {held : Bool} {t e : TypeId} {a : Option Addr} {len cap fuel : Nat} {d : DataW H} {ps : List MemPlace} {ts : List TypeId} {ds : List (DataW H)} {j : Nat}
    (hsz : (DataW.weightsEach P ts ds).all (· ≤ reachBytes) = true) (ht : ts[j]? = some t) (hd : ds[j]? = some d) (hu : P.underlying t = some (.slice e)) {B : Nat} (hB : P.bytesOf e = B)
    (h : DataW.trod enc P W base spare held fuel t [.slice a len cap] = some (d, ps)) : len * B ≤ 140737488351232 := by
  rcases open_slice hu h with ⟨hcs, _⟩ | ⟨a', len', cap', m, n, D, Pl, hcs, _, _, _, _, hx, _⟩
  · simp at hcs
    obtain ⟨rfl, rfl, rfl⟩ := hcs
    simp
  · simp at hcs
    obtain ⟨rfl, rfl, rfl⟩ := hcs
    obtain ⟨rfl, _⟩ := Prod.mk.inj hx
    have z := sized_slice hsz ht hd hu
    rw [hB, List.length_map, List.length_range] at z
    exact Nat.le_trans (Nat.mul_le_mul_right _ (Nat.le_add_right _ _)) z
/-- A struct of one-cell fields. -/
theorem open_fields {H : Type} {enc : TypeId × Value → H} {w : World} {base : Nat} {spare : Nat → Bool} {held : Bool} {t : TypeId} {fs : Array Field} {fuel : Nat} {cs : List Value} {x : DataW H × List MemPlace} (he : P.underlying t = some (.struct fs))
    (hone : oneCellFields P fs = true) (hC : P.cellsOf t = fs.size) (h : DataW.trod enc P w base spare held fuel t cs = some x) :
    ∃ (ys : List (DataW H × List MemPlace)) (n : Nat), x.1 = .agg (ys.map (·.1)) ∧ ys.length = fs.size ∧ cs.length = fs.size ∧
      ∀ (j : Nat) (f : Field), fs[j]? = some f → ∃ (v : Value) (y : DataW H × List MemPlace), cs[j]? = some v ∧ ys[j]? = some y ∧ DataW.trod enc P w base spare held n f.type [v] = some y := by
  obtain ⟨ys, n', hn', hy, hlen, hyl, hf⟩ := DataW.trod_struct he h
  refine ⟨ys, n', by rw [hy], hyl, by rw [hlen, hC], fun j f hj => ?_⟩
  obtain ⟨ho, hk⟩ := hone_of hone j f hj
  have hjl : j < fs.size := (Array.getElem?_eq_some_iff.1 hj).1
  have hcl : j < cs.length := by rw [hlen, hC]; exact hjl
  have h1 := hf j f hj
  rw [ho, hk] at h1
  have hone' : (cs.drop j).take 1 = [cs[j]] := by
    rw [List.drop_eq_getElem_cons hcl]
    rfl
  rw [hone'] at h1
  have hys : ys[j]? = some (ys[j]'(by omega)) := List.getElem?_eq_getElem (by omega)
  exact ⟨_, _, List.getElem?_eq_getElem hcl, hys, h1.trans hys⟩
end Go.Proofs.YtcpbalnbgmjhjaaDoor.Op
/-
  The listed tables of utf8, strings and unicode: what a row's list gives a walk; a world in which the listed variables lie as their initialisers lay them.
-/
namespace Go.Proofs.YtcpbalnbgmjhjaaDoor.Tb
open Go.Shelf Go.ChangeShapes Go.WideShapes Go.ChangeAt Go.RowKit Go.Lib
abbrev listed : List (String × DataW Unit) := [("unicode/utf8.acceptRanges", Rows.laid_unicode_utf8_acceptRanges), ("unicode.White_Space", Rows.laid_unicode_White_Space), ("strings.asciiSpace", Rows.laid_strings_asciiSpace), ("unicode/utf8.first", Rows.laid_unicode_utf8_first)]
theorem acc_eq : (Rows.laid_unicode_utf8_acceptRanges : DataW Unit) = Lib.acceptData := by kernel_rfl
theorem first_eq : (Rows.laid_unicode_utf8_first : DataW Unit) = Lib.firstData := Pinned.utf8First_eq
theorem space_eq : (Rows.laid_strings_asciiSpace : DataW Unit) = Lib.tabData .u8 Lib.asciiSpaceTab := by kernel_rfl
theorem tabs {W : World} (hL : laidMet Tryd.prog listed W) : Utf.Tabs2 W := by
  have h4 : VarReads Tryd.prog W "unicode/utf8.acceptRanges" acceptData := by rw [← acc_eq]; exact Lib.laidMet.reads hL (.head _)
  have h3 : VarReads Tryd.prog W "unicode/utf8.first" firstData := by rw [← first_eq]; exact Lib.laidMet.reads hL (.tail _ (.tail _ (.tail _ (.head _))))
  have h2 : VarReads Tryd.prog W "strings.asciiSpace" (Lib.tabData .u8 Lib.asciiSpaceTab) := by rw [← space_eq]; exact Lib.laidMet.reads hL (.tail _ (.tail _ (.head _)))
  refine ⟨utf8Tabs_of_readsT (U8Types.of260 Tryd.lays260) ⟨by kernel_rfl, by kernel_rfl, by kernel_rfl, by kernel_rfl, by kernel_rfl, by kernel_rfl, by kernel_rfl⟩ h3 h4, ?_⟩
  obtain ⟨g, t, cs, fuel, p, hg, ht, hv, hread⟩ := h2
  have e1 : g = 2 := Option.some.inj (hg.symm.trans (by kernel_rfl))
  subst e1
  have e2 : t = 118 := Option.some.inj (ht.symm.trans (by kernel_rfl))
  subst e2
  have hc := Lib.cells_of_tab (n := 256) (e := 5) Tryd.underlying118 Tryd.underlying5 (by kernel_rfl) (by kernel_rfl) hread
  unfold Lib.TabIs
  rw [hv]
  congr 1
  exact Array.toList_inj.1 (by rw [hc])
noncomputable def laidWorld (os : Os) : World :=
  let w0 := World.holding Tryd.prog os ⟨#[], #[], []⟩
  let put (h : Array Obj) (g : Nat) (cs : Array Value) : Array Obj := h.modify g fun
    | .cells _ t frozen => .cells cs t frozen
    | o => o
  let h1 := put w0.heap 0 (Lib.firstTab.map fun z => Value.int .u8 z).toArray
  let h2 := put h1 1 ((List.range 16).flatMap fun i => [Value.int .u8 (Lib.accLo i), Value.int .u8 (Lib.accHi i)]).toArray
  let h3 := put h2 2 (Lib.asciiSpaceTab.map fun z => Value.int .u8 z).toArray
  let h4 := put h3 3 #[.pointer (some ⟨h3.size, 0, none⟩)]
  let h5 := (h4.push (.cells #[.slice (some ⟨h4.size + 1, 0, none⟩) 7 7, .slice none 0 0, .int .i64 2] 154 (0, 0))).push (.cells ([9, 13, 1, 32, 133, 101, 160, 5760, 5600, 8192, 8202, 1, 8232, 8233, 1, 8239, 8287, 48, 12288, 12288, 1].map fun z => Value.int .u16 z).toArray 157 (0, 0))
  { w0 with heap := h5 }
theorem laid_met (os : Os) (args : Array Value) : laidMet Tryd.prog listed ((laidWorld os).forCall (fun _ _ => 0) ⟨#[], args, []⟩).memory := by
  have h := (LaidIn.of_run (P := Tryd.prog) (w := ((laidWorld os).forCall (fun _ _ => 0) ⟨#[], args, []⟩).memory) (l := [("unicode/utf8.acceptRanges", Lib.acceptData), ("unicode.White_Space", Rows.laid_unicode_White_Space), ("strings.asciiSpace", Rows.laid_strings_asciiSpace), ("unicode/utf8.first", Lib.firstData)]) (List.range 40) 8 (by kernel_rfl) (by kernel_rfl) (by kernel_rfl) (by kernel_rfl)).met
  rw [← acc_eq, ← first_eq] at h
  exact h
end Go.Proofs.YtcpbalnbgmjhjaaDoor.Tb
