import Derived.Test.YtbpinnanfanaaaaDoorV238
import Derived.Test.YtbpinnanfanaaaaDoorV227
import Derived.Test.YtbpinnanfanaaaaDoorV211
import Derived.Test.YtbpinnanfanaaaaDoorV226
import Derived.Test.YtbpinnanfanaaaaDoorV225
import Derived.Test.YtbpinnanfanaaaaDoorV235
import Derived.Test.YtbpinnanfanaaaaDoorV232
import Derived.Test.YtbpinnanfanaaaaDoorV234
import Derived.Test.YtbpinnanfanaaaaDoorV212
/-
  slim.Some answers an alignment, and it costs the least price.
-/
namespace Go.Proofs.YtbpinnanfanaaaaDoor.Pure
open Go.RowKit Go.Proofs.YtbpinnanfanaaaaDoor.L Go.Proofs.YtbpinnanfanaaaaDoorW.PrintWords Go.Proofs.YtbpinnanfanaaaaDoorW.PrintLast Go.Proofs.YtbpinnanfanaaaaDoorW.PrintMore
theorem some_l0 (j1 : Nat) (hj : j1 ≤ 4096) : ∀ (d x : Nat) (acc : List S59), x + d = j1 → acc.length + d ≤ 4096 → Ev (fun k => slim_task_some.l0 k acc (j1 : Int) (x : Int)) (acc ++ gapsL x d) := by
  intro d
  induction d with
  | zero =>
    intro x acc hd ha
    exact Ev.step (f := fun _ => some (acc ++ gapsL x 0)) (fun k => by rw [slim_task_some.l0, if_neg (by omega), gapsL, List.append_nil]) (Ev.now _)
  | succ d IH =>
    intro x acc hd ha
    have := IH (x + 1) (acc ++ [⟨-1, (x : Int)⟩]) (by omega) (by rw [List.length_append]; simp only [List.length_cons, List.length_nil]; omega)
    rw [List.append_assoc] at this
    exact Ev.step (fun k => by rw [slim_task_some.l0, if_pos (by omega), if_pos (by omega), wsucc x (by omega)]) this
def pickL (i : Nat) (b : Int) : Nat → Nat → List S59
  | _, 0 => []
  | x, d + 1 => (if (x : Int) = b then ⟨(i : Int), (x : Int)⟩ else ⟨-1, (x : Int)⟩) :: pickL i b (x + 1) d
theorem pickL_out (i : Nat) (b : Int) : ∀ (d x : Nat), (∀ y : Nat, x ≤ y → y < x + d → ¬ (y : Int) = b) → pickL i b x d = gapsL x d := by
  intro d
  induction d with
  | zero => intro x _; rfl
  | succ d ih => intro x h; rw [pickL, gapsL, if_neg (h x (Nat.le_refl _) (by omega)), ih (x + 1) (fun y h1 h2 => h y (by omega) (by omega))]
theorem pickL_right (i : Nat) (b : Nat) : ∀ (d x : Nat), x ≤ b → b < x + d → rightL ((i + 1 : Nat) : Int) ((x + d : Nat) : Int) (pickL i (b : Int) x d) (i : Int) (x : Int) = true := by
  intro d
  induction d with
  | zero => intro x h1 h2; omega
  | succ d ih =>
    intro x h1 h2
    by_cases e : x = b
    · subst e
      rw [pickL, if_pos rfl, rightL, if_pos ⟨rfl, rfl, by omega, by omega⟩, pickL_out i _ d (x + 1) (fun y a _ => by omega)]
      have := gapsL_right ((i + 1 : Nat) : Int) (by omega) d (x + 1)
      rw [show x + 1 + d = x + (d + 1) by omega] at this
      exact this
    · have e' : ¬ (x : Int) = (b : Int) := by omega
      rw [pickL, if_neg e', rightL, if_neg (by dsimp only; omega), if_neg (by dsimp only; omega), if_pos ⟨rfl, rfl, by omega⟩]
      have := ih (x + 1) (by omega) (by omega)
      rw [show x + 1 + d = x + (d + 1) by omega] at this
      exact this
theorem pickL_cost (T : List (List Int)) (g : Int) (i : Nat) (b : Nat) : ∀ (d x : Nat), x ≤ b → b < x + d → costL T g (pickL i (b : Int) x d) = ((d : Int) - 1) * g + at2 T i b := by
  intro d
  induction d with
  | zero => intro x h1 h2; omega
  | succ d ih =>
    intro x h1 h2
    rw [show (((d + 1 : Nat) : Int) - 1) = (d : Int) by omega]
    by_cases e : x = b
    · subst e
      rw [pickL, if_pos rfl, costL, pickL_out i _ d (x + 1) (fun y a _ => by omega), gapsL_cost]
      unfold costP
      rw [if_neg (by dsimp only; omega)]
      dsimp only
      rw [Int.toNat_natCast, Int.toNat_natCast]
      omega
    · have e' : ¬ (x : Int) = (b : Int) := by omega
      rw [pickL, if_neg e', costL, ih (x + 1) (by omega) (by omega)]
      unfold costP
      rw [if_pos (Or.inl (by dsimp only; omega)), Int.sub_mul, Int.one_mul]
      omega
theorem some_l2 (i : Nat) (b : Int) (j1 : Nat) (hj : j1 ≤ 4096) : ∀ (d x : Nat) (acc : List S59), x + d = j1 → acc.length + d ≤ 4096 → Ev (fun k => slim_task_some.l2 k acc (i : Int) (j1 : Int) b (x : Int)) (acc ++ pickL i b x d) := by
  intro d
  induction d with
  | zero =>
    intro x acc hd ha
    exact Ev.step (f := fun _ => some (acc ++ pickL i b x 0)) (fun k => by rw [slim_task_some.l2, if_neg (by omega), pickL, List.append_nil]) (Ev.now _)
  | succ d IH =>
    intro x acc hd ha
    rw [pickL]
    by_cases e : (x : Int) = b
    · have := IH (x + 1) (acc ++ [⟨(i : Int), (x : Int)⟩]) (by omega) (by rw [List.length_append]; simp only [List.length_cons, List.length_nil]; omega)
      rw [List.append_assoc] at this
      rw [if_pos e]
      exact Ev.step (fun k => by rw [slim_task_some.l2, if_pos (by omega), if_pos e, if_pos (by omega), wsucc x (by omega)]) this
    · have := IH (x + 1) (acc ++ [⟨-1, (x : Int)⟩]) (by omega) (by rw [List.length_append]; simp only [List.length_cons, List.length_nil]; omega)
      rw [List.append_assoc] at this
      rw [if_neg e]
      exact Ev.step (fun k => by rw [slim_task_some.l2, if_pos (by omega), if_neg e, if_pos (by omega), wsucc x (by omega)]) this
section
variable (X Y : List ByteArray) (g n f o : Int)
def SomeOk (i0 i1 j0 j1 : Nat) (L : List S59) : Prop := rightL (i1 : Int) (j1 : Int) L (i0 : Int) (j0 : Int) = true ∧ costL (gridP X Y n f o) g L = dL (wO n f o) g (win X i0 i1) (win Y j0 j1)
def BestOk (i j0 x : Nat) (b : Int) : Prop := (b = -1 ∧ ∀ y, j0 ≤ y → y < x → 2 * g ≤ at2 (gridP X Y n f o) i y) ∨ ∃ c : Nat, b = (c : Int) ∧ j0 ≤ c ∧ c < x ∧ at2 (gridP X Y n f o) i c < 2 * g ∧ ∀ y, j0 ≤ y → y < x → at2 (gridP X Y n f o) i c ≤ at2 (gridP X Y n f o) i y
theorem some_fin (hY : Y.length ≤ 1024) (i j0 j1 : Nat) (hi : i < X.length) (hj : j0 ≤ j1) (hj1 : j1 ≤ Y.length) (acc : List S59) (ha : acc.length + 1 + (j1 - j0) ≤ 4096) (b : Int) (hb : BestOk X Y g n f o i j0 j1 b) : ∃ L, SomeOk X Y g n f o i (i + 1) j0 j1 L ∧
    (b < 0 → Ev (fun k => slim_task_some.j2 k (acc ++ [⟨(i : Int), -1⟩]) (i : Int) (j0 : Int) (j1 : Int) b) (acc ++ L)) ∧ (¬ b < 0 → Ev (fun k => slim_task_some.j2 k acc (i : Int) (j0 : Int) (j1 : Int) b) (acc ++ L)) := by
  have lY := win_len Y j0 j1 hj hj1
  have h1 := dL_one (wO n f o) g X[i] (win Y j0 j1)
  rw [lY] at h1
  have eX := win_one X i hi
  have atw : ∀ c, j0 ≤ c → c < j1 → ∃ y ∈ win Y j0 j1, at2 (gridP X Y n f o) i c = wO n f o X[i] y := fun c a b => by
    have hc : c - j0 < (win Y j0 j1).length := by omega
    refine ⟨(win Y j0 j1)[c - j0], List.getElem_mem hc, ?_⟩
    have e := win_get Y j0 j1 (c - j0) hj1 (by omega) hc
    rw [grid_at X Y n f o i c hi (by omega), e]
    congr 2
    omega
  have wat : ∀ y ∈ win Y j0 j1, ∃ c, j0 ≤ c ∧ c < j1 ∧ at2 (gridP X Y n f o) i c = wO n f o X[i] y := fun y hy => by
    obtain ⟨q, hq, rfl⟩ := List.getElem_of_mem hy
    refine ⟨j0 + q, by omega, by omega, ?_⟩
    rw [grid_at X Y n f o i (j0 + q) hi (by omega), win_get Y j0 j1 q hj1 (by omega) hq]
  obtain ⟨u1, u2, u3⟩ := h1
  have U3 := Aside0.mk u3
  have UW := Aside0.mk wat
  have UA := Aside0.mk atw
  clear u3 wat atw
  rcases hb with ⟨rfl, hb⟩ | ⟨c, rfl, c1, c2, c3, c4⟩
  · refine ⟨⟨(i : Int), -1⟩ :: gapsL j0 (j1 - j0), ⟨?_, ?_⟩, fun _ => ?_, fun h => absurd (by omega) h⟩
    · rw [rightL, if_neg (by dsimp only; omega), if_pos ⟨rfl, rfl, by omega⟩]
      have := gapsL_right ((i + 1 : Nat) : Int) (by omega) (j1 - j0) j0
      rw [show j0 + (j1 - j0) = j1 by omega] at this
      exact this
    · rw [eX, costL, gapsL_cost]
      unfold costP
      rw [if_pos (Or.inr (by dsimp only; omega))]
      have e5 : (((j1 - j0 : Nat) : Int) + 1) * g = ((j1 - j0 : Nat) : Int) * g + g := by rw [Int.add_mul, Int.one_mul]
      have e6 : (((j1 - j0 : Nat) : Int) - 1) * g = ((j1 - j0 : Nat) : Int) * g - g := by rw [Int.sub_mul, Int.one_mul]
      have u3 := U3.out
      rw [e5] at u1 u3
      rw [e6] at u3
      rcases u3 with u3 | ⟨y, hy, u3⟩
      · omega
      · obtain ⟨c, c1, c2, c3⟩ := UW.out y hy
        have := hb c c1 c2
        omega
    · have := some_l2 i (-1) j1 (by omega) (j1 - j0) j0 (acc ++ [⟨(i : Int), -1⟩]) (by omega) (by rw [List.length_append]; simp only [List.length_cons, List.length_nil]; omega)
      rw [pickL_out i (-1) (j1 - j0) j0 (fun y _ _ => by omega), List.append_assoc] at this
      exact Ev.step (fun k => by rw [slim_task_some.j2]) this
  · refine ⟨pickL i (c : Int) j0 (j1 - j0), ⟨?_, ?_⟩, fun h => absurd h (by omega), fun _ => ?_⟩
    · have := pickL_right i c (j1 - j0) j0 c1 (by omega)
      rw [show j0 + (j1 - j0) = j1 by omega] at this
      exact this
    · rw [eX, pickL_cost _ g i c (j1 - j0) j0 c1 (by omega)]
      have e5 : (((j1 - j0 : Nat) : Int) + 1) * g = ((j1 - j0 : Nat) : Int) * g + g := by rw [Int.add_mul, Int.one_mul]
      have e6 : (((j1 - j0 : Nat) : Int) - 1) * g = ((j1 - j0 : Nat) : Int) * g - g := by rw [Int.sub_mul, Int.one_mul]
      have u3 := U3.out
      rw [e5] at u3
      rw [e6] at u2 u3 ⊢
      obtain ⟨y, hy, ey⟩ := UA.out c c1 c2
      have := u2 y hy
      rcases u3 with u3 | ⟨z, hz, u3⟩
      · omega
      · obtain ⟨d, d1, d2, d3⟩ := UW.out z hz
        have := c4 d d1 d2
        omega
    · have := some_l2 i (c : Int) j1 (by omega) (j1 - j0) j0 acc (by omega) (by omega)
      exact Ev.step (fun k => by rw [slim_task_some.j2]) this
theorem some_l1 (hg : 1 ≤ g ∧ g ≤ 1000) (hY : Y.length ≤ 1024) (i j0 j1 : Nat) (hi : i < X.length) (hj : j0 ≤ j1) (hj1 : j1 ≤ Y.length) (acc : List S59) (ha : acc.length + 1 + (j1 - j0) ≤ 4096) : ∀ (d x : Nat) (b : Int), x + d = j1 → j0 ≤ x → BestOk X Y g n f o i j0 x b → ∃ L, SomeOk X Y g n f o i (i + 1) j0 j1 L ∧ Ev (fun k => slim_task_some.l1 k acc (i : Int) (j0 : Int) (j1 : Int) b (x : Int) (gridP X Y n f o) g) (acc ++ L) := by
  have eG := grid_len X Y n f o
  have el : (rd_L11 (gridP X Y n f o) (i : Int)).length = Y.length := grid_rlen X Y n f o i hi
  intro d
  induction d with
  | zero =>
    intro x b hd hx hb
    obtain rfl : x = j1 := by omega
    obtain ⟨L, hL, h1, h2⟩ := some_fin X Y g n f o hY i j0 x hi hj hj1 acc ha b hb
    refine ⟨L, hL, ?_⟩
    by_cases c : b < 0
    · exact Ev.step (fun k => by rw [slim_task_some.l1, if_neg (by omega), if_pos c, if_pos (by omega)]) (h1 c)
    · exact Ev.step (fun k => by rw [slim_task_some.l1, if_neg (by omega), if_neg c]) (h2 c)
  | succ d IH =>
    intro x b hd hx hb
    have ev : Aside0 (rd (rd_L11 (gridP X Y n f o) (i : Int)) (x : Int) = at2 (gridP X Y n f o) i x) := ⟨rfl⟩
    have w0 : Aside0 (wrap64 (2 * g) = 2 * g) := ⟨ws _ (by omega) (by omega)⟩
    have wx := Aside0.mk (wsucc x (by omega))
    have go : ∀ b', BestOk X Y g n f o i j0 (x + 1) b' → (∀ k, slim_task_some.l1 (k + 1) acc (i : Int) (j0 : Int) (j1 : Int) b (x : Int) (gridP X Y n f o) g = slim_task_some.l1 k acc (i : Int) (j0 : Int) (j1 : Int) b' ((x + 1 : Nat) : Int) (gridP X Y n f o) g) → ∃ L, SomeOk X Y g n f o i (i + 1) j0 j1 L ∧ Ev (fun k => slim_task_some.l1 k acc (i : Int) (j0 : Int) (j1 : Int) b (x : Int) (gridP X Y n f o) g) (acc ++ L) := fun b' h1 h2 => by
      obtain ⟨L, hL, he⟩ := IH (x + 1) b' (by omega) (by omega) h1
      exact ⟨L, hL, Ev.step h2 he⟩
    by_cases c1 : at2 (gridP X Y n f o) i x < 2 * g
    · rcases hb with ⟨rfl, hb⟩ | ⟨c, rfl, k1, k2, k3, k4⟩
      · refine go (x : Int) (Or.inr ⟨x, rfl, hx, by omega, c1, fun y h1 h2 => ?_⟩) (fun k => by rw [slim_task_some.l1, if_pos (by omega), if_pos (by omega), if_pos (by omega), if_pos (by omega), if_pos (by omega), ev.out, w0.out, if_pos c1, if_pos (by omega), wx.out])
        by_cases e : y = x
        · rw [e]; omega
        · have := hb y h1 (by omega); omega
      · have ec : Aside0 (rd (rd_L11 (gridP X Y n f o) (i : Int)) (c : Int) = at2 (gridP X Y n f o) i c) := ⟨rfl⟩
        by_cases c2 : at2 (gridP X Y n f o) i x < at2 (gridP X Y n f o) i c
        · refine go (x : Int) (Or.inr ⟨x, rfl, hx, by omega, c1, fun y h1 h2 => ?_⟩) (fun k => by rw [slim_task_some.l1, if_pos (by omega), if_pos (by omega), if_pos (by omega), if_pos (by omega), if_pos (by omega), ev.out, ec.out, w0.out, if_pos c1, if_neg (by omega), if_pos (by omega), if_pos (by omega), if_pos c2, wx.out])
          by_cases e : y = x
          · rw [e]; omega
          · have := k4 y h1 (by omega); omega
        · refine go (c : Int) (Or.inr ⟨c, rfl, k1, by omega, k3, fun y h1 h2 => ?_⟩) (fun k => by rw [slim_task_some.l1, if_pos (by omega), if_pos (by omega), if_pos (by omega), if_pos (by omega), if_pos (by omega), ev.out, ec.out, w0.out, if_pos c1, if_neg (by omega), if_pos (by omega), if_pos (by omega), if_neg c2, wx.out])
          by_cases e : y = x
          · rw [e]; omega
          · exact k4 y h1 (by omega)
    · refine go b ?_ (fun k => by rw [slim_task_some.l1, if_pos (by omega), if_pos (by omega), if_pos (by omega), if_pos (by omega), if_pos (by omega), ev.out, w0.out, if_neg c1, wx.out])
      rcases hb with ⟨rfl, hb⟩ | ⟨c, rfl, k1, k2, k3, k4⟩
      · refine Or.inl ⟨rfl, fun y h1 h2 => ?_⟩
        by_cases e : y = x
        · rw [e]; omega
        · exact hb y h1 (by omega)
      · refine Or.inr ⟨c, rfl, k1, by omega, k3, fun y h1 h2 => ?_⟩
        by_cases e : y = x
        · rw [e]; omega
        · exact k4 y h1 (by omega)
theorem some_l3 (hY : Y.length ≤ 1024) (i0 i1 j0 j1 mid : Nat) (acc : List S59) (RX RY : List Int) (hj : j0 ≤ j1) (hj1 : j1 ≤ Y.length) (lx : RX.length = j1 - j0 + 1) (ly : RY.length = j1 - j0 + 1) (rx : ∀ s, s ≤ j1 - j0 → 0 ≤ RX.getD s 0 ∧ RX.getD s 0 ≤ 2048000) (ry : ∀ s, s ≤ j1 - j0 → 0 ≤ RY.getD s 0 ∧ RY.getD s 0 ≤ 2048000)
    (Z : List S59 → Prop) (cont : ∀ c : Nat, c ≤ j1 - j0 → (∀ s, s ≤ j1 - j0 → RX.getD c 0 + RY.getD c 0 ≤ RX.getD s 0 + RY.getD s 0) → ∃ R, Z R ∧ Ev (fun k => (slim_task_some.f k (gridP X Y n f o) g acc (i0 : Int) (mid : Int) (j0 : Int) ((j0 + c : Nat) : Int)).bind fun t => (slim_task_some.f k (gridP X Y n f o) g t (mid : Int) (i1 : Int) ((j0 + c : Nat) : Int) (j1 : Int)).bind fun u => some u) R) :
    ∀ (d x c : Nat), x + d = j1 - j0 + 1 → c ≤ j1 - j0 → (∀ s, s < x → RX.getD c 0 + RY.getD c 0 ≤ RX.getD s 0 + RY.getD s 0) → ∃ R, Z R ∧ Ev (fun k => slim_task_some.l3 k acc (i0 : Int) (i1 : Int) (j0 : Int) (j1 : Int) (mid : Int) RX RY (c : Int) ((j1 - j0 + 1 : Nat) : Int) (x : Int) (gridP X Y n f o) g) R := by
  intro d
  induction d with
  | zero =>
    intro x c hd hc hm
    obtain ⟨R, hR, he⟩ := cont c hc (fun s hs => hm s (by omega))
    have wc : Aside0 (wrap64 ((j0 : Int) + (c : Int)) = ((j0 + c : Nat) : Int)) := ⟨by rw [ws _ (by omega) (by omega)]; omega⟩
    exact ⟨R, hR, Ev.step (fun k => by rw [slim_task_some.l3, if_neg (by omega), wc.out]) he⟩
  | succ d IH =>
    intro x c hd hc hm
    have a1 := rx x (by omega)
    have a2 := ry x (by omega)
    have a3 := rx c hc
    have a4 := ry c hc
    have wx := Aside0.mk (wsucc x (by omega))
    have e1 : Aside0 (wrap64 ((rd RX (x : Int)) + (rd RY (x : Int))) = RX.getD x 0 + RY.getD x 0) := ⟨by rw [rdS, rdS]; exact ws _ (by omega) (by omega)⟩
    have e2 : Aside0 (wrap64 ((rd RX (c : Int)) + (rd RY (c : Int))) = RX.getD c 0 + RY.getD c 0) := ⟨by rw [rdS, rdS]; exact ws _ (by omega) (by omega)⟩
    by_cases h : RX.getD x 0 + RY.getD x 0 < RX.getD c 0 + RY.getD c 0
    · obtain ⟨R, hR, he⟩ := IH (x + 1) x (by omega) (by omega) (fun s hs => by
        by_cases e : s = x
        · rw [e]; omega
        · have := hm s (by omega); omega)
      exact ⟨R, hR, Ev.step (fun k => by rw [slim_task_some.l3, if_pos (by omega), if_pos (by omega), if_pos (by omega), if_pos (by omega), if_pos (by omega), if_pos (by omega), if_pos (by omega), e1.out, e2.out, if_pos h, wx.out]) he⟩
    · obtain ⟨R, hR, he⟩ := IH (x + 1) c (by omega) hc (fun s hs => by
        by_cases e : s = x
        · rw [e]; omega
        · exact hm s (by omega))
      exact ⟨R, hR, Ev.step (fun k => by rw [slim_task_some.l3, if_pos (by omega), if_pos (by omega), if_pos (by omega), if_pos (by omega), if_pos (by omega), if_pos (by omega), if_pos (by omega), e1.out, e2.out, if_neg h, wx.out]) he⟩
theorem some_ok (hg : 1 ≤ g ∧ g ≤ 1000) (hn : 1 ≤ n ∧ n ≤ 1000) (hf : 1 ≤ f ∧ f ≤ 1000) (hX : X.length ≤ 1024) (hY : Y.length ≤ 1024) : ∀ (d i0 i1 j0 j1 : Nat) (acc : List S59), i1 - i0 ≤ d → i0 ≤ i1 → i1 ≤ X.length → j0 ≤ j1 → j1 ≤ Y.length → acc.length + (i1 - i0) + (j1 - j0) ≤ 4096 → ∃ L, SomeOk X Y g n f o i0 i1 j0 j1 L ∧ Ev (fun k => slim_task_some.f k (gridP X Y n f o) g acc (i0 : Int) (i1 : Int) (j0 : Int) (j1 : Int)) (acc ++ L) := by
  intro d
  induction d with
  | zero =>
    intro i0 i1 j0 j1 acc hd hi hi1 hj hj1 ha
    obtain rfl : i1 = i0 := by omega
    refine ⟨gapsL j0 (j1 - j0), ⟨?_, ?_⟩, ?_⟩
    · have := gapsL_right (i1 : Int) (by omega) (j1 - j0) j0
      rw [show j0 + (j1 - j0) = j1 by omega] at this
      exact this
    · rw [gapsL_cost, win_self, dL_nil, win_len Y j0 j1 hj hj1]
    · exact Ev.step (fun k => by rw [slim_task_some.f, if_pos rfl]) (some_l0 j1 (by omega) (j1 - j0) j0 acc (by omega) (by omega))
  | succ d IH =>
    intro i0 i1 j0 j1 acc hd hi hi1 hj hj1 ha
    by_cases h0 : i0 = i1
    · exact IH i0 i1 j0 j1 acc (by omega) hi hi1 hj hj1 ha
    · have w1 : Aside0 (wrap64 ((i1 : Int) - (i0 : Int)) = (i1 : Int) - (i0 : Int)) := ⟨ws _ (by omega) (by omega)⟩
      by_cases h1 : i1 = i0 + 1
      · subst h1
        obtain ⟨L, hL, he⟩ := some_l1 X Y g n f o hg hY i0 j0 j1 (by omega) hj hj1 acc (by omega) (j1 - j0) j0 (-1) (by omega) (Nat.le_refl _) (Or.inl ⟨rfl, fun y a b => by omega⟩)
        exact ⟨L, hL, Ev.step (fun k => by rw [slim_task_some.f, if_neg (by omega), w1.out, if_pos (by omega)]) he⟩
      · obtain ⟨mid, hmid⟩ : ∃ m, m = (i0 + i1) / 2 := ⟨_, rfl⟩
        have m1 : i0 < mid := by omega
        have m2 : mid < i1 := by omega
        have wm : Aside0 (wrap64 (Int.tdiv (wrap64 ((i0 : Int) + (i1 : Int))) 2) = (mid : Int)) := ⟨by
          rw [ws ((i0 : Int) + (i1 : Int)) (by omega) (by omega), show (i0 : Int) + (i1 : Int) = ((i0 + i1 : Nat) : Int) by omega, show (2 : Int) = ((2 : Nat) : Int) from rfl, ← Int.ofNat_tdiv, ← hmid]
          exact ws _ (by omega) (by omega)⟩
        obtain ⟨RX, hRX, heX⟩ := aheadW_eq X Y g n f o hg hn hf hX hY i0 mid j0 j1 (by omega) (by omega) hj hj1
        obtain ⟨RY, hRY, heY⟩ := behindW_eq X Y g n f o hg hn hf hX hY mid i1 j0 j1 (by omega) hi1 hj hj1
        have hw : ∀ x y, 0 ≤ wO n f o x y := fun x y => (wO_range n f o hn.1 hf x y).1
        have lY := win_len Y j0 j1 hj hj1
        have rng : ∀ (a b : Nat) (Q : List ByteArray), a ≤ b → b ≤ X.length → Q.length ≤ 1024 → 0 ≤ dL (wO n f o) g (win X a b) Q ∧ dL (wO n f o) g (win X a b) Q ≤ 2048000 := fun a b Q h1 h2 h3 => by
          have := dR_range (wO n f o) g (by omega) hw (win X a b) Q (by rw [win_len X a b h1 h2]; omega) h3 0 0
          unfold dR at this
          rwa [List.drop_zero, List.drop_zero] at this
        obtain ⟨R, ⟨L, rfl, hL⟩, he⟩ := some_l3 X Y g n f o hY i0 i1 j0 j1 mid acc RX RY hj hj1 hRX.1 hRY.1
          (fun s hs => by rw [hRX.2 s hs]; exact rng i0 mid _ (by omega) (by omega) (by rw [List.length_take]; omega))
          (fun s hs => by rw [hRY.2 s hs]; exact rng mid i1 _ (by omega) hi1 (by rw [List.length_drop]; omega))
          (fun R => ∃ L, R = acc ++ L ∧ SomeOk X Y g n f o i0 i1 j0 j1 L)
          (fun c hc hm => by
            obtain ⟨L1, hL1, he1⟩ := IH i0 mid j0 (j0 + c) acc (by omega) (by omega) (by omega) (by omega) (by omega) (by omega)
            have n1 := (rightL_in mid (j0 + c) L1 i0 j0 (by omega) (by omega) hL1.1).1
            obtain ⟨L2, hL2, he2⟩ := IH mid i1 (j0 + c) j1 (acc ++ L1) (by omega) (by omega) hi1 (by omega) hj1 (by rw [List.length_append]; omega)
            refine ⟨acc ++ L1 ++ L2, ⟨L1 ++ L2, by rw [List.append_assoc], ?_, ?_⟩, ev_bind he1 (ev_bind he2 (Ev.now _))⟩
            · exact rightL_append (mid : Int) ((j0 + c : Nat) : Int) (i1 : Int) (j1 : Int) (by omega) (by omega) L2 hL2.1 L1 (i0 : Int) (j0 : Int) (by omega) (by omega) hL1.1
            · rw [costL_append, hL1.2, hL2.2, ← win_take Y j0 j1 c hc, ← win_drop Y j0 j1 c hc, ← win_cut X i0 mid i1 (by omega) (by omega)]
              refine dL_halves (wO n f o) g (win X i0 mid) (win X mid i1) (win Y j0 j1) c (by omega) (fun s hs => ?_)
              have := hm s (by omega)
              rw [hRX.2 c hc, hRY.2 c hc, hRX.2 s (by omega), hRY.2 s (by omega)] at this
              exact this)
          (j1 - j0 + 1) 0 0 (by omega) (Nat.zero_le _) (fun s hs => by omega)
        refine ⟨L, hL, Ev.step (f := fun k => (slim_task_ahead.f k (gridP X Y n f o) g (i0 : Int) (mid : Int) (j0 : Int) (j1 : Int)).bind fun t => (slim_task_behind.f k (gridP X Y n f o) g (mid : Int) (i1 : Int) (j0 : Int) (j1 : Int)).bind fun u => slim_task_some.l3 k acc (i0 : Int) (i1 : Int) (j0 : Int) (j1 : Int) (mid : Int) t u 0 (t.length : Int) 0 (gridP X Y n f o) g) (fun k => by rw [slim_task_some.f, if_neg (by omega), w1.out, if_neg (by omega), wm.out]) (ev_bind heX (ev_bind heY ?_))⟩
        rw [hRX.1]
        exact he
end
theorem some_eq (X Y : List ByteArray) (hX : smallL X) (hY : smallL Y) (g n f o : Int) : ∃ L, Ev (fun k => slim_Some.f k X Y g n f o) (L, (gridR X Y g n f o).2) ∧ ((gridR X Y g n f o).2 = 0 → rightL X.length Y.length L 0 0 = true ∧ costL (gridP X Y n f o) g L = dL (wO n f o) g X Y) ∧ (¬ (gridR X Y g n f o).2 = 0 → L = []) := by
  by_cases h : (gridR X Y g n f o).2 = 0
  · obtain ⟨e, hs, l1, l2⟩ := gridR_ok h
    unfold scaleOk at hs
    obtain ⟨L, hL, he⟩ := some_ok X Y g n f o hs.1 hs.2.1 hs.2.2.1 l1 l2 X.length 0 X.length 0 Y.length [] (by omega) (Nat.zero_le _) (Nat.le_refl _) (Nat.zero_le _) (Nat.le_refl _) (by simp; omega)
    rw [List.nil_append] at he
    obtain ⟨h1, h2⟩ := hL
    rw [win_all, win_all] at h2
    refine ⟨L, ?_, fun _ => ⟨h1, h2⟩, fun k => absurd h k⟩
    rw [h]
    refine ev_bind (f := fun k t => if t.2 = 0 then ((slim_task_some.f k t.1 g [] 0 (X.length : Int) 0 (Y.length : Int)).bind fun u => some (u, 0)) else some ([], t.2)) (grid_eq X Y hX hY g n f o) ?_
    rw [e]
    exact Ev.congr (fun k => by rw [if_pos rfl]; rfl) (ev_bind (f := fun _ u => some (u, 0)) he (Ev.now _))
  · refine ⟨[], ?_, fun k => absurd k h, fun _ => rfl⟩
    refine ev_bind (f := fun k t => if t.2 = 0 then ((slim_task_some.f k t.1 g [] 0 (X.length : Int) 0 (Y.length : Int)).bind fun u => some (u, 0)) else some ([], t.2)) (grid_eq X Y hX hY g n f o) ?_
    exact Ev.congr (f := fun _ => some ([], (gridR X Y g n f o).2)) (fun k => by rw [if_neg h]) (Ev.now _)
end Go.Proofs.YtbpinnanfanaaaaDoor.Pure
/-
  SlimAgrees: both ways of reckoning agree.
-/
namespace Go.Proofs.YtbpinnanfanaaaaDoor.Pure
open Go.RowKit Go.Proofs.YtbpinnanfanaaaaDoor.L Go.Proofs.YtbpinnanfanaaaaDoorW.PrintWords Go.Proofs.YtbpinnanfanaaaaDoorW.PrintLast Go.Proofs.YtbpinnanfanaaaaDoorW.PrintMore
theorem leastA {X Y : List ByteArray} {g n f o : Int} (h : (gridR X Y g n f o).2 = 0) : leastR X Y g n f o = (dL (wO n f o) g X Y, 0) := by
  obtain ⟨_, hs, _, _⟩ := gridR_ok h
  unfold scaleOk at hs
  unfold leastR
  rw [if_pos h, dP_all (wO n f o) g (by omega) (fun x y => (wO_range n f o hs.2.1.1 hs.2.2.1 x y).1)]
theorem SlimAgrees (A B : List ByteArray) (g n f o : Int) (_ : (∀ x ∈ A, x.size ≤ maxLen) ∧ A.length ≤ maxLen) (_ : (∀ x ∈ B, x.size ≤ maxLen) ∧ B.length ≤ maxLen) (_ : (Lit.int .i64 g).wf = true ∧ (Lit.int .i64 n).wf = true ∧ (Lit.int .i64 f).wf = true ∧ (Lit.int .i64 o).wf = true) (hb : ((A.map fun y => (y.size + 1)).sum + 1) + ((B.map fun y => (y.size + 1)).sum + 1) + (1 + 1 + 1 + 1 + 1) ≤ 1048576) : ∃ k, siglumlaw11_SlimAgrees.f k A B g n f o = some true := by
  have hA : smallL A := smallSumS A (by omega)
  have hB : smallL B := smallSumS B (by omega)
  refine Ev.rounds (ev_bind (f := fun k t => if t = true then (siglumref09_Light.f k A B).bind fun u => if u = true then (slim_Least.f k A B g n f o).bind fun p => (pair_Align.f k A B g n f o).bind fun q => (if p.2 = 0 then (slim_Some.f k A B g n f o).bind fun s => (pair_Price.f k A B s.1 g n f o).bind fun z => (if q.2.2 = 0 then (if p.1 = q.2.1 then (if s.2 = 0 then (if z.2 = 0 then some (z.1 == p.1) else some false) else some false) else some false) else some false) else (if q.2.2 = p.2 then some (p.1 == 0) else some false)) else some true else some false) awake11 (Ev.congr (fun k => by rw [if_pos rfl]) ?_))
  obtain ⟨r, hr⟩ := light_any A B hA hB
  refine ev_bind hr ?_
  cases r with
  | false => exact Ev.congr (fun k => by rw [if_neg (by decide)]) (Ev.now _)
  | true =>
    refine Ev.congr (fun k => by rw [if_pos rfl]) (ev_bind (least_eq A B hA hB g n f o) (ev_bind (align_eq A B hA hB g n f o) ?_))
    by_cases h : (gridR A B g n f o).2 = 0
    · obtain ⟨L, hL, h1, _⟩ := some_eq A B hA hB g n f o
      obtain ⟨_, _, l1, l2⟩ := gridR_ok h
      obtain ⟨k1, k2⟩ := h1 h
      have n1 := (rightL_in A.length B.length L 0 0 (Nat.zero_le _) (Nat.zero_le _) k1).1
      refine Ev.congr (fun k => by rw [leastA h, if_pos rfl]) (ev_bind hL (ev_bind (price_eq A B hA hB L (by omega) g n f o) ?_))
      refine Ev.congr (f := fun _ => some true) (fun k => ?_) (Ev.now _)
      unfold priceR alignR
      rw [if_pos h, if_pos h, if_pos k1, if_pos rfl, if_pos rfl, h, if_pos rfl, if_pos rfl, k2, beq_self_eq_true]
    · have e : leastR A B g n f o = (0, (gridR A B g n f o).2) := by unfold leastR; rw [if_neg h]
      refine Ev.congr (f := fun _ => some true) (fun k => ?_) (Ev.now _)
      unfold alignR
      rw [e, if_neg h, if_neg h, if_pos rfl]
      rfl
end Go.Proofs.YtbpinnanfanaaaaDoor.Pure
