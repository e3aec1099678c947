import Derived.Test.YtbpinnanfanaaaaDoorV115
import Derived.Test.YtbpinnanfanaaaaDoorV16
import Derived.Test.YtbpinnanfanaaaaDoorV17
import Derived.Test.YtbpinnanfanaaaaDoorV15
import Derived.Test.YtbpinnanfanaaaaDoorV19
import Derived.Test.YtbpinnanfanaaaaDoorV110
import Derived.Test.YtbpinnanfanaaaaDoorV112
import Derived.Test.YtbpinnanfanaaaaDoorV113
import Derived.Test.YtbpinnanfanaaaaDoorV111
import Derived.Test.YtbpinnanfanaaaaDoorRows
import Derived.Test.YtbpinnanfanaaaaDoorV11
import Derived.ProofKit
import Derived.Deep.Slices
import Derived.Deep.Fields
import Derived.ChangeSame
import Derived.SizedLaws
import Derived.Test.YtbpinnanfanaaaaDoorV14
import Derived.Lib.LaidIn
import Derived.Lib.LaidTab
import Derived.Lib.LaidU8T
import Derived.PinnedBridge
/-
  What words cost, in plain numbers: a text folded; which are too long; what two words cost.
-/
namespace Go.Proofs.YtbpinnanfanaaaaDoor.Pure
open Go.RowKit Go.Proofs.YtbpinnanfanaaaaDoor.M Go.Proofs.YtbpinnanfanaaaaDoorW.PrintWords Go.Proofs.YtbpinnanfanaaaaDoorW.PrintLast Go.Proofs.YtbpinnanfanaaaaDoorW.PrintMore
/-- A text folded. -/
def fd (s : ByteArray) (o : Int) : ByteArray := ⟨(foldT o (gCells s s.size 0)).toArray⟩
theorem fd_size (s : ByteArray) (o : Int) : (fd s o).size ≤ 12 * s.size := by
  have h1 := foldT_len o (gCells s s.size 0)
  have h2 := Pl.cells_le s
  show (foldT o (gCells s s.size 0)).toArray.size ≤ _
  simp
  omega
theorem fold_eq (s : ByteArray) (o : Int) (hs : s.size ≤ 1048576) (ho : 0 ≤ o ∧ o ≤ 31) : fold_Text.f s o = some (fd s o, 0) := by
  have h2 := Pl.cells_le s
  unfold fold_Text.f glyph_Cells.f
  rw [if_pos ho, if_pos (by omega), Option.bind_some, if_pos ⟨fun c hc => Pl.cells_byte s s.size 0 c hc, by omega⟩]
  rfl
theorem count_eq (t : ByteArray) (ht : t.size ≤ 4294967296) : glyph_Count.f t = some (((cb t).length : Nat) : Int) := by
  unfold glyph_Count.f
  rw [if_pos ht, cb_len, Pl.cells_length]
def longW (s : ByteArray) (o : Int) : Bool := decide (256 < (cb (fd s o)).length)
def wordOf (o : Int) (s : ByteArray) : S67 := ⟨s, fd s o⟩
theorem rdW_nat (l : List S67) (i : Nat) (h : i < l.length) : rd_T67 l (i : Int) = l[i] := by
  unfold rd_T67
  rw [Int.toNat_natCast, List.getD_eq_getElem?_getD, List.getElem?_eq_getElem h]
  rfl
theorem folded_loop (L : List ByteArray) (hL : ∀ s ∈ L, s.size ≤ 1048576) (hl : L.length ≤ 1024) (g n f o : Int) (ho : 0 ≤ o ∧ o ≤ 31) : ∀ (d i k : Nat) (acc : List S67), i + d = L.length → acc.length = i → d + 1 ≤ k →
    cost_folded.l0 k acc L (L.length : Int) (i : Int) g n f o = some (if (L.drop i).any (fun s => longW s o) = true then ([], 1) else (acc ++ (L.drop i).map (wordOf o), 0))
  | 0, i, k, acc, hd, ha, hk => by
    obtain ⟨k, rfl⟩ : ∃ m, k = m + 1 := ⟨k - 1, by omega⟩
    rw [cost_folded.l0, if_neg (by omega), List.drop_of_length_le (by omega)]
    simp
  | d + 1, i, k, acc, hd, ha, hk => by
    obtain ⟨k, rfl⟩ : ∃ m, k = m + 1 := ⟨k - 1, by omega⟩
    have hi : i < L.length := by omega
    have hs := hL _ (List.getElem_mem hi)
    have hz := fd_size L[i] o
    have e2 : ((i + 1 : Nat) : Int) = (i : Int) + 1 := by omega
    rw [cost_folded.l0, if_pos (by omega), if_pos (by omega), if_pos (by omega), rdOf_nat L i hi, fold_eq _ _ hs ho, Option.bind_some]
    dsimp only
    rw [count_eq _ (by omega), Option.bind_some, List.drop_eq_getElem_cons hi, List.any_cons]
    by_cases hlg : 256 < (cb (fd L[i] o)).length
    · rw [if_pos (by omega)]
      have : longW L[i] o = true := decide_eq_true hlg
      rw [this]
      simp
    · have hf : longW L[i] o = false := decide_eq_false hlg
      rw [if_neg (by omega), if_pos (by omega), ws ((i : Int) + 1) (by omega) (by omega), ← e2, folded_loop L hL hl g n f o ho d (i + 1) k _ (by omega) (by simp; omega) (by omega), hf, List.map_cons]
      simp [wordOf]
def foldedP (L : List ByteArray) (o : Int) : List S67 × Int := if 1024 < L.length then ([], 1) else if L.any (fun s => longW s o) = true then ([], 1) else (L.map (wordOf o), 0)
theorem folded_eq (L : List ByteArray) (hL : ∀ s ∈ L, s.size ≤ 1048576) (g n f o : Int) (ho : 0 ≤ o ∧ o ≤ 31) (k : Nat) (hk : 1025 ≤ k) : cost_folded.f k L g n f o = some (foldedP L o) := by
  unfold cost_folded.f foldedP
  by_cases h : 1024 < L.length
  · rw [if_pos (by omega), if_pos h]
  · rw [if_neg (by omega), if_neg h]
    have := folded_loop L hL (by omega) g n f o ho L.length 0 k [] (by omega) rfl (by omega)
    simpa using this
def lostB : List UInt8 := [226, 151, 140]
/-- What two words cost. -/
def twoP (a ka b kb : ByteArray) (n f : Int) : Int := if ka.data.toList = kb.data.toList then 0 else if a.data.toList = lostB ∨ b.data.toList = lostB then min n f else min f (((Lv.lev (cb ka) (cb kb) : Nat) : Int) * n)
theorem lev_256 (x y : ByteArray) (hx : (cb x).length ≤ 256) (hy : (cb y).length ≤ 256) : Lv.lev (cb x) (cb y) ≤ 256 := by
  have := Lv.lev_max (cb x) (cb y)
  omega
theorem two_eq (a ka b kb : ByteArray) (g n f o : Int) (hn : 1 ≤ n ∧ n ≤ 1000) (h1 : ka.size ≤ 12582912) (h2 : kb.size ≤ 12582912) (l1 : (cb ka).length ≤ 256) (l2 : (cb kb).length ≤ 256) (k : Nat) (hk : 30000000 ≤ k) :
    cost_two.f k a ka b kb g n f o = some (twoP a ka b kb n f) := by
  unfold cost_two.f twoP lostB
  simp only [toList_data]
  by_cases e1 : ka.data.toList = kb.data.toList
  · rw [if_pos e1, if_pos e1]
  · rw [if_neg e1, if_neg e1]
    by_cases e2 : a.data.toList = [226, 151, 140]
    · rw [if_pos e2, if_pos (Or.inl e2), mn_eq]
    · rw [if_neg e2]
      by_cases e3 : b.data.toList = [226, 151, 140]
      · rw [if_pos e3, if_pos (Or.inr e3), mn_eq]
      · have hlv := lev_256 ka kb l1 l2
        have hb1 : 0 ≤ ((Lv.lev (cb ka) (cb kb) : Nat) : Int) * n := Int.mul_nonneg (by omega) (by omega)
        have hb2 : ((Lv.lev (cb ka) (cb kb) : Nat) : Int) * n ≤ 256 * 1000 := Int.mul_le_mul (by omega) (by omega) (by omega) (by omega)
        rw [if_neg e3, if_neg (fun h => h.elim e2 e3), of_eq ka kb (by omega) (by omega) k (by unfold kOf; omega), Option.bind_some]
        unfold dOf
        rw [if_pos ⟨l1, l2⟩]
        dsimp only
        rw [ws _ (by omega) (by omega), mn_eq]
/-- What two words cost, by a scale; or the error. -/
def wP (a b : ByteArray) (g n f o : Int) : Int × Int := if scaleOk g n f o then (if longW a o = true ∨ longW b o = true then (0, 1) else (twoP a (fd a o) b (fd b o) n f, 0)) else (0, 90)
theorem short_of (s : ByteArray) (o : Int) (h : ¬ longW s o = true) : (cb (fd s o)).length ≤ 256 := by
  unfold longW at h
  simpa using h
theorem check_eq (g n f o : Int) : cost_Check.f g n f o = some (if scaleOk g n f o then 0 else 90) := rfl
theorem lev_pos (x y : ByteArray) (h : ¬ x.data.toList = y.data.toList) : 1 ≤ Lv.lev (cb x) (cb y) := by
  rcases Nat.eq_zero_or_pos (Lv.lev (cb x) (cb y)) with h0 | h0
  · exact absurd (by rw [← toList_data, ← toList_data]; exact (cb_inj x y).1 (Lv.lev_zero.1 h0)) h
  · exact h0
theorem two_range (a ka b kb : ByteArray) (n f : Int) (hn : 1 ≤ n) (hf : 1 ≤ f) : 0 ≤ twoP a ka b kb n f ∧ twoP a ka b kb n f ≤ f ∧ (twoP a ka b kb n f = 0 ↔ ka.data.toList = kb.data.toList) := by
  unfold twoP
  by_cases e1 : ka.data.toList = kb.data.toList
  · rw [if_pos e1]
    exact ⟨by omega, by omega, ⟨fun _ => e1, fun _ => rfl⟩⟩
  · rw [if_neg e1]
    by_cases e2 : a.data.toList = lostB ∨ b.data.toList = lostB
    · rw [if_pos e2]
      exact ⟨by omega, by omega, ⟨fun h => by omega, fun h => absurd h e1⟩⟩
    · rw [if_neg e2]
      have h1 := lev_pos ka kb e1
      have h2 : n ≤ ((Lv.lev (cb ka) (cb kb) : Nat) : Int) * n := by
        have := Int.mul_le_mul_of_nonneg_right (show (1 : Int) ≤ ((Lv.lev (cb ka) (cb kb) : Nat) : Int) by omega) (show (0 : Int) ≤ n by omega)
        omega
      exact ⟨by omega, by omega, ⟨fun h => by omega, fun h => absurd h e1⟩⟩
end Go.Proofs.YtbpinnanfanaaaaDoor.Pure
/-
  Two lists of words, in plain numbers: their grid; the least price of what is left of both; the alignment that is walked.
-/
namespace Go.Proofs.YtbpinnanfanaaaaDoor.Pure
open Go.RowKit Go.Proofs.YtbpinnanfanaaaaDoor.M Go.Proofs.YtbpinnanfanaaaaDoorW.PrintWords Go.Proofs.YtbpinnanfanaaaaDoorW.PrintLast Go.Proofs.YtbpinnanfanaaaaDoorW.PrintMore
theorem ev_at {α : Type} {g : Nat → Option α} {r : α} (K : Nat) (h : ∀ k, K ≤ k → g k = some r) : Ev g r := ⟨K, h⟩
theorem ev_bind {α β : Type} {g : Nat → Option α} {f : Nat → α → Option β} {a : α} {r : β} (h : Ev g a) (k : Ev (fun n => f n a) r) : Ev (fun n => (g n).bind (f n)) r := Ev.bind h k
theorem wsucc (i : Nat) (h : i < 4611686018427387904) : wrap64 ((i : Int) + 1) = ((i + 1 : Nat) : Int) := by rw [ws _ (by omega) (by omega)]; omega
theorem two_ind {α : Type} {P : List α → List α → Prop} (h0 : ∀ ys, P [] ys) (h1 : ∀ x xs, P (x :: xs) []) (h2 : ∀ x xs y ys, P xs ys → P xs (y :: ys) → P (x :: xs) ys → P (x :: xs) (y :: ys)) : ∀ xs ys, P xs ys := by
  intro xs
  induction xs with
  | nil => exact h0
  | cons x xs ih =>
    intro ys
    induction ys with
    | nil => exact h1 x xs
    | cons y ys ih2 => exact h2 x xs y ys (ih ys) (ih (y :: ys)) ih2
/-! two lists -/
/-- The least price of two lists. -/
def dL {α : Type} (w : α → α → Int) (gap : Int) : List α → List α → Int
  | [], ys => (ys.length : Int) * gap
  | _ :: xs, [] => ((xs.length + 1 : Nat) : Int) * gap
  | x :: xs, y :: ys => min (min (dL w gap xs ys + w x y) (dL w gap xs (y :: ys) + gap)) (dL w gap (x :: xs) ys + gap)
termination_by xs ys => xs.length + ys.length
section
variable {α : Type} (w : α → α → Int) (gap : Int)
theorem dL_nil (ys : List α) : dL w gap [] ys = (ys.length : Int) * gap := by rw [dL]
theorem dL_nil' (xs : List α) : dL w gap xs [] = (xs.length : Int) * gap := by cases xs <;> rw [dL] <;> rfl
theorem dL_cons (x y : α) (xs ys : List α) : dL w gap (x :: xs) (y :: ys) = min (min (dL w gap xs ys + w x y) (dL w gap xs (y :: ys) + gap)) (dL w gap (x :: xs) ys + gap) := by rw [dL]
theorem dL_nonneg (hg : 0 ≤ gap) (hw : ∀ x y, 0 ≤ w x y) : ∀ xs ys, 0 ≤ dL w gap xs ys := by
  refine two_ind (fun ys => ?_) (fun x xs => ?_) (fun x xs y ys h1 h2 h3 => ?_)
  · rw [dL_nil]; exact Int.mul_nonneg (by omega) hg
  · rw [dL_nil']; exact Int.mul_nonneg (by omega) hg
  · rw [dL_cons]; have := hw x y; omega
theorem succ_mul_gap (n : Nat) : ((n + 1 : Nat) : Int) * gap = (n : Int) * gap + gap := by rw [Int.natCast_add, Int.add_mul]; simp
theorem dL_le : ∀ xs ys, dL w gap xs ys ≤ ((xs.length + ys.length : Nat) : Int) * gap := by
  refine two_ind (fun ys => ?_) (fun x xs => ?_) (fun x xs y ys h1 h2 h3 => ?_)
  · rw [dL_nil]; simp
  · rw [dL_nil']; simp
  · rw [dL_cons]
    have e : (((x :: xs).length + (y :: ys).length : Nat) : Int) * gap = ((xs.length + (y :: ys).length : Nat) : Int) * gap + gap := by
      rw [show (x :: xs).length + (y :: ys).length = (xs.length + (y :: ys).length) + 1 from by simp only [List.length_cons]; omega, succ_mul_gap]
    omega
/-- The least price of what is left from two places on. -/
def dR (X Y : List α) (i j : Nat) : Int := dL w gap (X.drop i) (Y.drop j)
theorem dR_range (hg : 0 ≤ gap ∧ gap ≤ 1000) (hw : ∀ x y, 0 ≤ w x y) (X Y : List α) (hX : X.length ≤ 1024) (hY : Y.length ≤ 1024) (i j : Nat) : 0 ≤ dR w gap X Y i j ∧ dR w gap X Y i j ≤ 2048000 := by
  refine ⟨dL_nonneg w gap hg.1 hw _ _, Int.le_trans (dL_le w gap _ _) ?_⟩
  refine Int.le_trans (Int.mul_le_mul (c := 2048) (d := 1000) ?_ hg.2 hg.1 (by omega)) (by omega)
  rw [List.length_drop, List.length_drop]
  omega
end
/-! tables -/
def at2 (T : List (List Int)) (i j : Nat) : Int := (T.getD i []).getD j 0
def setT (T : List (List Int)) (i j : Nat) (v : Int) : List (List Int) := T.set i ((T.getD i []).set j v)
theorem getD_set_same {β : Type} (l : List β) (i : Nat) (h : i < l.length) (v d : β) : (l.set i v).getD i d = v := by
  rw [List.getD_eq_getElem?_getD, List.getElem?_set, if_pos rfl, if_pos h]; rfl
theorem getD_set_ne {β : Type} (l : List β) (i j : Nat) (h : i ≠ j) (v d : β) : (l.set i v).getD j d = l.getD j d := by
  rw [List.getD_eq_getElem?_getD, List.getElem?_set, if_neg h, ← List.getD_eq_getElem?_getD]
theorem getD_get {β : Type} (l : List β) (i : Nat) (h : i < l.length) (d : β) : l.getD i d = l[i] := by
  rw [List.getD_eq_getElem?_getD, List.getElem?_eq_getElem h]; rfl
/-- T' is T but for one place. -/
structure Upd (T T' : List (List Int)) (i j : Nat) (v : Int) : Prop where
  len : T'.length = T.length
  lens : ∀ p, (T'.getD p []).length = (T.getD p []).length
  here : at2 T' i j = v
  else_ : ∀ p q, ¬ (p = i ∧ q = j) → at2 T' p q = at2 T p q
theorem upd_set (T : List (List Int)) (i j : Nat) (v : Int) (hi : i < T.length) (hj : j < (T.getD i []).length) : Upd T (setT T i j v) i j v := by
  refine ⟨by unfold setT; rw [List.length_set], fun p => ?_, ?_, fun p q h => ?_⟩
  · unfold setT
    by_cases e : i = p
    · subst e; rw [getD_set_same _ _ hi, List.length_set]
    · rw [getD_set_ne _ _ _ e]
  · unfold at2 setT
    rw [getD_set_same _ _ hi, getD_set_same _ _ hj]
  · unfold at2 setT
    by_cases e : i = p
    · subst e
      rw [getD_set_same _ _ hi, getD_set_ne _ _ _ (fun e => h ⟨rfl, e.symm⟩)]
    · rw [getD_set_ne _ _ _ e]
theorem Upd.trans {T T' T'' : List (List Int)} {i j : Nat} {a b : Int} (h : Upd T T' i j a) (g : Upd T' T'' i j b) : Upd T T'' i j b :=
  ⟨g.len.trans h.len, fun p => (g.lens p).trans (h.lens p), g.here, fun p q e => (g.else_ p q e).trans (h.else_ p q e)⟩
/-! the grid -/
/-- What two words cost, by a scale. -/
def wO (n f o : Int) (x y : ByteArray) : Int := twoP x (fd x o) y (fd y o) n f
def gridP (X Y : List ByteArray) (n f o : Int) : List (List Int) := X.map fun x => Y.map fun y => wO n f o x y
theorem grid_len (X Y : List ByteArray) (n f o : Int) : (gridP X Y n f o).length = X.length := by unfold gridP; rw [List.length_map]
theorem grid_row (X Y : List ByteArray) (n f o : Int) (i : Nat) (h : i < X.length) : (gridP X Y n f o).getD i [] = Y.map fun y => wO n f o X[i] y := by
  rw [getD_get _ _ (by rw [grid_len]; exact h)]
  unfold gridP
  rw [List.getElem_map]
theorem grid_rlen (X Y : List ByteArray) (n f o : Int) (i : Nat) (h : i < X.length) : ((gridP X Y n f o).getD i []).length = Y.length := by rw [grid_row _ _ _ _ _ _ h, List.length_map]
theorem grid_at (X Y : List ByteArray) (n f o : Int) (i j : Nat) (h : i < X.length) (hj : j < Y.length) : at2 (gridP X Y n f o) i j = wO n f o X[i] Y[j] := by
  unfold at2
  rw [grid_row _ _ _ _ _ _ h, getD_get _ _ (by rw [List.length_map]; exact hj), List.getElem_map]
theorem wO_range (n f o : Int) (hn : 1 ≤ n) (hf : 1 ≤ f ∧ f ≤ 1000) (x y : ByteArray) : 0 ≤ wO n f o x y ∧ wO n f o x y ≤ 1000 := by
  have := two_range x (fd x o) y (fd y o) n f hn hf.1
  unfold wO
  omega
def longL (L : List ByteArray) (o : Int) : Prop := 1024 < L.length ∨ L.any (fun s => longW s o) = true
instance (L : List ByteArray) (o : Int) : Decidable (longL L o) := by unfold longL; infer_instance
theorem folded_long (L : List ByteArray) (o : Int) : foldedP L o = if longL L o then ([], 1) else (L.map (wordOf o), 0) := by
  unfold foldedP
  by_cases h : 1024 < L.length
  · rw [if_pos h, if_pos (show longL L o from Or.inl h)]
  · by_cases h2 : L.any (fun s => longW s o) = true
    · rw [if_neg h, if_pos h2, if_pos (show longL L o from Or.inr h2)]
    · rw [if_neg h, if_neg h2, if_neg (fun e : longL L o => Or.elim e h h2)]
theorem not_long {L : List ByteArray} {o : Int} (h : ¬ longL L o) : L.length ≤ 1024 ∧ ∀ s ∈ L, ¬ longW s o = true := by
  unfold longL at h
  refine ⟨by omega, fun s hs e => h (Or.inr (List.any_eq_true.2 ⟨s, hs, e⟩))⟩
/-- A grid, or the error. -/
def gridR (X Y : List ByteArray) (g n f o : Int) : List (List Int) × Int := if scaleOk g n f o then (if longL X o ∨ longL Y o then ([], 1) else (gridP X Y n f o, 0)) else ([], 90)
def smallL (L : List ByteArray) : Prop := ∀ s ∈ L, s.size ≤ 1048576
section
variable (X Y : List ByteArray) (g n f o : Int) (hn : 1 ≤ n ∧ n ≤ 1000) (hX : smallL X) (hY : smallL Y) (lX : ¬ longL X o) (lY : ¬ longL Y o)
include hn hX hY lX lY
theorem grid_two (i j : Nat) (hi : i < X.length) (hj : j < Y.length) : Ev (fun k => cost_two.f k X[i] (fd X[i] o) Y[j] (fd Y[j] o) g n f o) (wO n f o X[i] Y[j]) := by
  have z1 := fd_size X[i] o
  have z2 := fd_size Y[j] o
  have s1 := hX _ (List.getElem_mem hi)
  have s2 := hY _ (List.getElem_mem hj)
  exact ev_at 30000000 fun k hk => two_eq X[i] (fd X[i] o) Y[j] (fd Y[j] o) g n f o hn (by omega) (by omega) (short_of _ _ ((not_long lX).2 _ (List.getElem_mem hi))) (short_of _ _ ((not_long lY).2 _ (List.getElem_mem hj))) k hk
theorem grid_l1 (i : Nat) (hi : i < X.length) (R : List (List Int) × Int)
    (ih : ∀ T : List (List Int), T.length = X.length → (∀ p, p < i + 1 → T.getD p [] = (gridP X Y n f o).getD p []) → Ev (fun k => cost_Grid.l0 k (Y.map (wordOf o)) T (X.map (wordOf o)) (X.length : Int) ((i + 1 : Nat) : Int) g n f o) R) :
    ∀ (d j : Nat) (T : List (List Int)), j + d = Y.length → T.length = X.length → (∀ p, p < i → T.getD p [] = (gridP X Y n f o).getD p []) → (T.getD i []).length = Y.length → (∀ q, q < j → at2 T i q = at2 (gridP X Y n f o) i q) →
    Ev (fun k => cost_Grid.l1 k (Y.map (wordOf o)) T (i : Int) (X.map (wordOf o)) (X.length : Int) (i : Int) (Y.map (wordOf o)) (Y.length : Int) (j : Int) g n f o X[i] (fd X[i] o)) R
  | 0, j, T, hd, hT, hp, hr, hq => by
    have l1 := (not_long lX).1
    refine Ev.step (fun k => by rw [cost_Grid.l1, if_neg (by omega), wsucc i (by omega)]) (ih T hT fun p hp' => ?_)
    by_cases e : p = i
    · subst e
      refine List.ext_getElem (by rw [hr, grid_rlen _ _ _ _ _ _ hi]) fun q h1 h2 => ?_
      have := hq q (by omega)
      unfold at2 at this
      rwa [getD_get _ _ h1, getD_get _ _ h2] at this
    · exact hp p (by omega)
  | d + 1, j, T, hd, hT, hp, hr, hq => by
    have l2 := (not_long lY).1
    have hj : j < Y.length := by omega
    have hjm : j < (Y.map (wordOf o)).length := by rw [List.length_map]; exact hj
    refine Ev.step (fun k => by
      rw [cost_Grid.l1, if_pos (by omega), if_pos (by omega), if_pos (by rw [List.length_map]; omega), if_pos (by omega), if_pos (by omega), rdW_nat _ j hjm, List.getElem_map]; rfl) (ev_bind (f := fun k t => if (j : Int) < ((rd_L11 T (i : Int)).length : Int) then cost_Grid.l1 k (Y.map (wordOf o)) (T.set (i : Int).toNat ((rd_L11 T (i : Int)).set (j : Int).toNat t)) (i : Int) (X.map (wordOf o)) (X.length : Int) (i : Int) (Y.map (wordOf o)) (Y.length : Int) (wrap64 ((j : Int) + 1)) g n f o X[i] (fd X[i] o) else none) (grid_two X Y g n f o hn hX hY lX lY i j hi hj) ?_)
    have hr' : (rd_L11 T (i : Int)).length = Y.length := hr
    have u := upd_set T i j (wO n f o X[i] Y[j]) (by omega) (by omega)
    refine Ev.congr (fun k => by rw [if_pos (by omega), wsucc j (by omega)]; rfl) (grid_l1 i hi R ih d (j + 1) (setT T i j (wO n f o X[i] Y[j])) (by omega) (u.len.trans hT) (fun p hp' => ?_) ((u.lens i).trans hr) (fun q hq' => ?_))
    · rw [← hp p hp']
      unfold setT
      rw [getD_set_ne _ _ _ (by omega)]
    · by_cases e : q = j
      · subst e; rw [u.here, grid_at _ _ _ _ _ _ _ hi hj]
      · rw [u.else_ i q (fun h => e h.2), hq q (by omega)]
theorem grid_l0 : ∀ (d i : Nat) (T : List (List Int)), i + d = X.length → T.length = X.length → (∀ p, p < i → T.getD p [] = (gridP X Y n f o).getD p []) →
    Ev (fun k => cost_Grid.l0 k (Y.map (wordOf o)) T (X.map (wordOf o)) (X.length : Int) (i : Int) g n f o) (gridP X Y n f o, 0)
  | 0, i, T, hd, hT, hp => by
    have e : T = gridP X Y n f o := by
      refine List.ext_getElem (by rw [hT, grid_len]) fun p h1 h2 => ?_
      have := hp p (by omega)
      rwa [getD_get _ _ h1, getD_get _ _ h2] at this
    exact Ev.step (f := fun _ => some (gridP X Y n f o, 0)) (fun k => by rw [cost_Grid.l0, if_neg (by omega), e]) (Ev.now _)
  | d + 1, i, T, hd, hT, hp => by
    have l2 := (not_long lY).1
    have hi : i < X.length := by omega
    have him : i < (X.map (wordOf o)).length := by rw [List.length_map]; exact hi
    refine Ev.step (fun k => by
      rw [cost_Grid.l0, if_pos (by omega), if_pos (by omega), if_pos (by rw [List.length_map]; omega), if_pos (by omega), if_pos (by rw [List.length_map]; omega), if_pos (by omega), rdW_nat _ i him, List.getElem_map, Int.toNat_natCast, Int.toNat_natCast]) ?_
    have e : (Y.map (wordOf o)).length = Y.length := List.length_map _
    refine Ev.congr (fun k => by rw [e]; rfl) (grid_l1 X Y g n f o hn hX hY lX lY i hi _ (fun T' h1 h2 => grid_l0 d (i + 1) T' (by omega) h1 h2) Y.length 0 (T.set i (List.replicate Y.length 0)) (by omega) (by rw [List.length_set]; exact hT) (fun p hp' => ?_) ?_ (fun q hq => by omega))
    · rw [getD_set_ne _ _ _ (by omega)]; exact hp p hp'
    · rw [getD_set_same _ _ (by omega), List.length_replicate]
end
theorem grid_eq (X Y : List ByteArray) (hX : smallL X) (hY : smallL Y) (g n f o : Int) : Ev (fun k => cost_Grid.f k X Y g n f o) (gridR X Y g n f o) := by
  unfold gridR
  by_cases hs : scaleOk g n f o
  · have hs' := hs
    unfold scaleOk at hs'
    obtain ⟨_, hn, _, ho⟩ := hs'
    rw [if_pos hs]
    have e : ∀ k, cost_Grid.f k X Y g n f o = _ := fun k => by unfold cost_Grid.f; rw [check_eq, if_pos hs, Option.bind_some, if_pos rfl]
    refine Ev.congr e (ev_bind (ev_at 1025 fun k hk => folded_eq X hX g n f o ho k hk) ?_)
    rw [folded_long]
    by_cases lX : longL X o
    · rw [if_pos lX, if_pos (Or.inl lX)]
      exact Ev.congr (fun k => by rw [if_neg (by decide)]) (Ev.now _)
    · rw [if_neg lX]
      refine Ev.congr (fun k => by rw [if_pos rfl]) (ev_bind (ev_at 1025 fun k hk => folded_eq Y hY g n f o ho k hk) ?_)
      rw [folded_long]
      by_cases lY : longL Y o
      · rw [if_pos lY, if_pos (Or.inr lY)]
        exact Ev.congr (fun k => by rw [if_neg (by decide)]) (Ev.now _)
      · rw [if_neg lY, if_neg (fun h => h.elim lX lY)]
        have l1 := (not_long lX).1
        have em : (X.map (wordOf o)).length = X.length := List.length_map _
        refine Ev.congr (f := fun k => cost_Grid.l0 k (Y.map (wordOf o)) (List.replicate X.length []) (X.map (wordOf o)) (X.length : Int) ((0 : Nat) : Int) g n f o) (fun k => by rw [if_pos rfl]; dsimp only; rw [em, if_pos (by omega), if_pos (by omega), Int.toNat_natCast]; rfl) ?_
        exact grid_l0 X Y g n f o hn hX hY lX lY X.length 0 (List.replicate X.length []) (by omega) (by rw [List.length_replicate]) (fun p hp => by omega)
  · rw [if_neg hs]
    exact Ev.congr (fun k => by unfold cost_Grid.f; rw [check_eq, if_neg hs, Option.bind_some, if_neg (by decide)]) (Ev.now _)
theorem gridR_ok {X Y : List ByteArray} {g n f o : Int} (h : (gridR X Y g n f o).2 = 0) : gridR X Y g n f o = (gridP X Y n f o, 0) ∧ scaleOk g n f o ∧ X.length ≤ 1024 ∧ Y.length ≤ 1024 := by
  unfold gridR at h ⊢
  by_cases hs : scaleOk g n f o
  · rw [if_pos hs] at h ⊢
    by_cases hl : longL X o ∨ longL Y o
    · rw [if_pos hl] at h; cases h
    · rw [if_neg hl]
      exact ⟨rfl, hs, (not_long (fun e => hl (Or.inl e))).1, (not_long (fun e => hl (Or.inr e))).1⟩
  · rw [if_neg hs] at h; cases h
end Go.Proofs.YtbpinnanfanaaaaDoor.Pure
/-
  What one word more does to the least price of two lists.
-/
namespace Go.Proofs.YtbpinnanfanaaaaDoor.Pure
open Go.RowKit Go.Proofs.YtbpinnanfanaaaaDoor.M Go.Proofs.YtbpinnanfanaaaaDoorW.PrintWords Go.Proofs.YtbpinnanfanaaaaDoorW.PrintLast Go.Proofs.YtbpinnanfanaaaaDoorW.PrintMore
theorem dL_addr {α : Type} (w : α → α → Int) (gap : Int) (X : List α) (y : α) (Y : List α) : dL w gap X (y :: Y) ≤ dL w gap X Y + gap := by
  cases X with
  | nil => rw [dL_nil, dL_nil, List.length_cons, succ_mul_gap]; omega
  | cons x xs => rw [dL_cons]; omega
theorem dL_addl {α : Type} (w : α → α → Int) (gap : Int) (x : α) (X Y : List α) : dL w gap (x :: X) Y ≤ dL w gap X Y + gap := by
  cases Y with
  | nil => rw [dL_nil', dL_nil', List.length_cons, succ_mul_gap]; omega
  | cons y ys => rw [dL_cons]; omega
theorem dL_less {α : Type} (w : α → α → Int) (gap : Int) (hg : 0 ≤ gap) (hw : ∀ x y, 0 ≤ w x y) (x : α) (X : List α) : ∀ Y, dL w gap X Y ≤ dL w gap (x :: X) Y + gap := by
  intro Y
  induction Y with
  | nil => rw [dL_nil', dL_nil', List.length_cons, succ_mul_gap]; omega
  | cons y ys ih =>
    have h1 := dL_addr w gap X y ys
    have h2 := hw x y
    rw [dL_cons]
    omega
/-- The least price of the first i and the first j. -/
def dP {α : Type} (w : α → α → Int) (gap : Int) (X Y : List α) (i j : Nat) : Int := dL w gap (X.take i).reverse (Y.take j).reverse
theorem dP_row {α : Type} (w : α → α → Int) (gap : Int) (X Y : List α) (j : Nat) (h : j ≤ Y.length) : dP w gap X Y 0 j = (j : Int) * gap := by
  unfold dP
  rw [List.take_zero, List.reverse_nil, dL_nil, List.length_reverse, List.length_take, Nat.min_eq_left h]
theorem dP_col {α : Type} (w : α → α → Int) (gap : Int) (X Y : List α) (i : Nat) (h : i ≤ X.length) : dP w gap X Y i 0 = (i : Int) * gap := by
  unfold dP
  rw [List.take_zero, List.reverse_nil, dL_nil', List.length_reverse, List.length_take, Nat.min_eq_left h]
theorem take_rev {α : Type} (X : List α) (i : Nat) (h : i < X.length) : (X.take (i + 1)).reverse = X[i] :: (X.take i).reverse := by
  rw [List.take_succ_eq_append_getElem h, List.reverse_append]
  rfl
theorem dP_step {α : Type} (w : α → α → Int) (gap : Int) (X Y : List α) (i j : Nat) (hi : i < X.length) (hj : j < Y.length) : dP w gap X Y (i + 1) (j + 1) = min (min (dP w gap X Y i j + w X[i] Y[j]) (dP w gap X Y i (j + 1) + gap)) (dP w gap X Y (i + 1) j + gap) := by
  unfold dP
  rw [take_rev X i hi, take_rev Y j hj, dL_cons]
theorem dP_range {α : Type} (w : α → α → Int) (gap : Int) (hg : 0 ≤ gap ∧ gap ≤ 1000) (hw : ∀ x y, 0 ≤ w x y) (X Y : List α) (hX : X.length ≤ 1024) (hY : Y.length ≤ 1024) (i j : Nat) : 0 ≤ dP w gap X Y i j ∧ dP w gap X Y i j ≤ 2048000 := by
  unfold dP
  have h := dR_range w gap hg hw (X.take i).reverse (Y.take j).reverse (by rw [List.length_reverse, List.length_take]; omega) (by rw [List.length_reverse, List.length_take]; omega) 0 0
  unfold dR at h
  rwa [List.drop_zero, List.drop_zero] at h
/-- One word more: no more than a gap dearer or cheaper. -/
theorem dP_more {α : Type} (w : α → α → Int) (gap : Int) (hg : 0 ≤ gap) (hw : ∀ x y, 0 ≤ w x y) (X Y : List α) (x : α) : dP w gap (X ++ [x]) Y (X ++ [x]).length Y.length ≤ dP w gap X Y X.length Y.length + gap ∧ dP w gap X Y X.length Y.length ≤ dP w gap (X ++ [x]) Y (X ++ [x]).length Y.length + gap := by
  unfold dP
  rw [List.take_length, List.take_length, List.take_length, List.reverse_append]
  exact ⟨dL_addl w gap x _ _, dL_less w gap hg hw x _ _⟩
end Go.Proofs.YtbpinnanfanaaaaDoor.Pure
/-
  What makes little work: the document's own question has an answer.
-/
namespace Go.Proofs.YtbpinnanfanaaaaDoor.Pure
open Go.RowKit Go.Proofs.YtbpinnanfanaaaaDoor.M Go.Proofs.YtbpinnanfanaaaaDoorW.PrintWords Go.Proofs.YtbpinnanfanaaaaDoorW.PrintLast Go.Proofs.YtbpinnanfanaaaaDoorW.PrintMore
/-! little work -/
theorem weight_loop (L : List ByteArray) (hL : L.length ≤ 1024) (hs : smallL L) : ∀ (d x : Nat) (s : Int), x + d = L.length → 0 ≤ s ∧ s ≤ 2000 + 1048576 * x → ∃ r, 0 ≤ r ∧ r ≤ 2000 + 1048576 * 1024 ∧ Ev (fun k => siglumref09_Weight.l0 k L s (x : Int)) r := by
  intro d
  induction d with
  | zero =>
    intro x s hd h
    exact ⟨s, h.1, by omega, Ev.step (f := fun _ => some s) (fun k => by rw [siglumref09_Weight.l0, if_neg (by omega)]) (Ev.now _)⟩
  | succ d IH =>
    intro x s hd h
    have hx : x < L.length := by omega
    have h1 := hs _ (List.getElem_mem hx)
    obtain ⟨r, a, b, c⟩ := IH (x + 1) (s + (L[x].size : Int)) (by omega) (by omega)
    refine ⟨r, a, b, Ev.step (fun k => ?_) c⟩
    rw [siglumref09_Weight.l0, if_pos (by omega), if_pos (by omega), rdOf_nat L x hx, ws (s + (L[x].size : Int)) (by omega) (by omega), wsucc x (by omega)]
theorem little_any (a b : Int) : ∃ r, Ev (fun k => siglumref09_Little.f k [a, b]) r := by
  have r0 : rd [a, b] 0 = a := rfl
  have r1 : rd [a, b] 1 = b := rfl
  have w2 : wrap64 (1 + 1) = 2 := by rw [ws _ (by decide) (by decide)]; rfl
  have w1 : wrap64 (0 + 1) = 1 := by rw [ws _ (by decide) (by decide)]; rfl
  have last : ∀ x3 x4 : Int, ∃ r, Ev (fun k => siglumref09_Little.l0 k [a, b] x3 x4 2) r := fun x3 x4 =>
    ⟨true, Ev.step (f := fun _ => some true) (fun k => by rw [siglumref09_Little.l0, if_neg (by show ¬ (2 : Int) < 2; omega)]) (Ev.now _)⟩
  have second : ∀ x3 x4 : Int, ∃ r, Ev (fun k => siglumref09_Little.l0 k [a, b] x3 x4 1) r := by
    intro x3 x4
    by_cases h3 : x3 > 0
    · by_cases h4 : b > wrap64 (Int.tdiv x4 x3)
      · exact ⟨false, Ev.step (f := fun _ => some false) (fun k => by rw [siglumref09_Little.l0, if_pos (by show (1 : Int) < 2; omega), if_pos h3, if_pos (by omega), if_neg (by omega), r1, if_pos h4]) (Ev.now _)⟩
      · obtain ⟨r, hr⟩ := last (wrap64 (x3 + b)) (wrap64 (x4 - wrap64 (x3 * b)))
        exact ⟨r, Ev.step (fun k => by rw [siglumref09_Little.l0, if_pos (by show (1 : Int) < 2; omega), if_pos h3, if_pos (by omega), if_neg (by omega), r1, if_neg h4, w2]) hr⟩
    · obtain ⟨r, hr⟩ := last (wrap64 (x3 + b)) (wrap64 (x4 - wrap64 (x3 * b)))
      exact ⟨r, Ev.step (fun k => by rw [siglumref09_Little.l0, if_pos (by show (1 : Int) < 2; omega), if_neg h3, if_pos (by omega), r1, w2]) hr⟩
  obtain ⟨r, hr⟩ := second (wrap64 (0 + a)) (wrap64 (4000000 - wrap64 (0 * a)))
  exact ⟨r, Ev.step (g := fun k => siglumref09_Little.l0 k [a, b] 0 4000000 0) (fun k => by rw [siglumref09_Little.l0, if_pos (by show (0 : Int) < 2; omega), if_neg (by omega), if_pos (by omega), r0, w1]) hr⟩
theorem light_any (X Y : List ByteArray) (hX : smallL X) (hY : smallL Y) : ∃ r, Ev (fun k => siglumref09_Light.f k X Y) r := by
  by_cases h1 : (X.length : Int) > 1024
  · exact ⟨true, Ev.congr (fun k => by unfold siglumref09_Light.f; rw [if_pos h1]) (Ev.now _)⟩
  · by_cases h2 : (Y.length : Int) > 1024
    · exact ⟨true, Ev.congr (fun k => by unfold siglumref09_Light.f; rw [if_neg h1, if_pos h2]) (Ev.now _)⟩
    · obtain ⟨a, a0, a1, ha⟩ := weight_loop X (by omega) hX X.length 0 (X.length : Int) (by omega) (by omega)
      obtain ⟨b, b0, b1, hb⟩ := weight_loop Y (by omega) hY Y.length 0 (Y.length : Int) (by omega) (by omega)
      obtain ⟨r, hr⟩ := little_any a b
      have ha' : Ev (fun k => siglumref09_Weight.f k X) a := ha
      have hb' : Ev (fun k => siglumref09_Weight.f k Y) b := hb
      refine ⟨r, Ev.congr (f := fun k => (siglumref09_Weight.f k X).bind fun s => (siglumref09_Weight.f k Y).bind fun t => (siglumref09_Little.f k [s, t]).bind fun u => some u) (fun k => by unfold siglumref09_Light.f; rw [if_neg h1, if_neg h2]) ?_⟩
      exact ev_bind ha' (ev_bind hb' (ev_bind hr (Ev.now _)))
end Go.Proofs.YtbpinnanfanaaaaDoor.Pure
/-
  slim.Least tells the least price; SlimMore: one word more costs at most a gap more or less.
-/
namespace Go.Proofs.YtbpinnanfanaaaaDoor.Pure
open Go.RowKit Go.Proofs.YtbpinnanfanaaaaDoor.M Go.Proofs.YtbpinnanfanaaaaDoorW.PrintWords Go.Proofs.YtbpinnanfanaaaaDoorW.PrintLast Go.Proofs.YtbpinnanfanaaaaDoorW.PrintMore
theorem smallSumS (L : List ByteArray) (h : (L.map fun y => (y.size + 1)).sum ≤ 1048576) : smallL L := by
  intro s hs
  have : ∀ (L : List ByteArray), s ∈ L → s.size + 1 ≤ (L.map fun y => (y.size + 1)).sum := by
    intro L
    induction L with
    | nil => intro h; cases h
    | cons y L ih =>
      intro h
      rw [List.map_cons, List.sum_cons]
      rcases List.mem_cons.1 h with rfl | h
      · omega
      · have := ih h; omega
  have := this L hs
  omega
theorem sumLenS (L : List ByteArray) : L.length ≤ (L.map fun y => (y.size + 1)).sum := by
  induction L with
  | nil => exact Nat.zero_le _
  | cons y L ih => rw [List.map_cons, List.sum_cons, List.length_cons]; omega
theorem mnS (a b : Int) : mn a b = min a b := by unfold mn; split <;> omega
theorem rdS (R : List Int) (j : Nat) : rd R (j : Int) = R.getD j 0 := by unfold rd; rw [Int.toNat_natCast]
section
variable (X Y : List ByteArray) (g n f o : Int) (hg : 1 ≤ g ∧ g ≤ 1000) (hn : 1 ≤ n ∧ n ≤ 1000) (hf : 1 ≤ f ∧ f ≤ 1000) (hX : X.length ≤ 1024) (hY : Y.length ≤ 1024)
/-- What the row holds at the end. -/
def AheadR (R : List Int) : Prop := R.length = Y.length + 1 ∧ ∀ p, p ≤ Y.length → R.getD p 0 = dP (wO n f o) g X Y X.length p
include hg hn hf hX hY
theorem dPw_range (i j : Nat) : 0 ≤ dP (wO n f o) g X Y i j ∧ dP (wO n f o) g X Y i j ≤ 2048000 := dP_range (wO n f o) g (by omega) (fun x y => (wO_range n f o hn.1 hf x y).1) X Y hX hY i j
theorem ahead_l2 (i : Nat) (hi : i < X.length) (cont : ∀ R : List Int, R.length = Y.length + 1 → (∀ p, p ≤ Y.length → R.getD p 0 = dP (wO n f o) g X Y (i + 1) p) → ∃ R', AheadR X Y g n f o R' ∧ Ev (fun k => slim_task_ahead.l1 k (X.length : Int) 0 (Y.length : Int) R ((i + 1 : Nat) : Int) (gridP X Y n f o) g) R') :
    ∀ (d j : Nat) (R : List Int), j + d = Y.length → R.length = Y.length + 1 → (∀ p, p ≤ j → R.getD p 0 = dP (wO n f o) g X Y (i + 1) p) → (∀ p, j < p → p ≤ Y.length → R.getD p 0 = dP (wO n f o) g X Y i p) → ∃ R', AheadR X Y g n f o R' ∧ Ev (fun k => slim_task_ahead.l2 k (X.length : Int) 0 (Y.length : Int) R (i : Int) (dP (wO n f o) g X Y i j) (j : Int) (gridP X Y n f o) g) R' := by
  intro d
  induction d with
  | zero =>
    intro j R hd hl h1 h2
    obtain ⟨R', hR', he⟩ := cont R hl (fun p hp => h1 p (by omega))
    exact ⟨R', hR', Ev.step (fun k => by rw [slim_task_ahead.l2, if_neg (by omega), wsucc i (by omega)]) he⟩
  | succ d IH =>
    intro j R hd hl h1 h2
    have hj : j < Y.length := by omega
    have r1 := dPw_range X Y g n f o hg hn hf hX hY i j
    have r2 := dPw_range X Y g n f o hg hn hf hX hY i (j + 1)
    have r3 := dPw_range X Y g n f o hg hn hf hX hY (i + 1) j
    have hw := wO_range n f o hn.1 hf X[i] Y[j]
    have hst := dP_step (wO n f o) g X Y i j hi hj
    have el : (rd_L11 (gridP X Y n f o) (i : Int)).length = Y.length := grid_rlen X Y n f o i hi
    have ev : rd (rd_L11 (gridP X Y n f o) (i : Int)) (j : Int) = wO n f o X[i] Y[j] := grid_at X Y n f o i j hi hj
    have eG := grid_len X Y n f o
    have q1 : rd R ((j + 1 : Nat) : Int) = dP (wO n f o) g X Y i (j + 1) := by rw [rdS]; exact h2 (j + 1) (by omega) (by omega)
    have q2 : rd R (j : Int) = dP (wO n f o) g X Y (i + 1) j := by rw [rdS]; exact h1 j (Nat.le_refl _)
    have w0 : Aside0 (wrap64 ((j : Int) - 0) = (j : Int)) := ⟨by rw [ws _ (by omega) (by omega)]; omega⟩
    have w1 : Aside0 (wrap64 ((j : Int) + 1) = ((j + 1 : Nat) : Int)) := ⟨wsucc j (by omega)⟩
    have w2 : Aside0 (wrap64 (((j + 1 : Nat) : Int) - 1) = (j : Int)) := ⟨by rw [ws _ (by omega) (by omega)]; omega⟩
    have w3 : Aside0 (wrap64 (dP (wO n f o) g X Y i j + wO n f o X[i] Y[j]) = dP (wO n f o) g X Y i j + wO n f o X[i] Y[j]) := ⟨ws _ (by omega) (by omega)⟩
    have w4 : Aside0 (wrap64 (dP (wO n f o) g X Y i (j + 1) + g) = dP (wO n f o) g X Y i (j + 1) + g) := ⟨ws _ (by omega) (by omega)⟩
    have w5 : Aside0 (wrap64 (dP (wO n f o) g X Y (i + 1) j + g) = dP (wO n f o) g X Y (i + 1) j + g) := ⟨ws _ (by omega) (by omega)⟩
    have HST := Aside0.mk hst
    clear hst r1 r2 r3 hw
    obtain ⟨R', hR', he⟩ := IH (j + 1) (R.set (j + 1) (dP (wO n f o) g X Y (i + 1) (j + 1))) (by omega) (by rw [List.length_set]; exact hl)
      (fun p hp => by
        by_cases e : p = j + 1
        · rw [e, getD_set_same R (j + 1) (by omega)]
        · rw [getD_set_ne R (j + 1) p (fun z => e z.symm)]; exact h1 p (by omega))
      (fun p hp hq => by rw [getD_set_ne R (j + 1) p (by omega)]; exact h2 p (by omega) hq)
    refine ⟨R', hR', Ev.step (fun k => ?_) he⟩
    generalize hGd : gridP X Y n f o = G at el ev eG ⊢
    have b0 : (0 : Int) ≤ (i : Int) := Int.natCast_nonneg i
    have b1 : (0 : Int) ≤ (j : Int) := Int.natCast_nonneg j
    have b2 : (j : Int) < (Y.length : Int) := Int.ofNat_lt.2 hj
    have b3 : (i : Int) < (G.length : Int) := by rw [eG]; exact Int.ofNat_lt.2 hi
    have b4 : (j : Int) < ((rd_L11 G (i : Int)).length : Int) := by rw [el]; exact b2
    have b5 : (0 : Int) ≤ ((j + 1 : Nat) : Int) := Int.natCast_nonneg _
    have b6 : ((j + 1 : Nat) : Int) < (R.length : Int) := by rw [hl]; exact Int.ofNat_lt.2 (Nat.succ_lt_succ hj)
    have b7 : (j : Int) < (R.length : Int) := by rw [hl]; exact Int.ofNat_lt.2 (Nat.lt_succ_of_lt hj)
    rw [slim_task_ahead.l2, if_pos b2, if_pos b0, if_pos b3, if_pos b1, if_pos b4, w0.out, w1.out, if_pos b5, if_pos b6, w2.out, if_pos b1, if_pos b7, ev, q1, q2, Int.toNat_natCast, mnS, mnS, w3.out, w4.out, w5.out, ← HST.out]
theorem ahead_l1 : ∀ (d i : Nat) (R : List Int), i + d = X.length → R.length = Y.length + 1 → (∀ p, p ≤ Y.length → R.getD p 0 = dP (wO n f o) g X Y i p) → ∃ R', AheadR X Y g n f o R' ∧ Ev (fun k => slim_task_ahead.l1 k (X.length : Int) 0 (Y.length : Int) R (i : Int) (gridP X Y n f o) g) R' := by
  intro d
  induction d with
  | zero =>
    intro i R hd hl h1
    have e : i = X.length := by omega
    exact ⟨R, ⟨hl, fun p hp => by rw [h1 p hp, e]⟩, Ev.step (f := fun _ => some R) (fun k => by rw [slim_task_ahead.l1, if_neg (by omega)]) (Ev.now _)⟩
  | succ d IH =>
    intro i R hd hl h1
    have hi : i < X.length := by omega
    have r0 := dPw_range X Y g n f o hg hn hf hX hY i 0
    have q0 : rd R 0 = dP (wO n f o) g X Y i 0 := by have := rdS R 0; rw [show ((0 : Nat) : Int) = 0 from rfl] at this; rw [this]; exact h1 0 (Nat.zero_le _)
    have c1 := dP_col (wO n f o) g X Y i (by omega)
    have c2 := dP_col (wO n f o) g X Y (i + 1) (by omega)
    have c3 : dP (wO n f o) g X Y (i + 1) 0 = dP (wO n f o) g X Y i 0 + g := by rw [c1, c2, succ_mul_gap]
    obtain ⟨R', hR', he⟩ := ahead_l2 X Y g n f o hg hn hf hX hY i hi (fun R1 l1 p1 => IH (i + 1) R1 (by omega) l1 p1) Y.length 0 (R.set 0 (dP (wO n f o) g X Y (i + 1) 0)) (by omega) (by rw [List.length_set]; exact hl)
      (fun p hp => by obtain rfl : p = 0 := by omega
                      rw [getD_set_same R 0 (by omega)])
      (fun p hp hq => by rw [getD_set_ne R 0 p (by omega)]; exact h1 p hq)
    refine ⟨R', hR', Ev.step (fun k => ?_) he⟩
    rw [slim_task_ahead.l1, if_pos (by omega), if_pos (by omega), q0, ws _ (by omega) (by omega), c3]
    rfl
theorem ahead_l0 : ∀ (d x : Nat) (R : List Int), x + d = Y.length + 1 → R.length = Y.length + 1 → (∀ p, p < x → R.getD p 0 = dP (wO n f o) g X Y 0 p) → ∃ R', AheadR X Y g n f o R' ∧ Ev (fun k => slim_task_ahead.l0 k 0 (X.length : Int) 0 (Y.length : Int) R ((Y.length + 1 : Nat) : Int) (x : Int) (gridP X Y n f o) g) R' := by
  intro d
  induction d with
  | zero =>
    intro x R hd hl h1
    obtain ⟨R', hR', he⟩ := ahead_l1 X Y g n f o hg hn hf hX hY X.length 0 R (by omega) hl (fun p hp => h1 p (by omega))
    exact ⟨R', hR', Ev.step (fun k => by rw [slim_task_ahead.l0, if_neg (by omega)]; rfl) he⟩
  | succ d IH =>
    intro x R hd hl h1
    have c := dP_row (wO n f o) g X Y x (by omega)
    have r := dPw_range X Y g n f o hg hn hf hX hY 0 x
    rw [c] at r
    obtain ⟨R', hR', he⟩ := IH (x + 1) (R.set x ((x : Int) * g)) (by omega) (by rw [List.length_set]; exact hl) (fun p hp => by
      by_cases e : p = x
      · rw [e, getD_set_same R x (by omega), c]
      · rw [getD_set_ne R x p (fun z => e z.symm)]; exact h1 p (by omega))
    refine ⟨R', hR', Ev.step (fun k => ?_) he⟩
    rw [slim_task_ahead.l0, if_pos (by omega), if_pos (by omega), if_pos (by omega), Int.toNat_natCast, ws _ (by omega) (by omega), wsucc x (by omega)]
theorem ahead_eq : ∃ R', AheadR X Y g n f o R' ∧ Ev (fun k => slim_task_ahead.f k (gridP X Y n f o) g 0 (X.length : Int) 0 (Y.length : Int)) R' := by
  obtain ⟨R', hR', he⟩ := ahead_l0 X Y g n f o hg hn hf hX hY (Y.length + 1) 0 (List.replicate (Y.length + 1) 0) (by omega) (by simp) (fun p hp => by omega)
  refine ⟨R', hR', Ev.congr (fun k => ?_) he⟩
  have w0 : wrap64 (wrap64 ((Y.length : Int) - 0) + 1) = ((Y.length + 1 : Nat) : Int) := by rw [ws ((Y.length : Int) - 0) (by omega) (by omega), show (Y.length : Int) - 0 = (Y.length : Int) by omega, wsucc _ (by omega)]
  unfold slim_task_ahead.f
  rw [w0, if_pos (by omega), Int.toNat_natCast, if_pos (by omega), Option.bind_some, List.length_replicate]
  rfl
end
/-- What Least answers. -/
def leastR (X Y : List ByteArray) (g n f o : Int) : Int × Int := if (gridR X Y g n f o).2 = 0 then (dP (wO n f o) g X Y X.length Y.length, 0) else (0, (gridR X Y g n f o).2)
theorem least_eq (X Y : List ByteArray) (hX : smallL X) (hY : smallL Y) (g n f o : Int) : Ev (fun k => slim_Least.f k X Y g n f o) (leastR X Y g n f o) := by
  unfold leastR
  refine ev_bind (f := fun k t => if t.2 = 0 then ((slim_task_ahead.f k t.1 g 0 (X.length : Int) 0 (Y.length : Int)).bind fun u => (if 0 ≤ (Y.length : Int) then (if (Y.length : Int) < (u.length : Int) then (some (rd u (Y.length : Int), 0)) else (none)) else (none))) else (some (0, t.2))) (grid_eq X Y hX hY g n f o) ?_
  by_cases h : (gridR X Y g n f o).2 = 0
  · obtain ⟨e, hs, l1, l2⟩ := gridR_ok h
    unfold scaleOk at hs
    obtain ⟨R, hR, he⟩ := ahead_eq X Y g n f o (by omega) (by omega) (by omega) l1 l2
    rw [if_pos h, e]
    refine Ev.congr (fun k => by rw [if_pos rfl]) (ev_bind he ?_)
    refine Ev.congr (f := fun _ => some (dP (wO n f o) g X Y X.length Y.length, 0)) (fun k => ?_) (Ev.now _)
    rw [if_pos (by omega), if_pos (by rw [hR.1]; omega), rdS, hR.2 _ (Nat.le_refl _)]
  · rw [if_neg h]
    exact Ev.congr (f := fun _ => some (0, (gridR X Y g n f o).2)) (fun k => by rw [if_neg h]) (Ev.now _)
theorem small_one {X : List ByteArray} {s : ByteArray} (h : smallL X) (k : s.size ≤ 1048576) : smallL (X ++ [s]) := fun z hz => (List.mem_append.1 hz).elim (h z) (fun e => by simp at e; rw [e]; exact k)
def theS : ByteArray := ⟨#[116, 104, 101]⟩
def catS : ByteArray := ⟨#[99, 97, 116]⟩
def oldS : ByteArray := ⟨#[111, 108, 100]⟩
def ratS : ByteArray := ⟨#[114, 97, 116]⟩
theorem aw11_w : wO 1 3 0 theS theS = 0 ∧ wO 1 3 0 theS oldS = 3 ∧ wO 1 3 0 theS ratS = 3 ∧ wO 1 3 0 catS theS = 3 ∧ wO 1 3 0 catS oldS = 3 ∧ wO 1 3 0 catS ratS = 1 := by decide +kernel
theorem aw11_long : ¬ longL [theS, catS] 0 ∧ ¬ longL [theS, oldS, ratS] 0 := by decide +kernel
theorem aw11_val : dP (wO 1 3 0) 2 [theS, catS] [theS, oldS, ratS] 2 3 = 3 := by
  obtain ⟨h1, h2, h3, h4, h5, h6⟩ := aw11_w
  unfold dP
  simp [dL_cons, dL_nil, dL_nil', h1, h2, h3, h4, h5, h6, Int.min_def]
theorem awake11 : Ev (fun k => siglumlaw11_awake.f k) true := by
  have hs1 : smallL [theS, catS] := by intro s h; simp at h; rcases h with rfl | rfl <;> decide
  have hs2 : smallL [theS, oldS, ratS] := by intro s h; simp at h; rcases h with rfl | rfl | rfl <;> decide
  have e : leastR [theS, catS] [theS, oldS, ratS] 2 1 3 0 = (3, 0) := by
    have hg : gridR [theS, catS] [theS, oldS, ratS] 2 1 3 0 = (gridP [theS, catS] [theS, oldS, ratS] 1 3 0, 0) := by
      unfold gridR
      rw [if_pos (by decide), if_neg (fun h => h.elim aw11_long.1 aw11_long.2)]
    unfold leastR
    rw [hg, if_pos rfl]
    exact congrArg (fun z => (z, (0 : Int))) aw11_val
  have := least_eq [theS, catS] [theS, oldS, ratS] hs1 hs2 2 1 3 0
  rw [e] at this
  exact ev_bind (g := fun k => slim_Least.f k [theS, catS] [theS, oldS, ratS] 2 1 3 0) this (Ev.now _)
theorem SlimMoreP (A B : List ByteArray) (W : ByteArray) (g n f o : Int) (hA : smallL A) (hB : smallL B) (hW : W.size ≤ 1048576) (lA : A.length ≤ 1048576) : ∃ k, siglumlaw11_SlimMore.f k A B W g n f o = some true := by
  have triv : Ev (fun k => siglumlaw11_SlimMore.j0 k A B W true g n f o) true := Ev.step (f := fun _ => some true) (fun k => by rw [siglumlaw11_SlimMore.j0, if_pos rfl]) (Ev.now _)
  have main : Ev (fun k => siglumlaw11_SlimMore.j0 k A B W false g n f o) true := by
    refine Ev.step (f := fun k => (slim_Least.f k A B g n f o).bind fun p => (slim_Least.f k (A ++ [W]) B g n f o).bind fun q => if p.2 = 0 then (if q.2 = 0 then (if wrap64 (q.1 - p.1) ≤ g then some (decide (wrap64 (-(wrap64 (q.1 - p.1))) ≤ g)) else some false) else some true) else some true) (fun k => by
      rw [siglumlaw11_SlimMore.j0, if_neg (by decide)]
      congr 1
      funext p
      rw [if_pos (by rw [List.length_nil]; omega), Option.bind_some, if_pos (by rw [List.nil_append]; omega), List.nil_append]) (ev_bind (least_eq A B hA hB g n f o) (ev_bind (least_eq (A ++ [W]) B (small_one hA hW) hB g n f o) ?_))
    unfold leastR
    by_cases h1 : (gridR A B g n f o).2 = 0
    · rw [if_pos h1]
      by_cases h2 : (gridR (A ++ [W]) B g n f o).2 = 0
      · rw [if_pos h2]
        obtain ⟨_, hs, m1, m2⟩ := gridR_ok h1
        obtain ⟨_, _, m3, _⟩ := gridR_ok h2
        unfold scaleOk at hs
        have hw : ∀ x y, 0 ≤ wO n f o x y := fun x y => (wO_range n f o hs.2.1.1 hs.2.2.1 x y).1
        have r1 := dP_range (wO n f o) g (by omega) hw A B m1 m2 A.length B.length
        have r2 := dP_range (wO n f o) g (by omega) hw (A ++ [W]) B m3 m2 (A ++ [W]).length B.length
        obtain ⟨k1, k2⟩ := dP_more (wO n f o) g (by omega) hw A B W
        refine Ev.congr (f := fun _ => some true) (fun k => ?_) (Ev.now _)
        dsimp only
        generalize dP (wO n f o) g A B A.length B.length = u at r1 k1 k2 ⊢
        generalize dP (wO n f o) g (A ++ [W]) B (A ++ [W]).length B.length = v at r2 k1 k2 ⊢
        rw [if_pos rfl, if_pos rfl, ws (v - u) (by omega) (by omega), if_pos (by omega), ws _ (by omega) (by omega), decide_eq_true (by omega)]
      · rw [if_neg h2]
        exact Ev.congr (fun k => by rw [if_pos rfl, if_neg h2]) (Ev.now _)
    · rw [if_neg h1]
      exact Ev.congr (fun k => by rw [if_neg h1]) (Ev.now _)
  refine Ev.rounds (ev_bind (f := fun k t => if t = true then (if (A.length : Int) ≥ 1024 then siglumlaw11_SlimMore.j0 k A B W true g n f o else (siglumref09_Light.f k A B).bind fun u => if u = true then siglumlaw11_SlimMore.j0 k A B W (decide ((W.size : Int) > 4000)) g n f o else siglumlaw11_SlimMore.j0 k A B W true g n f o) else some false) awake11 (Ev.congr (fun k => by rw [if_pos rfl]) ?_))
  by_cases h1 : (A.length : Int) ≥ 1024
  · exact Ev.congr (fun k => by rw [if_pos h1]) triv
  · refine Ev.congr (fun k => by rw [if_neg h1]) ?_
    obtain ⟨r, hr⟩ := light_any A B hA hB
    refine ev_bind hr ?_
    cases r with
    | false => exact Ev.congr (fun k => by rw [if_neg (by decide)]) triv
    | true =>
      refine Ev.congr (fun k => by rw [if_pos rfl]) ?_
      by_cases h2 : (W.size : Int) > 4000
      · rw [decide_eq_true h2]; exact triv
      · rw [decide_eq_false h2]; exact main
theorem SlimMore (A B : List ByteArray) (W : ByteArray) (g n f o : Int) (_ : ((∀ y ∈ A, (y.size ≤ maxLen)) ∧ A.length ≤ maxLen) ∧ ((∀ y ∈ B, (y.size ≤ maxLen)) ∧ B.length ≤ maxLen) ∧ (W.size ≤ maxLen) ∧ (((Lit.int .i64 g).wf = true) ∧ ((Lit.int .i64 n).wf = true) ∧ ((Lit.int .i64 f).wf = true) ∧ ((Lit.int .i64 o).wf = true))) (hb : (((A.map fun y => (y.size + 1)).sum + 1) + ((B.map fun y => (y.size + 1)).sum + 1) + (W.size + 1) + (1 + 1 + 1 + 1 + 1) + 1) ≤ 1048576) : ∃ k, siglumlaw11_SlimMore.f k A B W g n f o = some true := by
  have a1 := sumLenS A
  exact SlimMoreP A B W g n f o (smallSumS A (by omega)) (smallSumS B (by omega)) (by omega) (by omega)
end Go.Proofs.YtbpinnanfanaaaaDoor.Pure
/-
  How an argument's reading as data gives the kinds that the print speaks of: integers, bools, strings, slices, structs of one-cell fields; and that the bulk of what is read is no more than the data's bulk.
-/
namespace Go.Proofs.YtbpinnanfanaaaaDoor.Op
open Go.RowKit Go.ChangeShapes Go.WideShapes Go.Deep Go.Proofs.YtbpinnanfanaaaaDoorW.PrintWords
theorem bulk_pos {H : Type} (d : DataW H) : 1 ≤ Rows.uptoBulk d := by
  cases d with
  | lit l => cases l <;> simp [Rows.uptoBulk]
  | nil => simp [Rows.uptoBulk]
  | ptr d => simp [Rows.uptoBulk]
  | slice elems spare => simp [Rows.uptoBulk]
  | agg parts => simp [Rows.uptoBulk]
  | iface t d => simp [Rows.uptoBulk]
  | map entries => simp [Rows.uptoBulk]
  | held h => simp [Rows.uptoBulk]
theorem bulk_append {H : Type} (l r : List (DataW H)) : Rows.uptoBulkAll (l ++ r) = Rows.uptoBulkAll l + Rows.uptoBulkAll r := by
  induction l with
  | nil => simp [Rows.uptoBulkAll]
  | cons x l ih => simp only [List.cons_append, Rows.uptoBulkAll, ih]; omega
theorem bulk_bound {H : Type} {l : List (DataW H)} (hk : Rows.uptoSmall H l = true) : Rows.uptoBulkAll l ≤ 1048576 := of_decide_eq_true hk
/-- A reading of type t gives a value of kind d, good, of no more bulk. -/
def Opens (P : Program) {α : Type} (t : TypeId) (d : Kd α) (good : α → Prop) (bulk : α → Nat) : Prop :=
  ∀ {H : Type} {enc : TypeId × Value → H} {w : World} {base : Nat} {spare : Nat → Bool} {held : Bool} {fuel : Nat} {cs : List Value} {x : DataW H × List MemPlace},
    DataW.trod enc P w base spare held fuel t cs = some x → ∃ a : α, d.K w a cs ∧ good a ∧ bulk a ≤ Rows.uptoBulk x.1
variable {P : Program}
theorem opens_int {t : TypeId} {k : IntKind} (ht : P.underlying t = some (.int k)) : Opens P t (Kd.int k) (fun n => (Lit.int k n).wf = true) (fun _ => 1) := by
  intro H enc w base spare held fuel cs x h
  obtain ⟨n, rfl, rfl, hw⟩ := DataW.trod_int ht h
  exact ⟨n, rfl, hw, bulk_pos _⟩
theorem opens_string {t : TypeId} (ht : P.underlying t = some .string) : Opens P t Kd.string (fun s => s.size ≤ maxLen) (fun s => s.size + 1) := by
  intro H enc w base spare held fuel cs x h
  obtain ⟨n, rfl, rfl, hw⟩ := DataW.trod_string ht h
  refine ⟨n, rfl, hw, ?_⟩
  simp [Rows.uptoBulk]
theorem opens_slice {α : Type} {t e : TypeId} {d : Kd α} {good : α → Prop} {bulk : α → Nat} (ht : P.underlying t = some (.slice e)) (hc : P.cellsOf e = d.sz) (h : Opens P e d good bulk) :
    Opens P t (Kd.slice e d) (fun l => (∀ x ∈ l, good x) ∧ l.length ≤ maxLen) (fun l => (l.map bulk).sum + 1) := by
  intro H enc w base spare held fuel cs x hx
  rcases open_slice ht hx with ⟨rfl, rfl⟩ | ⟨a, len, cap, m, n, D, Pl, rfl, hb, hl, hm, hmm, rfl, hi⟩
  · exact ⟨[], ⟨none, 0, rfl, Nat.le_refl _, rfl, Nat.zero_le _, fun h0 => absurd h0 (Nat.lt_irrefl _)⟩, ⟨fun _ hx => absurd hx (List.not_mem_nil), Nat.zero_le _⟩, bulk_pos _⟩
  · have hlm : len ≤ m := by rw [hmm]; split <;> omega
    have key : ∀ j, j ≤ len → ∃ l : List α, l.length = j ∧ (∀ i p, l[i]? = some p → ∃ c, w.cells? base (a.add (i * P.cellsOf e)) (P.cellsOf e) = some c ∧ d.K w p c) ∧ (∀ x ∈ l, good x) ∧ (l.map bulk).sum ≤ Rows.uptoBulkAll ((List.range j).map D) := by
      intro j
      induction j with
      | zero => intro _; exact ⟨[], rfl, fun i p hp => by simp at hp, fun _ hx => absurd hx (List.not_mem_nil), by simp⟩
      | succ j ih =>
        intro hj
        obtain ⟨l, hll, h1, h2, h3⟩ := ih (by omega)
        obtain ⟨cs', hcs, htr⟩ := hi j (by omega)
        obtain ⟨p, hK, hg, hbk⟩ := h htr
        refine ⟨l ++ [p], by simp [hll], fun i q hq => ?_, fun x hx => ?_, ?_⟩
        · rcases Nat.lt_trichotomy i l.length with hlt | heq | hgt
          · rw [List.getElem?_append_left hlt] at hq
            exact h1 i q hq
          · subst heq
            simp at hq
            subst hq
            rw [hll]
            exact ⟨cs', hcs, hK⟩
          · rw [List.getElem?_eq_none (by simp; omega)] at hq
            cases hq
        · rcases List.mem_append.1 hx with hx | hx
          · exact h2 x hx
          · rw [List.mem_singleton.1 hx]; exact hg
        · rw [List.map_append, List.sum_append, List.range_succ, List.map_append, bulk_append]
          simp only [List.map_cons, List.map_nil, List.sum_cons, List.sum_nil, Rows.uptoBulkAll]
          have hbk' : bulk p ≤ Rows.uptoBulk (D j) := hbk
          omega
    obtain ⟨l, hll, h1, h2, h3⟩ := key len (Nat.le_refl _)
    refine ⟨l, ⟨some a, cap, by rw [hll], by omega, rfl, by rw [hll]; unfold maxLen at hm; omega, fun _ => ⟨a, rfl, fun j p hp => ?_⟩⟩, ⟨h2, by rw [hll]; omega⟩, ?_⟩
    · obtain ⟨c, hcc, hK⟩ := h1 j p hp
      obtain ⟨_, hcl, hat⟩ := World.cells?_some hcc
      refine ⟨c, by rw [hcl, hc], hK, fun i u hu => ?_⟩
      have hil : i < P.cellsOf e := by
        rw [← hcl]
        exact (List.getElem?_eq_some_iff.1 hu).1
      rw [← hc, ← Go.Deep.add_add, hat i hil, hu]
    · show (l.map bulk).sum + 1 ≤ Rows.uptoBulkAll ((List.range len).map D) + Rows.uptoBulkAll _ + 1
      omega
/-- A struct of one-cell fields. -/
theorem open_fields {H : Type} {enc : TypeId × Value → H} {w : World} {base : Nat} {spare : Nat → Bool} {held : Bool} {t : TypeId} {fs : Array Field} {fuel : Nat} {cs : List Value} {x : DataW H × List MemPlace} (he : P.underlying t = some (.struct fs))
    (hone : oneCellFields P fs = true) (hC : P.cellsOf t = fs.size) (h : DataW.trod enc P w base spare held fuel t cs = some x) :
    ∃ (ys : List (DataW H × List MemPlace)) (n : Nat), x.1 = .agg (ys.map (·.1)) ∧ ys.length = fs.size ∧ cs.length = fs.size ∧
      ∀ (j : Nat) (f : Field), fs[j]? = some f → ∃ (v : Value) (y : DataW H × List MemPlace), cs[j]? = some v ∧ ys[j]? = some y ∧ DataW.trod enc P w base spare held n f.type [v] = some y := by
  obtain ⟨ys, n', hn', hy, hlen, hyl, hf⟩ := DataW.trod_struct he h
  refine ⟨ys, n', by rw [hy], hyl, by rw [hlen, hC], fun j f hj => ?_⟩
  obtain ⟨ho, hk⟩ := hone_of hone j f hj
  have hjl : j < fs.size := (Array.getElem?_eq_some_iff.1 hj).1
  have hcl : j < cs.length := by rw [hlen, hC]; exact hjl
  have h1 := hf j f hj
  rw [ho, hk] at h1
  have hone' : (cs.drop j).take 1 = [cs[j]] := by
    rw [List.drop_eq_getElem_cons hcl]
    rfl
  rw [hone'] at h1
  have hys : ys[j]? = some (ys[j]'(by omega)) := List.getElem?_eq_getElem (by omega)
  exact ⟨_, _, List.getElem?_eq_getElem hcl, hys, h1.trans hys⟩
end Go.Proofs.YtbpinnanfanaaaaDoor.Op
/-
  The listed tables of utf8, strings and unicode: what a row's list gives a walk; a world in which the listed variables lie as their initialisers lay them.
-/
namespace Go.Proofs.YtbpinnanfanaaaaDoor.Tb
open Go.Shelf Go.ChangeShapes Go.WideShapes Go.ChangeAt Go.RowKit Go.Lib
abbrev listed : List (String × DataW Unit) := [("unicode/utf8.acceptRanges", Rows.laid_unicode_utf8_acceptRanges), ("unicode.White_Space", Rows.laid_unicode_White_Space), ("strings.asciiSpace", Rows.laid_strings_asciiSpace), ("unicode/utf8.first", Rows.laid_unicode_utf8_first)]
theorem acc_eq : (Rows.laid_unicode_utf8_acceptRanges : DataW Unit) = Lib.acceptData := by kernel_rfl
theorem first_eq : (Rows.laid_unicode_utf8_first : DataW Unit) = Lib.firstData := Pinned.utf8First_eq
theorem space_eq : (Rows.laid_strings_asciiSpace : DataW Unit) = Lib.tabData .u8 Lib.asciiSpaceTab := by kernel_rfl
theorem tabs {W : World} (hL : laidMet Tryd.prog listed W) : Utf.Tabs2 W := by
  have h4 : VarReads Tryd.prog W "unicode/utf8.acceptRanges" acceptData := by rw [← acc_eq]; exact Lib.laidMet.reads hL (.head _)
  have h3 : VarReads Tryd.prog W "unicode/utf8.first" firstData := by rw [← first_eq]; exact Lib.laidMet.reads hL (.tail _ (.tail _ (.tail _ (.head _))))
  have h2 : VarReads Tryd.prog W "strings.asciiSpace" (Lib.tabData .u8 Lib.asciiSpaceTab) := by rw [← space_eq]; exact Lib.laidMet.reads hL (.tail _ (.tail _ (.head _)))
  refine ⟨utf8Tabs_of_readsT (U8Types.of260 Tryd.lays260) ⟨by kernel_rfl, by kernel_rfl, by kernel_rfl, by kernel_rfl, by kernel_rfl, by kernel_rfl, by kernel_rfl⟩ h3 h4, ?_⟩
  obtain ⟨g, t, cs, fuel, p, hg, ht, hv, hread⟩ := h2
  have e1 : g = 2 := Option.some.inj (hg.symm.trans (by kernel_rfl))
  subst e1
  have e2 : t = 130 := Option.some.inj (ht.symm.trans (by kernel_rfl))
  subst e2
  have hc := Lib.cells_of_tab (n := 256) (e := 5) Tryd.underlying130 Tryd.underlying5 (by kernel_rfl) (by kernel_rfl) hread
  unfold Lib.TabIs
  rw [hv]
  congr 1
  exact Array.toList_inj.1 (by rw [hc])
noncomputable def laidWorld (os : Os) : World :=
  let w0 := World.holding Tryd.prog os ⟨#[], #[], []⟩
  let put (h : Array Obj) (g : Nat) (cs : Array Value) : Array Obj := h.modify g fun
    | .cells _ t frozen => .cells cs t frozen
    | o => o
  let h1 := put w0.heap 0 (Lib.firstTab.map fun z => Value.int .u8 z).toArray
  let h2 := put h1 1 ((List.range 16).flatMap fun i => [Value.int .u8 (Lib.accLo i), Value.int .u8 (Lib.accHi i)]).toArray
  let h3 := put h2 2 (Lib.asciiSpaceTab.map fun z => Value.int .u8 z).toArray
  let h4 := put h3 3 #[.pointer (some ⟨h3.size, 0, none⟩)]
  let h5 := (h4.push (.cells #[.slice (some ⟨h4.size + 1, 0, none⟩) 7 7, .slice none 0 0, .int .i64 2] 148 (0, 0))).push (.cells ([9, 13, 1, 32, 133, 101, 160, 5760, 5600, 8192, 8202, 1, 8232, 8233, 1, 8239, 8287, 48, 12288, 12288, 1].map fun z => Value.int .u16 z).toArray 151 (0, 0))
  { w0 with heap := h5 }
theorem laid_met (os : Os) (args : Array Value) : laidMet Tryd.prog listed ((laidWorld os).forCall (fun _ _ => 0) ⟨#[], args, []⟩).memory := by
  have h := (LaidIn.of_run (P := Tryd.prog) (w := ((laidWorld os).forCall (fun _ _ => 0) ⟨#[], args, []⟩).memory) (l := [("unicode/utf8.acceptRanges", Lib.acceptData), ("unicode.White_Space", Rows.laid_unicode_White_Space), ("strings.asciiSpace", Rows.laid_strings_asciiSpace), ("unicode/utf8.first", Lib.firstData)]) (List.range 40) 8 (by kernel_rfl) (by kernel_rfl) (by kernel_rfl) (by kernel_rfl)).met
  rw [← acc_eq, ← first_eq] at h
  exact h
end Go.Proofs.YtbpinnanfanaaaaDoor.Tb
