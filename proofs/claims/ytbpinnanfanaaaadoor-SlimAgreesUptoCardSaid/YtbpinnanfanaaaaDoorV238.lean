import Derived.Test.YtbpinnanfanaaaaDoorV237
import Derived.Test.YtbpinnanfanaaaaDoorV26
import Derived.Test.YtbpinnanfanaaaaDoorV27
import Derived.Test.YtbpinnanfanaaaaDoorV25
import Derived.Test.YtbpinnanfanaaaaDoorV29
import Derived.Test.YtbpinnanfanaaaaDoorV210
import Derived.Test.YtbpinnanfanaaaaDoorV212
import Derived.Test.YtbpinnanfanaaaaDoorV211
import Derived.Test.YtbpinnanfanaaaaDoorV232
import Derived.Test.YtbpinnanfanaaaaDoorV233
import Derived.Test.YtbpinnanfanaaaaDoorV234
import Derived.Test.YtbpinnanfanaaaaDoorV225
/-
  What words cost, in plain numbers: a text folded; which are too long; what two words cost.
-/
namespace Go.Proofs.YtbpinnanfanaaaaDoor.Pure
open Go.RowKit Go.Proofs.YtbpinnanfanaaaaDoor.L Go.Proofs.YtbpinnanfanaaaaDoorW.PrintWords Go.Proofs.YtbpinnanfanaaaaDoorW.PrintLast Go.Proofs.YtbpinnanfanaaaaDoorW.PrintMore
def fd (s : ByteArray) (o : Int) : ByteArray := ⟨(foldT o (gCells s s.size 0)).toArray⟩
theorem fd_size (s : ByteArray) (o : Int) : (fd s o).size ≤ 12 * s.size := by
  have h1 := foldT_len o (gCells s s.size 0)
  have h2 := Pl.cells_le s
  show (foldT o (gCells s s.size 0)).toArray.size ≤ _
  simp
  omega
theorem fold_eq (s : ByteArray) (o : Int) (hs : s.size ≤ 1048576) (ho : 0 ≤ o ∧ o ≤ 31) : fold_Text.f s o = some (fd s o, 0) := by
  have h2 := Pl.cells_le s
  unfold fold_Text.f glyph_Cells.f
  rw [if_pos ho, if_pos (by omega), Option.bind_some, if_pos ⟨fun c hc => Pl.cells_byte s s.size 0 c hc, by omega⟩]
  rfl
theorem count_eq (t : ByteArray) (ht : t.size ≤ 4294967296) : glyph_Count.f t = some (((cb t).length : Nat) : Int) := by
  unfold glyph_Count.f
  rw [if_pos ht, cb_len, Pl.cells_length]
def longW (s : ByteArray) (o : Int) : Bool := decide (256 < (cb (fd s o)).length)
def wordOf (o : Int) (s : ByteArray) : S67 := ⟨s, fd s o⟩
theorem rdW_nat (l : List S67) (i : Nat) (h : i < l.length) : rd_T67 l (i : Int) = l[i] := by
  unfold rd_T67
  rw [Int.toNat_natCast, List.getD_eq_getElem?_getD, List.getElem?_eq_getElem h]
  rfl
theorem folded_loop (L : List ByteArray) (hL : ∀ s ∈ L, s.size ≤ 1048576) (hl : L.length ≤ 1024) (g n f o : Int) (ho : 0 ≤ o ∧ o ≤ 31) : ∀ (d i k : Nat) (acc : List S67), i + d = L.length → acc.length = i → d + 1 ≤ k →
    cost_folded.l0 k acc L (L.length : Int) (i : Int) g n f o = some (if (L.drop i).any (fun s => longW s o) = true then ([], 1) else (acc ++ (L.drop i).map (wordOf o), 0))
  | 0, i, k, acc, hd, ha, hk => by
    obtain ⟨k, rfl⟩ : ∃ m, k = m + 1 := ⟨k - 1, by omega⟩
    rw [cost_folded.l0, if_neg (by omega), List.drop_of_length_le (by omega)]
    simp
  | d + 1, i, k, acc, hd, ha, hk => by
    obtain ⟨k, rfl⟩ : ∃ m, k = m + 1 := ⟨k - 1, by omega⟩
    have hi : i < L.length := by omega
    have hs := hL _ (List.getElem_mem hi)
    have hz := fd_size L[i] o
    have e2 : ((i + 1 : Nat) : Int) = (i : Int) + 1 := by omega
    rw [cost_folded.l0, if_pos (by omega), if_pos (by omega), if_pos (by omega), rdOf_nat L i hi, fold_eq _ _ hs ho, Option.bind_some]
    dsimp only
    rw [count_eq _ (by omega), Option.bind_some, List.drop_eq_getElem_cons hi, List.any_cons]
    by_cases hlg : 256 < (cb (fd L[i] o)).length
    · rw [if_pos (by omega)]
      have : longW L[i] o = true := decide_eq_true hlg
      rw [this]
      simp
    · have hf : longW L[i] o = false := decide_eq_false hlg
      rw [if_neg (by omega), if_pos (by omega), ws ((i : Int) + 1) (by omega) (by omega), ← e2, folded_loop L hL hl g n f o ho d (i + 1) k _ (by omega) (by simp; omega) (by omega), hf, List.map_cons]
      simp [wordOf]
def foldedP (L : List ByteArray) (o : Int) : List S67 × Int := if 1024 < L.length then ([], 1) else if L.any (fun s => longW s o) = true then ([], 1) else (L.map (wordOf o), 0)
theorem folded_eq (L : List ByteArray) (hL : ∀ s ∈ L, s.size ≤ 1048576) (g n f o : Int) (ho : 0 ≤ o ∧ o ≤ 31) (k : Nat) (hk : 1025 ≤ k) : cost_folded.f k L g n f o = some (foldedP L o) := by
  unfold cost_folded.f foldedP
  by_cases h : 1024 < L.length
  · rw [if_pos (by omega), if_pos h]
  · rw [if_neg (by omega), if_neg h]
    have := folded_loop L hL (by omega) g n f o ho L.length 0 k [] (by omega) rfl (by omega)
    simpa using this
def lostB : List UInt8 := [226, 151, 140]
def twoP (a ka b kb : ByteArray) (n f : Int) : Int := if ka.data.toList = kb.data.toList then 0 else if a.data.toList = lostB ∨ b.data.toList = lostB then min n f else min f (((Lv.lev (cb ka) (cb kb) : Nat) : Int) * n)
theorem lev_256 (x y : ByteArray) (hx : (cb x).length ≤ 256) (hy : (cb y).length ≤ 256) : Lv.lev (cb x) (cb y) ≤ 256 := by
  have := Lv.lev_max (cb x) (cb y)
  omega
theorem two_eq (a ka b kb : ByteArray) (g n f o : Int) (hn : 1 ≤ n ∧ n ≤ 1000) (h1 : ka.size ≤ 12582912) (h2 : kb.size ≤ 12582912) (l1 : (cb ka).length ≤ 256) (l2 : (cb kb).length ≤ 256) (k : Nat) (hk : 30000000 ≤ k) :
    cost_two.f k a ka b kb g n f o = some (twoP a ka b kb n f) := by
  unfold cost_two.f twoP lostB
  simp only [toList_data]
  by_cases e1 : ka.data.toList = kb.data.toList
  · rw [if_pos e1, if_pos e1]
  · rw [if_neg e1, if_neg e1]
    by_cases e2 : a.data.toList = [226, 151, 140]
    · rw [if_pos e2, if_pos (Or.inl e2), mn_eq]
    · rw [if_neg e2]
      by_cases e3 : b.data.toList = [226, 151, 140]
      · rw [if_pos e3, if_pos (Or.inr e3), mn_eq]
      · have hlv := lev_256 ka kb l1 l2
        have hb1 : 0 ≤ ((Lv.lev (cb ka) (cb kb) : Nat) : Int) * n := Int.mul_nonneg (by omega) (by omega)
        have hb2 : ((Lv.lev (cb ka) (cb kb) : Nat) : Int) * n ≤ 256 * 1000 := Int.mul_le_mul (by omega) (by omega) (by omega) (by omega)
        rw [if_neg e3, if_neg (fun h => h.elim e2 e3), of_eq ka kb (by omega) (by omega) k (by unfold kOf; omega), Option.bind_some]
        unfold dOf
        rw [if_pos ⟨l1, l2⟩]
        dsimp only
        rw [ws _ (by omega) (by omega), mn_eq]
def wP (a b : ByteArray) (g n f o : Int) : Int × Int := if scaleOk g n f o then (if longW a o = true ∨ longW b o = true then (0, 1) else (twoP a (fd a o) b (fd b o) n f, 0)) else (0, 90)
theorem short_of (s : ByteArray) (o : Int) (h : ¬ longW s o = true) : (cb (fd s o)).length ≤ 256 := by
  unfold longW at h
  simpa using h
theorem check_eq (g n f o : Int) : cost_Check.f g n f o = some (if scaleOk g n f o then 0 else 90) := rfl
theorem lev_pos (x y : ByteArray) (h : ¬ x.data.toList = y.data.toList) : 1 ≤ Lv.lev (cb x) (cb y) := by
  rcases Nat.eq_zero_or_pos (Lv.lev (cb x) (cb y)) with h0 | h0
  · exact absurd (by rw [← toList_data, ← toList_data]; exact (cb_inj x y).1 (Lv.lev_zero.1 h0)) h
  · exact h0
theorem two_range (a ka b kb : ByteArray) (n f : Int) (hn : 1 ≤ n) (hf : 1 ≤ f) : 0 ≤ twoP a ka b kb n f ∧ twoP a ka b kb n f ≤ f ∧ (twoP a ka b kb n f = 0 ↔ ka.data.toList = kb.data.toList) := by
  unfold twoP
  by_cases e1 : ka.data.toList = kb.data.toList
  · rw [if_pos e1]
    exact ⟨by omega, by omega, ⟨fun _ => e1, fun _ => rfl⟩⟩
  · rw [if_neg e1]
    by_cases e2 : a.data.toList = lostB ∨ b.data.toList = lostB
    · rw [if_pos e2]
      exact ⟨by omega, by omega, ⟨fun h => by omega, fun h => absurd h e1⟩⟩
    · rw [if_neg e2]
      have h1 := lev_pos ka kb e1
      have h2 : n ≤ ((Lv.lev (cb ka) (cb kb) : Nat) : Int) * n := by
        have := Int.mul_le_mul_of_nonneg_right (show (1 : Int) ≤ ((Lv.lev (cb ka) (cb kb) : Nat) : Int) by omega) (show (0 : Int) ≤ n by omega)
        omega
      exact ⟨by omega, by omega, ⟨fun h => by omega, fun h => absurd h e1⟩⟩
end Go.Proofs.YtbpinnanfanaaaaDoor.Pure
/-
  Two lists of words, in plain numbers: their grid; the least price of what is left of both; the alignment that is walked.
-/
namespace Go.Proofs.YtbpinnanfanaaaaDoor.Pure
open Go.RowKit Go.Proofs.YtbpinnanfanaaaaDoor.L Go.Proofs.YtbpinnanfanaaaaDoorW.PrintWords Go.Proofs.YtbpinnanfanaaaaDoorW.PrintLast Go.Proofs.YtbpinnanfanaaaaDoorW.PrintMore
theorem ev_at {α : Type} {g : Nat → Option α} {r : α} (K : Nat) (h : ∀ k, K ≤ k → g k = some r) : Ev g r := ⟨K, h⟩
theorem ev_bind {α β : Type} {g : Nat → Option α} {f : Nat → α → Option β} {a : α} {r : β} (h : Ev g a) (k : Ev (fun n => f n a) r) : Ev (fun n => (g n).bind (f n)) r := Ev.bind h k
theorem wsucc (i : Nat) (h : i < 4611686018427387904) : wrap64 ((i : Int) + 1) = ((i + 1 : Nat) : Int) := by rw [ws _ (by omega) (by omega)]; omega
theorem two_ind {α : Type} {P : List α → List α → Prop} (h0 : ∀ ys, P [] ys) (h1 : ∀ x xs, P (x :: xs) []) (h2 : ∀ x xs y ys, P xs ys → P xs (y :: ys) → P (x :: xs) ys → P (x :: xs) (y :: ys)) : ∀ xs ys, P xs ys := by
  intro xs
  induction xs with
  | nil => exact h0
  | cons x xs ih =>
    intro ys
    induction ys with
    | nil => exact h1 x xs
    | cons y ys ih2 => exact h2 x xs y ys (ih ys) (ih (y :: ys)) ih2
/-! two lists -/
def dL {α : Type} (w : α → α → Int) (gap : Int) : List α → List α → Int
  | [], ys => (ys.length : Int) * gap
  | _ :: xs, [] => ((xs.length + 1 : Nat) : Int) * gap
  | x :: xs, y :: ys => min (min (dL w gap xs ys + w x y) (dL w gap xs (y :: ys) + gap)) (dL w gap (x :: xs) ys + gap)
termination_by xs ys => xs.length + ys.length
section
variable {α : Type} (w : α → α → Int) (gap : Int)
theorem dL_nil (ys : List α) : dL w gap [] ys = (ys.length : Int) * gap := by rw [dL]
theorem dL_nil' (xs : List α) : dL w gap xs [] = (xs.length : Int) * gap := by cases xs <;> rw [dL] <;> rfl
theorem dL_cons (x y : α) (xs ys : List α) : dL w gap (x :: xs) (y :: ys) = min (min (dL w gap xs ys + w x y) (dL w gap xs (y :: ys) + gap)) (dL w gap (x :: xs) ys + gap) := by rw [dL]
theorem dL_nonneg (hg : 0 ≤ gap) (hw : ∀ x y, 0 ≤ w x y) : ∀ xs ys, 0 ≤ dL w gap xs ys := by
  refine two_ind (fun ys => ?_) (fun x xs => ?_) (fun x xs y ys h1 h2 h3 => ?_)
  · rw [dL_nil]; exact Int.mul_nonneg (by omega) hg
  · rw [dL_nil']; exact Int.mul_nonneg (by omega) hg
  · rw [dL_cons]; have := hw x y; omega
theorem succ_mul_gap (n : Nat) : ((n + 1 : Nat) : Int) * gap = (n : Int) * gap + gap := by rw [Int.natCast_add, Int.add_mul]; simp
theorem dL_le : ∀ xs ys, dL w gap xs ys ≤ ((xs.length + ys.length : Nat) : Int) * gap := by
  refine two_ind (fun ys => ?_) (fun x xs => ?_) (fun x xs y ys h1 h2 h3 => ?_)
  · rw [dL_nil]; simp
  · rw [dL_nil']; simp
  · rw [dL_cons]
    have e : (((x :: xs).length + (y :: ys).length : Nat) : Int) * gap = ((xs.length + (y :: ys).length : Nat) : Int) * gap + gap := by
      rw [show (x :: xs).length + (y :: ys).length = (xs.length + (y :: ys).length) + 1 from by simp only [List.length_cons]; omega, succ_mul_gap]
    omega
def dR (X Y : List α) (i j : Nat) : Int := dL w gap (X.drop i) (Y.drop j)
theorem dR_endl (X Y : List α) (j : Nat) (h : j ≤ Y.length) : dR w gap X Y X.length j = ((Y.length : Int) - (j : Int)) * gap := by
  unfold dR
  rw [List.drop_of_length_le (Nat.le_refl _), dL_nil, List.length_drop]
  congr 1
  omega
theorem dR_endr (X Y : List α) (i : Nat) (h : i ≤ X.length) : dR w gap X Y i Y.length = ((X.length : Int) - (i : Int)) * gap := by
  unfold dR
  rw [List.drop_of_length_le (l := Y) (Nat.le_refl _), dL_nil', List.length_drop]
  congr 1
  omega
theorem dR_step (X Y : List α) (i j : Nat) (hi : i < X.length) (hj : j < Y.length) : dR w gap X Y i j = min (min (dR w gap X Y (i + 1) (j + 1) + w X[i] Y[j]) (dR w gap X Y (i + 1) j + gap)) (dR w gap X Y i (j + 1) + gap) := by
  unfold dR
  have e1 := List.drop_eq_getElem_cons hi
  have e2 := List.drop_eq_getElem_cons hj
  rw [e1, e2, dL_cons, ← e1, ← e2]
theorem dR_range (hg : 0 ≤ gap ∧ gap ≤ 1000) (hw : ∀ x y, 0 ≤ w x y) (X Y : List α) (hX : X.length ≤ 1024) (hY : Y.length ≤ 1024) (i j : Nat) : 0 ≤ dR w gap X Y i j ∧ dR w gap X Y i j ≤ 2048000 := by
  refine ⟨dL_nonneg w gap hg.1 hw _ _, Int.le_trans (dL_le w gap _ _) ?_⟩
  refine Int.le_trans (Int.mul_le_mul (c := 2048) (d := 1000) ?_ hg.2 hg.1 (by omega)) (by omega)
  rw [List.length_drop, List.length_drop]
  omega
end
/-! tables -/
def at2 (T : List (List Int)) (i j : Nat) : Int := (T.getD i []).getD j 0
def setT (T : List (List Int)) (i j : Nat) (v : Int) : List (List Int) := T.set i ((T.getD i []).set j v)
theorem getD_set_same {β : Type} (l : List β) (i : Nat) (h : i < l.length) (v d : β) : (l.set i v).getD i d = v := by
  rw [List.getD_eq_getElem?_getD, List.getElem?_set, if_pos rfl, if_pos h]; rfl
theorem getD_set_ne {β : Type} (l : List β) (i j : Nat) (h : i ≠ j) (v d : β) : (l.set i v).getD j d = l.getD j d := by
  rw [List.getD_eq_getElem?_getD, List.getElem?_set, if_neg h, ← List.getD_eq_getElem?_getD]
theorem getD_get {β : Type} (l : List β) (i : Nat) (h : i < l.length) (d : β) : l.getD i d = l[i] := by
  rw [List.getD_eq_getElem?_getD, List.getElem?_eq_getElem h]; rfl
structure Upd (T T' : List (List Int)) (i j : Nat) (v : Int) : Prop where
  len : T'.length = T.length
  lens : ∀ p, (T'.getD p []).length = (T.getD p []).length
  here : at2 T' i j = v
  else_ : ∀ p q, ¬ (p = i ∧ q = j) → at2 T' p q = at2 T p q
theorem upd_set (T : List (List Int)) (i j : Nat) (v : Int) (hi : i < T.length) (hj : j < (T.getD i []).length) : Upd T (setT T i j v) i j v := by
  refine ⟨by unfold setT; rw [List.length_set], fun p => ?_, ?_, fun p q h => ?_⟩
  · unfold setT
    by_cases e : i = p
    · subst e; rw [getD_set_same _ _ hi, List.length_set]
    · rw [getD_set_ne _ _ _ e]
  · unfold at2 setT
    rw [getD_set_same _ _ hi, getD_set_same _ _ hj]
  · unfold at2 setT
    by_cases e : i = p
    · subst e
      rw [getD_set_same _ _ hi, getD_set_ne _ _ _ (fun e => h ⟨rfl, e.symm⟩)]
    · rw [getD_set_ne _ _ _ e]
theorem Upd.trans {T T' T'' : List (List Int)} {i j : Nat} {a b : Int} (h : Upd T T' i j a) (g : Upd T' T'' i j b) : Upd T T'' i j b :=
  ⟨g.len.trans h.len, fun p => (g.lens p).trans (h.lens p), g.here, fun p q e => (g.else_ p q e).trans (h.else_ p q e)⟩
/-! the grid -/
def wO (n f o : Int) (x y : ByteArray) : Int := twoP x (fd x o) y (fd y o) n f
def gridP (X Y : List ByteArray) (n f o : Int) : List (List Int) := X.map fun x => Y.map fun y => wO n f o x y
theorem grid_len (X Y : List ByteArray) (n f o : Int) : (gridP X Y n f o).length = X.length := by unfold gridP; rw [List.length_map]
theorem grid_row (X Y : List ByteArray) (n f o : Int) (i : Nat) (h : i < X.length) : (gridP X Y n f o).getD i [] = Y.map fun y => wO n f o X[i] y := by
  rw [getD_get _ _ (by rw [grid_len]; exact h)]
  unfold gridP
  rw [List.getElem_map]
theorem grid_rlen (X Y : List ByteArray) (n f o : Int) (i : Nat) (h : i < X.length) : ((gridP X Y n f o).getD i []).length = Y.length := by rw [grid_row _ _ _ _ _ _ h, List.length_map]
theorem grid_at (X Y : List ByteArray) (n f o : Int) (i j : Nat) (h : i < X.length) (hj : j < Y.length) : at2 (gridP X Y n f o) i j = wO n f o X[i] Y[j] := by
  unfold at2
  rw [grid_row _ _ _ _ _ _ h, getD_get _ _ (by rw [List.length_map]; exact hj), List.getElem_map]
theorem wO_range (n f o : Int) (hn : 1 ≤ n) (hf : 1 ≤ f ∧ f ≤ 1000) (x y : ByteArray) : 0 ≤ wO n f o x y ∧ wO n f o x y ≤ 1000 := by
  have := two_range x (fd x o) y (fd y o) n f hn hf.1
  unfold wO
  omega
def longL (L : List ByteArray) (o : Int) : Prop := 1024 < L.length ∨ L.any (fun s => longW s o) = true
instance (L : List ByteArray) (o : Int) : Decidable (longL L o) := by unfold longL; infer_instance
theorem folded_long (L : List ByteArray) (o : Int) : foldedP L o = if longL L o then ([], 1) else (L.map (wordOf o), 0) := by
  unfold foldedP
  by_cases h : 1024 < L.length
  · rw [if_pos h, if_pos (show longL L o from Or.inl h)]
  · by_cases h2 : L.any (fun s => longW s o) = true
    · rw [if_neg h, if_pos h2, if_pos (show longL L o from Or.inr h2)]
    · rw [if_neg h, if_neg h2, if_neg (fun e : longL L o => Or.elim e h h2)]
theorem not_long {L : List ByteArray} {o : Int} (h : ¬ longL L o) : L.length ≤ 1024 ∧ ∀ s ∈ L, ¬ longW s o = true := by
  unfold longL at h
  refine ⟨by omega, fun s hs e => h (Or.inr (List.any_eq_true.2 ⟨s, hs, e⟩))⟩
def gridR (X Y : List ByteArray) (g n f o : Int) : List (List Int) × Int := if scaleOk g n f o then (if longL X o ∨ longL Y o then ([], 1) else (gridP X Y n f o, 0)) else ([], 90)
def smallL (L : List ByteArray) : Prop := ∀ s ∈ L, s.size ≤ 1048576
section
variable (X Y : List ByteArray) (g n f o : Int) (hn : 1 ≤ n ∧ n ≤ 1000) (hX : smallL X) (hY : smallL Y) (lX : ¬ longL X o) (lY : ¬ longL Y o)
include hn hX hY lX lY
theorem grid_two (i j : Nat) (hi : i < X.length) (hj : j < Y.length) : Ev (fun k => cost_two.f k X[i] (fd X[i] o) Y[j] (fd Y[j] o) g n f o) (wO n f o X[i] Y[j]) := by
  have z1 := fd_size X[i] o
  have z2 := fd_size Y[j] o
  have s1 := hX _ (List.getElem_mem hi)
  have s2 := hY _ (List.getElem_mem hj)
  exact ev_at 30000000 fun k hk => two_eq X[i] (fd X[i] o) Y[j] (fd Y[j] o) g n f o hn (by omega) (by omega) (short_of _ _ ((not_long lX).2 _ (List.getElem_mem hi))) (short_of _ _ ((not_long lY).2 _ (List.getElem_mem hj))) k hk
theorem grid_l1 (i : Nat) (hi : i < X.length) (R : List (List Int) × Int)
    (ih : ∀ T : List (List Int), T.length = X.length → (∀ p, p < i + 1 → T.getD p [] = (gridP X Y n f o).getD p []) → Ev (fun k => cost_Grid.l0 k (Y.map (wordOf o)) T (X.map (wordOf o)) (X.length : Int) ((i + 1 : Nat) : Int) g n f o) R) :
    ∀ (d j : Nat) (T : List (List Int)), j + d = Y.length → T.length = X.length → (∀ p, p < i → T.getD p [] = (gridP X Y n f o).getD p []) → (T.getD i []).length = Y.length → (∀ q, q < j → at2 T i q = at2 (gridP X Y n f o) i q) →
    Ev (fun k => cost_Grid.l1 k (Y.map (wordOf o)) T (i : Int) (X.map (wordOf o)) (X.length : Int) (i : Int) (Y.map (wordOf o)) (Y.length : Int) (j : Int) g n f o X[i] (fd X[i] o)) R
  | 0, j, T, hd, hT, hp, hr, hq => by
    have l1 := (not_long lX).1
    refine Ev.step (fun k => by rw [cost_Grid.l1, if_neg (by omega), wsucc i (by omega)]) (ih T hT fun p hp' => ?_)
    by_cases e : p = i
    · subst e
      refine List.ext_getElem (by rw [hr, grid_rlen _ _ _ _ _ _ hi]) fun q h1 h2 => ?_
      have := hq q (by omega)
      unfold at2 at this
      rwa [getD_get _ _ h1, getD_get _ _ h2] at this
    · exact hp p (by omega)
  | d + 1, j, T, hd, hT, hp, hr, hq => by
    have l2 := (not_long lY).1
    have hj : j < Y.length := by omega
    have hjm : j < (Y.map (wordOf o)).length := by rw [List.length_map]; exact hj
    refine Ev.step (fun k => by
      rw [cost_Grid.l1, if_pos (by omega), if_pos (by omega), if_pos (by rw [List.length_map]; omega), if_pos (by omega), if_pos (by omega), rdW_nat _ j hjm, List.getElem_map]; rfl) (ev_bind (f := fun k t => if (j : Int) < ((rd_L11 T (i : Int)).length : Int) then cost_Grid.l1 k (Y.map (wordOf o)) (T.set (i : Int).toNat ((rd_L11 T (i : Int)).set (j : Int).toNat t)) (i : Int) (X.map (wordOf o)) (X.length : Int) (i : Int) (Y.map (wordOf o)) (Y.length : Int) (wrap64 ((j : Int) + 1)) g n f o X[i] (fd X[i] o) else none) (grid_two X Y g n f o hn hX hY lX lY i j hi hj) ?_)
    have hr' : (rd_L11 T (i : Int)).length = Y.length := hr
    have u := upd_set T i j (wO n f o X[i] Y[j]) (by omega) (by omega)
    refine Ev.congr (fun k => by rw [if_pos (by omega), wsucc j (by omega)]; rfl) (grid_l1 i hi R ih d (j + 1) (setT T i j (wO n f o X[i] Y[j])) (by omega) (u.len.trans hT) (fun p hp' => ?_) ((u.lens i).trans hr) (fun q hq' => ?_))
    · rw [← hp p hp']
      unfold setT
      rw [getD_set_ne _ _ _ (by omega)]
    · by_cases e : q = j
      · subst e; rw [u.here, grid_at _ _ _ _ _ _ _ hi hj]
      · rw [u.else_ i q (fun h => e h.2), hq q (by omega)]
theorem grid_l0 : ∀ (d i : Nat) (T : List (List Int)), i + d = X.length → T.length = X.length → (∀ p, p < i → T.getD p [] = (gridP X Y n f o).getD p []) →
    Ev (fun k => cost_Grid.l0 k (Y.map (wordOf o)) T (X.map (wordOf o)) (X.length : Int) (i : Int) g n f o) (gridP X Y n f o, 0)
  | 0, i, T, hd, hT, hp => by
    have e : T = gridP X Y n f o := by
      refine List.ext_getElem (by rw [hT, grid_len]) fun p h1 h2 => ?_
      have := hp p (by omega)
      rwa [getD_get _ _ h1, getD_get _ _ h2] at this
    exact Ev.step (f := fun _ => some (gridP X Y n f o, 0)) (fun k => by rw [cost_Grid.l0, if_neg (by omega), e]) (Ev.now _)
  | d + 1, i, T, hd, hT, hp => by
    have l2 := (not_long lY).1
    have hi : i < X.length := by omega
    have him : i < (X.map (wordOf o)).length := by rw [List.length_map]; exact hi
    refine Ev.step (fun k => by
      rw [cost_Grid.l0, if_pos (by omega), if_pos (by omega), if_pos (by rw [List.length_map]; omega), if_pos (by omega), if_pos (by rw [List.length_map]; omega), if_pos (by omega), rdW_nat _ i him, List.getElem_map, Int.toNat_natCast, Int.toNat_natCast]) ?_
    have e : (Y.map (wordOf o)).length = Y.length := List.length_map _
    refine Ev.congr (fun k => by rw [e]; rfl) (grid_l1 X Y g n f o hn hX hY lX lY i hi _ (fun T' h1 h2 => grid_l0 d (i + 1) T' (by omega) h1 h2) Y.length 0 (T.set i (List.replicate Y.length 0)) (by omega) (by rw [List.length_set]; exact hT) (fun p hp' => ?_) ?_ (fun q hq => by omega))
    · rw [getD_set_ne _ _ _ (by omega)]; exact hp p hp'
    · rw [getD_set_same _ _ (by omega), List.length_replicate]
end
theorem grid_eq (X Y : List ByteArray) (hX : smallL X) (hY : smallL Y) (g n f o : Int) : Ev (fun k => cost_Grid.f k X Y g n f o) (gridR X Y g n f o) := by
  unfold gridR
  by_cases hs : scaleOk g n f o
  · have hs' := hs
    unfold scaleOk at hs'
    obtain ⟨_, hn, _, ho⟩ := hs'
    rw [if_pos hs]
    have e : ∀ k, cost_Grid.f k X Y g n f o = _ := fun k => by unfold cost_Grid.f; rw [check_eq, if_pos hs, Option.bind_some, if_pos rfl]
    refine Ev.congr e (ev_bind (ev_at 1025 fun k hk => folded_eq X hX g n f o ho k hk) ?_)
    rw [folded_long]
    by_cases lX : longL X o
    · rw [if_pos lX, if_pos (Or.inl lX)]
      exact Ev.congr (fun k => by rw [if_neg (by decide)]) (Ev.now _)
    · rw [if_neg lX]
      refine Ev.congr (fun k => by rw [if_pos rfl]) (ev_bind (ev_at 1025 fun k hk => folded_eq Y hY g n f o ho k hk) ?_)
      rw [folded_long]
      by_cases lY : longL Y o
      · rw [if_pos lY, if_pos (Or.inr lY)]
        exact Ev.congr (fun k => by rw [if_neg (by decide)]) (Ev.now _)
      · rw [if_neg lY, if_neg (fun h => h.elim lX lY)]
        have l1 := (not_long lX).1
        have em : (X.map (wordOf o)).length = X.length := List.length_map _
        refine Ev.congr (f := fun k => cost_Grid.l0 k (Y.map (wordOf o)) (List.replicate X.length []) (X.map (wordOf o)) (X.length : Int) ((0 : Nat) : Int) g n f o) (fun k => by rw [if_pos rfl]; dsimp only; rw [em, if_pos (by omega), if_pos (by omega), Int.toNat_natCast]; rfl) ?_
        exact grid_l0 X Y g n f o hn hX hY lX lY X.length 0 (List.replicate X.length []) (by omega) (by rw [List.length_replicate]) (fun p hp => by omega)
  · rw [if_neg hs]
    exact Ev.congr (fun k => by unfold cost_Grid.f; rw [check_eq, if_neg hs, Option.bind_some, if_neg (by decide)]) (Ev.now _)
theorem gridR_ok {X Y : List ByteArray} {g n f o : Int} (h : (gridR X Y g n f o).2 = 0) : gridR X Y g n f o = (gridP X Y n f o, 0) ∧ scaleOk g n f o ∧ X.length ≤ 1024 ∧ Y.length ≤ 1024 := by
  unfold gridR at h ⊢
  by_cases hs : scaleOk g n f o
  · rw [if_pos hs] at h ⊢
    by_cases hl : longL X o ∨ longL Y o
    · rw [if_pos hl] at h; cases h
    · rw [if_neg hl]
      exact ⟨rfl, hs, (not_long (fun e => hl (Or.inl e))).1, (not_long (fun e => hl (Or.inr e))).1⟩
  · rw [if_neg hs] at h; cases h
end Go.Proofs.YtbpinnanfanaaaaDoor.Pure
/-
  What one word more does to the least price of two lists.
-/
namespace Go.Proofs.YtbpinnanfanaaaaDoor.Pure
open Go.RowKit Go.Proofs.YtbpinnanfanaaaaDoor.L Go.Proofs.YtbpinnanfanaaaaDoorW.PrintWords Go.Proofs.YtbpinnanfanaaaaDoorW.PrintLast Go.Proofs.YtbpinnanfanaaaaDoorW.PrintMore
theorem dL_addr {α : Type} (w : α → α → Int) (gap : Int) (X : List α) (y : α) (Y : List α) : dL w gap X (y :: Y) ≤ dL w gap X Y + gap := by
  cases X with
  | nil => rw [dL_nil, dL_nil, List.length_cons, succ_mul_gap]; omega
  | cons x xs => rw [dL_cons]; omega
theorem dL_addl {α : Type} (w : α → α → Int) (gap : Int) (x : α) (X Y : List α) : dL w gap (x :: X) Y ≤ dL w gap X Y + gap := by
  cases Y with
  | nil => rw [dL_nil', dL_nil', List.length_cons, succ_mul_gap]; omega
  | cons y ys => rw [dL_cons]; omega
def dP {α : Type} (w : α → α → Int) (gap : Int) (X Y : List α) (i j : Nat) : Int := dL w gap (X.take i).reverse (Y.take j).reverse
theorem dP_row {α : Type} (w : α → α → Int) (gap : Int) (X Y : List α) (j : Nat) (h : j ≤ Y.length) : dP w gap X Y 0 j = (j : Int) * gap := by
  unfold dP
  rw [List.take_zero, List.reverse_nil, dL_nil, List.length_reverse, List.length_take, Nat.min_eq_left h]
theorem dP_col {α : Type} (w : α → α → Int) (gap : Int) (X Y : List α) (i : Nat) (h : i ≤ X.length) : dP w gap X Y i 0 = (i : Int) * gap := by
  unfold dP
  rw [List.take_zero, List.reverse_nil, dL_nil', List.length_reverse, List.length_take, Nat.min_eq_left h]
theorem take_rev {α : Type} (X : List α) (i : Nat) (h : i < X.length) : (X.take (i + 1)).reverse = X[i] :: (X.take i).reverse := by
  rw [List.take_succ_eq_append_getElem h, List.reverse_append]
  rfl
theorem dP_step {α : Type} (w : α → α → Int) (gap : Int) (X Y : List α) (i j : Nat) (hi : i < X.length) (hj : j < Y.length) : dP w gap X Y (i + 1) (j + 1) = min (min (dP w gap X Y i j + w X[i] Y[j]) (dP w gap X Y i (j + 1) + gap)) (dP w gap X Y (i + 1) j + gap) := by
  unfold dP
  rw [take_rev X i hi, take_rev Y j hj, dL_cons]
theorem dP_range {α : Type} (w : α → α → Int) (gap : Int) (hg : 0 ≤ gap ∧ gap ≤ 1000) (hw : ∀ x y, 0 ≤ w x y) (X Y : List α) (hX : X.length ≤ 1024) (hY : Y.length ≤ 1024) (i j : Nat) : 0 ≤ dP w gap X Y i j ∧ dP w gap X Y i j ≤ 2048000 := by
  unfold dP
  have h := dR_range w gap hg hw (X.take i).reverse (Y.take j).reverse (by rw [List.length_reverse, List.length_take]; omega) (by rw [List.length_reverse, List.length_take]; omega) 0 0
  unfold dR at h
  rwa [List.drop_zero, List.drop_zero] at h
end Go.Proofs.YtbpinnanfanaaaaDoor.Pure
/-
  What makes little work: the document's own question has an answer.
-/
namespace Go.Proofs.YtbpinnanfanaaaaDoor.Pure
open Go.RowKit Go.Proofs.YtbpinnanfanaaaaDoor.L Go.Proofs.YtbpinnanfanaaaaDoorW.PrintWords Go.Proofs.YtbpinnanfanaaaaDoorW.PrintLast Go.Proofs.YtbpinnanfanaaaaDoorW.PrintMore
/-! little work -/
theorem weight_loop (L : List ByteArray) (hL : L.length ≤ 1024) (hs : smallL L) : ∀ (d x : Nat) (s : Int), x + d = L.length → 0 ≤ s ∧ s ≤ 2000 + 1048576 * x → ∃ r, 0 ≤ r ∧ r ≤ 2000 + 1048576 * 1024 ∧ Ev (fun k => siglumref09_Weight.l0 k L s (x : Int)) r := by
  intro d
  induction d with
  | zero =>
    intro x s hd h
    exact ⟨s, h.1, by omega, Ev.step (f := fun _ => some s) (fun k => by rw [siglumref09_Weight.l0, if_neg (by omega)]) (Ev.now _)⟩
  | succ d IH =>
    intro x s hd h
    have hx : x < L.length := by omega
    have h1 := hs _ (List.getElem_mem hx)
    obtain ⟨r, a, b, c⟩ := IH (x + 1) (s + (L[x].size : Int)) (by omega) (by omega)
    refine ⟨r, a, b, Ev.step (fun k => ?_) c⟩
    rw [siglumref09_Weight.l0, if_pos (by omega), if_pos (by omega), rdOf_nat L x hx, ws (s + (L[x].size : Int)) (by omega) (by omega), wsucc x (by omega)]
theorem little_any (a b : Int) : ∃ r, Ev (fun k => siglumref09_Little.f k [a, b]) r := by
  have r0 : rd [a, b] 0 = a := rfl
  have r1 : rd [a, b] 1 = b := rfl
  have w2 : wrap64 (1 + 1) = 2 := by rw [ws _ (by decide) (by decide)]; rfl
  have w1 : wrap64 (0 + 1) = 1 := by rw [ws _ (by decide) (by decide)]; rfl
  have last : ∀ x3 x4 : Int, ∃ r, Ev (fun k => siglumref09_Little.l0 k [a, b] x3 x4 2) r := fun x3 x4 =>
    ⟨true, Ev.step (f := fun _ => some true) (fun k => by rw [siglumref09_Little.l0, if_neg (by show ¬ (2 : Int) < 2; omega)]) (Ev.now _)⟩
  have second : ∀ x3 x4 : Int, ∃ r, Ev (fun k => siglumref09_Little.l0 k [a, b] x3 x4 1) r := by
    intro x3 x4
    by_cases h3 : x3 > 0
    · by_cases h4 : b > wrap64 (Int.tdiv x4 x3)
      · exact ⟨false, Ev.step (f := fun _ => some false) (fun k => by rw [siglumref09_Little.l0, if_pos (by show (1 : Int) < 2; omega), if_pos h3, if_pos (by omega), if_neg (by omega), r1, if_pos h4]) (Ev.now _)⟩
      · obtain ⟨r, hr⟩ := last (wrap64 (x3 + b)) (wrap64 (x4 - wrap64 (x3 * b)))
        exact ⟨r, Ev.step (fun k => by rw [siglumref09_Little.l0, if_pos (by show (1 : Int) < 2; omega), if_pos h3, if_pos (by omega), if_neg (by omega), r1, if_neg h4, w2]) hr⟩
    · obtain ⟨r, hr⟩ := last (wrap64 (x3 + b)) (wrap64 (x4 - wrap64 (x3 * b)))
      exact ⟨r, Ev.step (fun k => by rw [siglumref09_Little.l0, if_pos (by show (1 : Int) < 2; omega), if_neg h3, if_pos (by omega), r1, w2]) hr⟩
  obtain ⟨r, hr⟩ := second (wrap64 (0 + a)) (wrap64 (4000000 - wrap64 (0 * a)))
  exact ⟨r, Ev.step (g := fun k => siglumref09_Little.l0 k [a, b] 0 4000000 0) (fun k => by rw [siglumref09_Little.l0, if_pos (by show (0 : Int) < 2; omega), if_neg (by omega), if_pos (by omega), r0, w1]) hr⟩
theorem light_any (X Y : List ByteArray) (hX : smallL X) (hY : smallL Y) : ∃ r, Ev (fun k => siglumref09_Light.f k X Y) r := by
  by_cases h1 : (X.length : Int) > 1024
  · exact ⟨true, Ev.congr (fun k => by unfold siglumref09_Light.f; rw [if_pos h1]) (Ev.now _)⟩
  · by_cases h2 : (Y.length : Int) > 1024
    · exact ⟨true, Ev.congr (fun k => by unfold siglumref09_Light.f; rw [if_neg h1, if_pos h2]) (Ev.now _)⟩
    · obtain ⟨a, a0, a1, ha⟩ := weight_loop X (by omega) hX X.length 0 (X.length : Int) (by omega) (by omega)
      obtain ⟨b, b0, b1, hb⟩ := weight_loop Y (by omega) hY Y.length 0 (Y.length : Int) (by omega) (by omega)
      obtain ⟨r, hr⟩ := little_any a b
      have ha' : Ev (fun k => siglumref09_Weight.f k X) a := ha
      have hb' : Ev (fun k => siglumref09_Weight.f k Y) b := hb
      refine ⟨r, Ev.congr (f := fun k => (siglumref09_Weight.f k X).bind fun s => (siglumref09_Weight.f k Y).bind fun t => (siglumref09_Little.f k [s, t]).bind fun u => some u) (fun k => by unfold siglumref09_Light.f; rw [if_neg h1, if_neg h2]) ?_⟩
      exact ev_bind ha' (ev_bind hb' (ev_bind hr (Ev.now _)))
end Go.Proofs.YtbpinnanfanaaaaDoor.Pure
/-
  slim.Least tells the least price; SlimMore: one word more costs at most a gap more or less.
-/
namespace Go.Proofs.YtbpinnanfanaaaaDoor.Pure
open Go.RowKit Go.Proofs.YtbpinnanfanaaaaDoor.L Go.Proofs.YtbpinnanfanaaaaDoorW.PrintWords Go.Proofs.YtbpinnanfanaaaaDoorW.PrintLast Go.Proofs.YtbpinnanfanaaaaDoorW.PrintMore
theorem smallSumS (L : List ByteArray) (h : (L.map fun y => (y.size + 1)).sum ≤ 1048576) : smallL L := by
  intro s hs
  have : ∀ (L : List ByteArray), s ∈ L → s.size + 1 ≤ (L.map fun y => (y.size + 1)).sum := by
    intro L
    induction L with
    | nil => intro h; cases h
    | cons y L ih =>
      intro h
      rw [List.map_cons, List.sum_cons]
      rcases List.mem_cons.1 h with rfl | h
      · omega
      · have := ih h; omega
  have := this L hs
  omega
theorem mnS (a b : Int) : mn a b = min a b := by unfold mn; split <;> omega
theorem rdS (R : List Int) (j : Nat) : rd R (j : Int) = R.getD j 0 := by unfold rd; rw [Int.toNat_natCast]
section
variable (X Y : List ByteArray) (g n f o : Int) (hg : 1 ≤ g ∧ g ≤ 1000) (hn : 1 ≤ n ∧ n ≤ 1000) (hf : 1 ≤ f ∧ f ≤ 1000) (hX : X.length ≤ 1024) (hY : Y.length ≤ 1024)
def AheadR (R : List Int) : Prop := R.length = Y.length + 1 ∧ ∀ p, p ≤ Y.length → R.getD p 0 = dP (wO n f o) g X Y X.length p
include hg hn hf hX hY
theorem dPw_range (i j : Nat) : 0 ≤ dP (wO n f o) g X Y i j ∧ dP (wO n f o) g X Y i j ≤ 2048000 := dP_range (wO n f o) g (by omega) (fun x y => (wO_range n f o hn.1 hf x y).1) X Y hX hY i j
theorem ahead_l2 (i : Nat) (hi : i < X.length) (cont : ∀ R : List Int, R.length = Y.length + 1 → (∀ p, p ≤ Y.length → R.getD p 0 = dP (wO n f o) g X Y (i + 1) p) → ∃ R', AheadR X Y g n f o R' ∧ Ev (fun k => slim_task_ahead.l1 k (X.length : Int) 0 (Y.length : Int) R ((i + 1 : Nat) : Int) (gridP X Y n f o) g) R') :
    ∀ (d j : Nat) (R : List Int), j + d = Y.length → R.length = Y.length + 1 → (∀ p, p ≤ j → R.getD p 0 = dP (wO n f o) g X Y (i + 1) p) → (∀ p, j < p → p ≤ Y.length → R.getD p 0 = dP (wO n f o) g X Y i p) → ∃ R', AheadR X Y g n f o R' ∧ Ev (fun k => slim_task_ahead.l2 k (X.length : Int) 0 (Y.length : Int) R (i : Int) (dP (wO n f o) g X Y i j) (j : Int) (gridP X Y n f o) g) R' := by
  intro d
  induction d with
  | zero =>
    intro j R hd hl h1 h2
    obtain ⟨R', hR', he⟩ := cont R hl (fun p hp => h1 p (by omega))
    exact ⟨R', hR', Ev.step (fun k => by rw [slim_task_ahead.l2, if_neg (by omega), wsucc i (by omega)]) he⟩
  | succ d IH =>
    intro j R hd hl h1 h2
    have hj : j < Y.length := by omega
    have r1 := dPw_range X Y g n f o hg hn hf hX hY i j
    have r2 := dPw_range X Y g n f o hg hn hf hX hY i (j + 1)
    have r3 := dPw_range X Y g n f o hg hn hf hX hY (i + 1) j
    have hw := wO_range n f o hn.1 hf X[i] Y[j]
    have hst := dP_step (wO n f o) g X Y i j hi hj
    have el : (rd_L11 (gridP X Y n f o) (i : Int)).length = Y.length := grid_rlen X Y n f o i hi
    have ev : rd (rd_L11 (gridP X Y n f o) (i : Int)) (j : Int) = wO n f o X[i] Y[j] := grid_at X Y n f o i j hi hj
    have eG := grid_len X Y n f o
    have q1 : rd R ((j + 1 : Nat) : Int) = dP (wO n f o) g X Y i (j + 1) := by rw [rdS]; exact h2 (j + 1) (by omega) (by omega)
    have q2 : rd R (j : Int) = dP (wO n f o) g X Y (i + 1) j := by rw [rdS]; exact h1 j (Nat.le_refl _)
    have w0 : Aside0 (wrap64 ((j : Int) - 0) = (j : Int)) := ⟨by rw [ws _ (by omega) (by omega)]; omega⟩
    have w1 : Aside0 (wrap64 ((j : Int) + 1) = ((j + 1 : Nat) : Int)) := ⟨wsucc j (by omega)⟩
    have w2 : Aside0 (wrap64 (((j + 1 : Nat) : Int) - 1) = (j : Int)) := ⟨by rw [ws _ (by omega) (by omega)]; omega⟩
    have w3 : Aside0 (wrap64 (dP (wO n f o) g X Y i j + wO n f o X[i] Y[j]) = dP (wO n f o) g X Y i j + wO n f o X[i] Y[j]) := ⟨ws _ (by omega) (by omega)⟩
    have w4 : Aside0 (wrap64 (dP (wO n f o) g X Y i (j + 1) + g) = dP (wO n f o) g X Y i (j + 1) + g) := ⟨ws _ (by omega) (by omega)⟩
    have w5 : Aside0 (wrap64 (dP (wO n f o) g X Y (i + 1) j + g) = dP (wO n f o) g X Y (i + 1) j + g) := ⟨ws _ (by omega) (by omega)⟩
    have HST := Aside0.mk hst
    clear hst r1 r2 r3 hw
    obtain ⟨R', hR', he⟩ := IH (j + 1) (R.set (j + 1) (dP (wO n f o) g X Y (i + 1) (j + 1))) (by omega) (by rw [List.length_set]; exact hl)
      (fun p hp => by
        by_cases e : p = j + 1
        · rw [e, getD_set_same R (j + 1) (by omega)]
        · rw [getD_set_ne R (j + 1) p (fun z => e z.symm)]; exact h1 p (by omega))
      (fun p hp hq => by rw [getD_set_ne R (j + 1) p (by omega)]; exact h2 p (by omega) hq)
    refine ⟨R', hR', Ev.step (fun k => ?_) he⟩
    generalize hGd : gridP X Y n f o = G at el ev eG ⊢
    have b0 : (0 : Int) ≤ (i : Int) := Int.natCast_nonneg i
    have b1 : (0 : Int) ≤ (j : Int) := Int.natCast_nonneg j
    have b2 : (j : Int) < (Y.length : Int) := Int.ofNat_lt.2 hj
    have b3 : (i : Int) < (G.length : Int) := by rw [eG]; exact Int.ofNat_lt.2 hi
    have b4 : (j : Int) < ((rd_L11 G (i : Int)).length : Int) := by rw [el]; exact b2
    have b5 : (0 : Int) ≤ ((j + 1 : Nat) : Int) := Int.natCast_nonneg _
    have b6 : ((j + 1 : Nat) : Int) < (R.length : Int) := by rw [hl]; exact Int.ofNat_lt.2 (Nat.succ_lt_succ hj)
    have b7 : (j : Int) < (R.length : Int) := by rw [hl]; exact Int.ofNat_lt.2 (Nat.lt_succ_of_lt hj)
    rw [slim_task_ahead.l2, if_pos b2, if_pos b0, if_pos b3, if_pos b1, if_pos b4, w0.out, w1.out, if_pos b5, if_pos b6, w2.out, if_pos b1, if_pos b7, ev, q1, q2, Int.toNat_natCast, mnS, mnS, w3.out, w4.out, w5.out, ← HST.out]
theorem ahead_l1 : ∀ (d i : Nat) (R : List Int), i + d = X.length → R.length = Y.length + 1 → (∀ p, p ≤ Y.length → R.getD p 0 = dP (wO n f o) g X Y i p) → ∃ R', AheadR X Y g n f o R' ∧ Ev (fun k => slim_task_ahead.l1 k (X.length : Int) 0 (Y.length : Int) R (i : Int) (gridP X Y n f o) g) R' := by
  intro d
  induction d with
  | zero =>
    intro i R hd hl h1
    have e : i = X.length := by omega
    exact ⟨R, ⟨hl, fun p hp => by rw [h1 p hp, e]⟩, Ev.step (f := fun _ => some R) (fun k => by rw [slim_task_ahead.l1, if_neg (by omega)]) (Ev.now _)⟩
  | succ d IH =>
    intro i R hd hl h1
    have hi : i < X.length := by omega
    have r0 := dPw_range X Y g n f o hg hn hf hX hY i 0
    have q0 : rd R 0 = dP (wO n f o) g X Y i 0 := by have := rdS R 0; rw [show ((0 : Nat) : Int) = 0 from rfl] at this; rw [this]; exact h1 0 (Nat.zero_le _)
    have c1 := dP_col (wO n f o) g X Y i (by omega)
    have c2 := dP_col (wO n f o) g X Y (i + 1) (by omega)
    have c3 : dP (wO n f o) g X Y (i + 1) 0 = dP (wO n f o) g X Y i 0 + g := by rw [c1, c2, succ_mul_gap]
    obtain ⟨R', hR', he⟩ := ahead_l2 X Y g n f o hg hn hf hX hY i hi (fun R1 l1 p1 => IH (i + 1) R1 (by omega) l1 p1) Y.length 0 (R.set 0 (dP (wO n f o) g X Y (i + 1) 0)) (by omega) (by rw [List.length_set]; exact hl)
      (fun p hp => by obtain rfl : p = 0 := by omega
                      rw [getD_set_same R 0 (by omega)])
      (fun p hp hq => by rw [getD_set_ne R 0 p (by omega)]; exact h1 p hq)
    refine ⟨R', hR', Ev.step (fun k => ?_) he⟩
    rw [slim_task_ahead.l1, if_pos (by omega), if_pos (by omega), q0, ws _ (by omega) (by omega), c3]
    rfl
theorem ahead_l0 : ∀ (d x : Nat) (R : List Int), x + d = Y.length + 1 → R.length = Y.length + 1 → (∀ p, p < x → R.getD p 0 = dP (wO n f o) g X Y 0 p) → ∃ R', AheadR X Y g n f o R' ∧ Ev (fun k => slim_task_ahead.l0 k 0 (X.length : Int) 0 (Y.length : Int) R ((Y.length + 1 : Nat) : Int) (x : Int) (gridP X Y n f o) g) R' := by
  intro d
  induction d with
  | zero =>
    intro x R hd hl h1
    obtain ⟨R', hR', he⟩ := ahead_l1 X Y g n f o hg hn hf hX hY X.length 0 R (by omega) hl (fun p hp => h1 p (by omega))
    exact ⟨R', hR', Ev.step (fun k => by rw [slim_task_ahead.l0, if_neg (by omega)]; rfl) he⟩
  | succ d IH =>
    intro x R hd hl h1
    have c := dP_row (wO n f o) g X Y x (by omega)
    have r := dPw_range X Y g n f o hg hn hf hX hY 0 x
    rw [c] at r
    obtain ⟨R', hR', he⟩ := IH (x + 1) (R.set x ((x : Int) * g)) (by omega) (by rw [List.length_set]; exact hl) (fun p hp => by
      by_cases e : p = x
      · rw [e, getD_set_same R x (by omega), c]
      · rw [getD_set_ne R x p (fun z => e z.symm)]; exact h1 p (by omega))
    refine ⟨R', hR', Ev.step (fun k => ?_) he⟩
    rw [slim_task_ahead.l0, if_pos (by omega), if_pos (by omega), if_pos (by omega), Int.toNat_natCast, ws _ (by omega) (by omega), wsucc x (by omega)]
theorem ahead_eq : ∃ R', AheadR X Y g n f o R' ∧ Ev (fun k => slim_task_ahead.f k (gridP X Y n f o) g 0 (X.length : Int) 0 (Y.length : Int)) R' := by
  obtain ⟨R', hR', he⟩ := ahead_l0 X Y g n f o hg hn hf hX hY (Y.length + 1) 0 (List.replicate (Y.length + 1) 0) (by omega) (by simp) (fun p hp => by omega)
  refine ⟨R', hR', Ev.congr (fun k => ?_) he⟩
  have w0 : wrap64 (wrap64 ((Y.length : Int) - 0) + 1) = ((Y.length + 1 : Nat) : Int) := by rw [ws ((Y.length : Int) - 0) (by omega) (by omega), show (Y.length : Int) - 0 = (Y.length : Int) by omega, wsucc _ (by omega)]
  unfold slim_task_ahead.f
  rw [w0, if_pos (by omega), Int.toNat_natCast, if_pos (by omega), Option.bind_some, List.length_replicate]
  rfl
end
def leastR (X Y : List ByteArray) (g n f o : Int) : Int × Int := if (gridR X Y g n f o).2 = 0 then (dP (wO n f o) g X Y X.length Y.length, 0) else (0, (gridR X Y g n f o).2)
theorem least_eq (X Y : List ByteArray) (hX : smallL X) (hY : smallL Y) (g n f o : Int) : Ev (fun k => slim_Least.f k X Y g n f o) (leastR X Y g n f o) := by
  unfold leastR
  refine ev_bind (f := fun k t => if t.2 = 0 then ((slim_task_ahead.f k t.1 g 0 (X.length : Int) 0 (Y.length : Int)).bind fun u => (if 0 ≤ (Y.length : Int) then (if (Y.length : Int) < (u.length : Int) then (some (rd u (Y.length : Int), 0)) else (none)) else (none))) else (some (0, t.2))) (grid_eq X Y hX hY g n f o) ?_
  by_cases h : (gridR X Y g n f o).2 = 0
  · obtain ⟨e, hs, l1, l2⟩ := gridR_ok h
    unfold scaleOk at hs
    obtain ⟨R, hR, he⟩ := ahead_eq X Y g n f o (by omega) (by omega) (by omega) l1 l2
    rw [if_pos h, e]
    refine Ev.congr (fun k => by rw [if_pos rfl]) (ev_bind he ?_)
    refine Ev.congr (f := fun _ => some (dP (wO n f o) g X Y X.length Y.length, 0)) (fun k => ?_) (Ev.now _)
    rw [if_pos (by omega), if_pos (by rw [hR.1]; omega), rdS, hR.2 _ (Nat.le_refl _)]
  · rw [if_neg h]
    exact Ev.congr (f := fun _ => some (0, (gridR X Y g n f o).2)) (fun k => by rw [if_neg h]) (Ev.now _)
def theS : ByteArray := ⟨#[116, 104, 101]⟩
def catS : ByteArray := ⟨#[99, 97, 116]⟩
def oldS : ByteArray := ⟨#[111, 108, 100]⟩
def ratS : ByteArray := ⟨#[114, 97, 116]⟩
theorem aw11_w : wO 1 3 0 theS theS = 0 ∧ wO 1 3 0 theS oldS = 3 ∧ wO 1 3 0 theS ratS = 3 ∧ wO 1 3 0 catS theS = 3 ∧ wO 1 3 0 catS oldS = 3 ∧ wO 1 3 0 catS ratS = 1 := by decide +kernel
theorem aw11_long : ¬ longL [theS, catS] 0 ∧ ¬ longL [theS, oldS, ratS] 0 := by decide +kernel
theorem aw11_val : dP (wO 1 3 0) 2 [theS, catS] [theS, oldS, ratS] 2 3 = 3 := by
  obtain ⟨h1, h2, h3, h4, h5, h6⟩ := aw11_w
  unfold dP
  simp [dL_cons, dL_nil, dL_nil', h1, h2, h3, h4, h5, h6, Int.min_def]
theorem awake11 : Ev (fun k => siglumlaw11_awake.f k) true := by
  have hs1 : smallL [theS, catS] := by intro s h; simp at h; rcases h with rfl | rfl <;> decide
  have hs2 : smallL [theS, oldS, ratS] := by intro s h; simp at h; rcases h with rfl | rfl | rfl <;> decide
  have e : leastR [theS, catS] [theS, oldS, ratS] 2 1 3 0 = (3, 0) := by
    have hg : gridR [theS, catS] [theS, oldS, ratS] 2 1 3 0 = (gridP [theS, catS] [theS, oldS, ratS] 1 3 0, 0) := by
      unfold gridR
      rw [if_pos (by decide), if_neg (fun h => h.elim aw11_long.1 aw11_long.2)]
    unfold leastR
    rw [hg, if_pos rfl]
    exact congrArg (fun z => (z, (0 : Int))) aw11_val
  have := least_eq [theS, catS] [theS, oldS, ratS] hs1 hs2 2 1 3 0
  rw [e] at this
  exact ev_bind (g := fun k => slim_Least.f k [theS, catS] [theS, oldS, ratS] 2 1 3 0) this (Ev.now _)
end Go.Proofs.YtbpinnanfanaaaaDoor.Pure
/-
  The least price read from the end is the least price read from the head.
-/
namespace Go.Proofs.YtbpinnanfanaaaaDoor.Pure
set_option linter.unusedVariables false
open Go.RowKit Go.Proofs.YtbpinnanfanaaaaDoor.L Go.Proofs.YtbpinnanfanaaaaDoorW.PrintWords Go.Proofs.YtbpinnanfanaaaaDoorW.PrintLast Go.Proofs.YtbpinnanfanaaaaDoorW.PrintMore
theorem nine (u v g p q r pB qB rB pC qC rC : Int) : min (min (min (min (p + v) (q + g)) (r + g) + u) (min (min (pB + v) (qB + g)) (rB + g) + g)) (min (min (pC + v) (qC + g)) (rC + g) + g) = min (min (min (min (p + u) (pB + g)) (pC + g) + v) (min (min (q + u) (qB + g)) (qC + g) + g)) (min (min (r + u) (rB + g)) (rC + g) + g) := by
  have d : ∀ a b c : Int, min a b + c = min (a + c) (b + c) := fun a b c => by omega
  have lc : ∀ a b c : Int, min a (min b c) = min b (min a c) := fun a b c => by omega
  have sa : ∀ a b c : Int, min (min a b) c = min a (min b c) := fun a b c => by omega
  simp only [d]
  rw [show p + v + u = p + u + v by omega, show q + g + u = q + u + g by omega, show r + g + u = r + u + g by omega, show pB + v + g = pB + g + v by omega, show pC + v + g = pC + g + v by omega]
  simp only [sa]
  simp only [lc]
set_option maxHeartbeats 2000000 in
theorem dL_snoc {α : Type} (w : α → α → Int) (gap : Int) (hg : 0 ≤ gap) (hw : ∀ x y, 0 ≤ w x y) (x y : α) : ∀ X Y, dL w gap (X ++ [x]) (Y ++ [y]) = min (min (dL w gap X Y + w x y) (dL w gap X (Y ++ [y]) + gap)) (dL w gap (X ++ [x]) Y + gap) := by
  have one : ∀ Y, dL w gap ([] ++ [x]) (Y ++ [y]) = min (min (dL w gap [] Y + w x y) (dL w gap [] (Y ++ [y]) + gap)) (dL w gap ([] ++ [x]) Y + gap) := by
    intro Y
    induction Y with
    | nil => rw [List.nil_append, List.nil_append, dL_cons]
    | cons z Z ih =>
      rw [List.nil_append] at ih ⊢
      rw [List.cons_append, dL_cons, ih, dL_cons]
      have e1 : dL w gap [] (z :: (Z ++ [y])) = dL w gap [] (Z ++ [y]) + gap := by rw [dL_nil, dL_nil, List.length_cons, succ_mul_gap]
      have e2 : dL w gap [] (z :: Z) = dL w gap [] Z + gap := by rw [dL_nil, dL_nil, List.length_cons, succ_mul_gap]
      have e3 : dL w gap [] (Z ++ [y]) = dL w gap [] Z + gap := by rw [dL_nil, dL_nil, List.length_append, List.length_singleton, succ_mul_gap]
      rw [e1, e2, e3]
      omega
  refine two_ind one (fun z Z => ?_) (fun z Z t T h1 h2 h3 => ?_)
  · -- the second list is empty
    have : ∀ X, dL w gap (X ++ [x]) ([] ++ [y]) = min (min (dL w gap X [] + w x y) (dL w gap X ([] ++ [y]) + gap)) (dL w gap (X ++ [x]) [] + gap) := by
      intro X
      induction X with
      | nil => rw [List.nil_append, List.nil_append, dL_cons]
      | cons z Z ih =>
        rw [List.nil_append] at ih ⊢
        rw [List.cons_append, dL_cons, ih, dL_cons]
        have e1 : dL w gap (z :: (Z ++ [x])) [] = dL w gap (Z ++ [x]) [] + gap := by rw [dL_nil', dL_nil', List.length_cons, succ_mul_gap]
        have e2 : dL w gap (z :: Z) [] = dL w gap Z [] + gap := by rw [dL_nil', dL_nil', List.length_cons, succ_mul_gap]
        have e3 : dL w gap (Z ++ [x]) [] = dL w gap Z [] + gap := by rw [dL_nil', dL_nil', List.length_append, List.length_singleton, succ_mul_gap]
        rw [e1, e2, e3]
        omega
    exact this (z :: Z)
  · rw [List.cons_append, List.cons_append, dL_cons w gap z t (Z ++ [x]) (T ++ [y])]
    rw [List.cons_append] at h2 h3
    rw [h1, h2, h3, dL_cons w gap z t Z T, dL_cons w gap z t Z (T ++ [y]), dL_cons w gap z t (Z ++ [x]) T]
    exact nine _ _ _ _ _ _ _ _ _ _ _ _
theorem dL_reverse {α : Type} (w : α → α → Int) (gap : Int) (hg : 0 ≤ gap) (hw : ∀ x y, 0 ≤ w x y) : ∀ X Y, dL w gap X.reverse Y.reverse = dL w gap X Y := by
  refine two_ind (fun ys => ?_) (fun x xs => ?_) (fun x xs y ys h1 h2 h3 => ?_)
  · rw [List.reverse_nil, dL_nil, dL_nil, List.length_reverse]
  · rw [List.reverse_nil, dL_nil', dL_nil', List.length_reverse]
  · rw [List.reverse_cons, List.reverse_cons, dL_snoc w gap hg hw, h1, ← List.reverse_cons, h2, ← List.reverse_cons, h3, dL_cons]
theorem dP_all {α : Type} (w : α → α → Int) (gap : Int) (hg : 0 ≤ gap) (hw : ∀ x y, 0 ≤ w x y) (X Y : List α) : dP w gap X Y X.length Y.length = dL w gap X Y := by
  unfold dP
  rw [List.take_length, List.take_length, dL_reverse w gap hg hw]
end Go.Proofs.YtbpinnanfanaaaaDoor.Pure
/-
  The program's alignment of two lists of words, in plain numbers: its table of ways, its price, its walk.
-/
namespace Go.Proofs.YtbpinnanfanaaaaDoor.Pure
open Go.RowKit Go.Proofs.YtbpinnanfanaaaaDoor.L Go.Proofs.YtbpinnanfanaaaaDoorW.PrintWords Go.Proofs.YtbpinnanfanaaaaDoorW.PrintLast Go.Proofs.YtbpinnanfanaaaaDoorW.PrintMore
section
variable {α : Type} (w : α → α → Int) (gap : Int)
def pL : List α → List α → Nat → Nat → List S59
  | [], [], _, _ => []
  | [], _ :: ys, i, j => ⟨-1, (j : Int)⟩ :: pL [] ys i (j + 1)
  | _ :: xs, [], i, j => ⟨(i : Int), -1⟩ :: pL xs [] (i + 1) j
  | x :: xs, y :: ys, i, j =>
    if dL w gap (x :: xs) (y :: ys) = dL w gap xs ys + w x y then ⟨(i : Int), (j : Int)⟩ :: pL xs ys (i + 1) (j + 1)
    else if dL w gap (x :: xs) (y :: ys) = dL w gap xs (y :: ys) + gap then ⟨(i : Int), -1⟩ :: pL xs (y :: ys) (i + 1) j
    else ⟨-1, (j : Int)⟩ :: pL (x :: xs) ys i (j + 1)
termination_by xs ys => xs.length + ys.length
def codeP (X Y : List α) (p q : Nat) : Int := if h : p < X.length ∧ q < Y.length then
  (if dR w gap X Y p q = dR w gap X Y (p + 1) (q + 1) + w (X[p]'h.1) (Y[q]'h.2) then 1 else if dR w gap X Y p q = dR w gap X Y (p + 1) q + gap then 2 else 3) else if p < X.length then 2 else 3
theorem codeP_in (X Y : List α) (p q : Nat) (hp : p < X.length) (hq : q < Y.length) : codeP w gap X Y p q = (if dR w gap X Y p q = dR w gap X Y (p + 1) (q + 1) + w X[p] Y[q] then 1 else if dR w gap X Y p q = dR w gap X Y (p + 1) q + gap then 2 else 3) := by
  unfold codeP
  rw [dif_pos ⟨hp, hq⟩]
theorem codeP_right (X Y : List α) (p q : Nat) (hp : p < X.length) (hq : ¬ q < Y.length) : codeP w gap X Y p q = 2 := by
  unfold codeP
  rw [dif_neg (fun h => hq h.2), if_pos hp]
theorem codeP_below (X Y : List α) (p q : Nat) (hp : ¬ p < X.length) : codeP w gap X Y p q = 3 := by
  unfold codeP
  rw [dif_neg (fun h => hp h.1), if_neg hp]
theorem pL_done (X Y : List α) (i j : Nat) (hi : ¬ i < X.length) (hj : ¬ j < Y.length) (a b : Nat) : pL w gap (X.drop i) (Y.drop j) a b = [] := by
  rw [List.drop_of_length_le (by omega), List.drop_of_length_le (by omega), pL]
theorem pL_both (X Y : List α) (i j : Nat) (hc : codeP w gap X Y i j = 1) (a b : Nat) : pL w gap (X.drop i) (Y.drop j) a b = ⟨(a : Int), (b : Int)⟩ :: pL w gap (X.drop (i + 1)) (Y.drop (j + 1)) (a + 1) (b + 1) ∧ i < X.length ∧ j < Y.length := by
  by_cases hi : i < X.length
  · by_cases hj : j < Y.length
    · rw [codeP_in _ _ _ _ _ _ hi hj] at hc
      refine ⟨?_, hi, hj⟩
      rw [List.drop_eq_getElem_cons hi, List.drop_eq_getElem_cons hj, pL, ← List.drop_eq_getElem_cons hi, ← List.drop_eq_getElem_cons hj]
      by_cases e : dR w gap X Y i j = dR w gap X Y (i + 1) (j + 1) + w X[i] Y[j]
      · rw [if_pos (show dL w gap (X.drop i) (Y.drop j) = dL w gap (X.drop (i + 1)) (Y.drop (j + 1)) + w X[i] Y[j] from e)]
      · rw [if_neg e] at hc; split at hc <;> omega
    · rw [codeP_right _ _ _ _ _ _ hi hj] at hc; omega
  · rw [codeP_below _ _ _ _ _ _ hi] at hc; omega
theorem pL_first (X Y : List α) (i j : Nat) (hc : codeP w gap X Y i j = 2) (a b : Nat) : pL w gap (X.drop i) (Y.drop j) a b = ⟨(a : Int), -1⟩ :: pL w gap (X.drop (i + 1)) (Y.drop j) (a + 1) b ∧ i < X.length := by
  by_cases hi : i < X.length
  · refine ⟨?_, hi⟩
    by_cases hj : j < Y.length
    · rw [codeP_in _ _ _ _ _ _ hi hj] at hc
      rw [List.drop_eq_getElem_cons hi, List.drop_eq_getElem_cons hj, pL, ← List.drop_eq_getElem_cons hi, ← List.drop_eq_getElem_cons hj]
      by_cases e : dR w gap X Y i j = dR w gap X Y (i + 1) (j + 1) + w X[i] Y[j]
      · rw [if_pos e] at hc; omega
      · rw [if_neg e] at hc
        by_cases e2 : dR w gap X Y i j = dR w gap X Y (i + 1) j + gap
        · rw [if_neg (show ¬ dL w gap (X.drop i) (Y.drop j) = dL w gap (X.drop (i + 1)) (Y.drop (j + 1)) + w X[i] Y[j] from e), if_pos (show dL w gap (X.drop i) (Y.drop j) = dL w gap (X.drop (i + 1)) (Y.drop j) + gap from e2)]
        · rw [if_neg e2] at hc; omega
    · rw [List.drop_eq_getElem_cons hi, List.drop_of_length_le (l := Y) (by omega), pL]
  · rw [codeP_below _ _ _ _ _ _ hi] at hc; omega
theorem pL_second (X Y : List α) (i j : Nat) (hij : i < X.length ∨ j < Y.length) (h1 : ¬ codeP w gap X Y i j = 1) (h2 : ¬ codeP w gap X Y i j = 2) (a b : Nat) : pL w gap (X.drop i) (Y.drop j) a b = ⟨-1, (b : Int)⟩ :: pL w gap (X.drop i) (Y.drop (j + 1)) a (b + 1) ∧ j < Y.length := by
  by_cases hi : i < X.length
  · by_cases hj : j < Y.length
    · refine ⟨?_, hj⟩
      rw [codeP_in _ _ _ _ _ _ hi hj] at h1 h2
      rw [List.drop_eq_getElem_cons hi, List.drop_eq_getElem_cons hj, pL, ← List.drop_eq_getElem_cons hi, ← List.drop_eq_getElem_cons hj]
      by_cases e : dR w gap X Y i j = dR w gap X Y (i + 1) (j + 1) + w X[i] Y[j]
      · rw [if_pos e] at h1; exact absurd rfl h1
      · rw [if_neg e] at h2
        by_cases e2 : dR w gap X Y i j = dR w gap X Y (i + 1) j + gap
        · rw [if_pos e2] at h2; exact absurd rfl h2
        · rw [if_neg (show ¬ dL w gap (X.drop i) (Y.drop j) = dL w gap (X.drop (i + 1)) (Y.drop (j + 1)) + w X[i] Y[j] from e), if_neg (show ¬ dL w gap (X.drop i) (Y.drop j) = dL w gap (X.drop (i + 1)) (Y.drop j) + gap from e2)]
    · exact absurd (codeP_right _ _ _ _ _ _ hi hj) h2
  · have hj : j < Y.length := by omega
    refine ⟨?_, hj⟩
    rw [List.drop_of_length_le (l := X) (by omega), List.drop_eq_getElem_cons hj, pL]
end
structure okW (X Y : List ByteArray) (g n f o : Int) (T : List (List Int)) (i j0 : Nat) : Prop where
  len : T.length = X.length + 1
  lens : ∀ p, p ≤ X.length → (T.getD p []).length = Y.length + 1
  right : ∀ p, p < X.length → at2 T p Y.length = 2
  below : ∀ q, q < Y.length → at2 T X.length q = 3
  here : ∀ p q, p < X.length → q < Y.length → (i < p ∨ (i = p ∧ j0 ≤ q)) → at2 T p q = codeP (wO n f o) g X Y p q
theorem okW.all {X Y : List ByteArray} {g n f o : Int} {T : List (List Int)} (h : okW X Y g n f o T 0 0) (p q : Nat) (hp : p ≤ X.length) (hq : q ≤ Y.length) (hpq : p < X.length ∨ q < Y.length) : at2 T p q = codeP (wO n f o) g X Y p q := by
  by_cases h1 : p < X.length
  · by_cases h2 : q < Y.length
    · exact h.here p q h1 h2 (by omega)
    · rw [codeP_right _ _ _ _ _ _ h1 h2, show q = Y.length by omega]; exact h.right p h1
  · rw [codeP_below _ _ _ _ _ _ h1, show p = X.length by omega]; exact h.below q (by omega)
section
variable (X Y : List ByteArray) (g n f o : Int) (hg : 1 ≤ g ∧ g ≤ 1000) (hn : 1 ≤ n ∧ n ≤ 1000) (hf : 1 ≤ f ∧ f ≤ 1000) (hX : X.length ≤ 1024) (hY : Y.length ≤ 1024)
include hX hY
theorem al_walk (T : List (List Int)) (hT : okW X Y g n f o T 0 0) (price : Int) : ∀ (d i j : Nat) (acc : List S59), (X.length - i) + (Y.length - j) ≤ d → i ≤ X.length → j ≤ Y.length → acc.length + (X.length - i) + (Y.length - j) ≤ 2048 →
    Ev (fun k => pair_Align.l4 k (X.length : Int) (Y.length : Int) T price acc (i : Int) (j : Int)) (acc ++ pL (wO n f o) g (X.drop i) (Y.drop j) i j, price, 0) := by
  intro d
  induction d with
  | zero =>
    intro i j acc hd hi hj ha
    refine Ev.step (f := fun k => pair_Align.j5 k (X.length : Int) (Y.length : Int) T price acc (i : Int) (j : Int) true) (fun k => by rw [pair_Align.l4, if_pos (by omega), show ((j : Int) == (Y.length : Int)) = true from beq_iff_eq.2 (by omega)]) ?_
    exact Ev.step (f := fun _ => some (acc ++ pL (wO n f o) g (X.drop i) (Y.drop j) i j, price, 0)) (fun k => by rw [pair_Align.j5, if_pos rfl, pL_done _ _ _ _ _ _ (by omega) (by omega), List.append_nil]) (Ev.now _)
  | succ d IH =>
    intro i j acc hd hi hj ha
    by_cases hend : i = X.length ∧ j = Y.length
    · refine Ev.step (f := fun k => pair_Align.j5 k (X.length : Int) (Y.length : Int) T price acc (i : Int) (j : Int) true) (fun k => by rw [pair_Align.l4, if_pos (by omega), show ((j : Int) == (Y.length : Int)) = true from beq_iff_eq.2 (by omega)]) ?_
      exact Ev.step (f := fun _ => some (acc ++ pL (wO n f o) g (X.drop i) (Y.drop j) i j, price, 0)) (fun k => by rw [pair_Align.j5, if_pos rfl, pL_done _ _ _ _ _ _ (by omega) (by omega), List.append_nil]) (Ev.now _)
    · have hij : i < X.length ∨ j < Y.length := by omega
      refine Ev.step (f := fun k => pair_Align.j5 k (X.length : Int) (Y.length : Int) T price acc (i : Int) (j : Int) false) (fun k => by
        rw [pair_Align.l4]
        by_cases h1 : (i : Int) = (X.length : Int)
        · rw [if_pos h1, show ((j : Int) == (Y.length : Int)) = false from beq_eq_false_iff_ne.2 (by omega)]
        · rw [if_neg h1]) ?_
      have hl := hT.lens i hi
      have hc := hT.all i j hi hj hij
      have e1 : (rd_L13 T (i : Int)).length = Y.length + 1 := hl
      have e2 : rd (rd_L13 T (i : Int)) (j : Int) = codeP (wO n f o) g X Y i j := hc
      have eT := hT.len
      by_cases c1 : codeP (wO n f o) g X Y i j = 1
      · obtain ⟨e3, h1, h2⟩ := pL_both (wO n f o) g X Y i j c1 i j
        refine Ev.step (f := fun k => pair_Align.l4 k (X.length : Int) (Y.length : Int) T price (acc ++ [⟨(i : Int), (j : Int)⟩]) ((i + 1 : Nat) : Int) ((j + 1 : Nat) : Int)) (fun k => by
          rw [pair_Align.j5, if_neg (by decide), if_pos (by omega), if_pos (by omega), if_pos (by omega), if_pos (by omega), e2, if_pos c1, if_pos (by omega), wsucc i (by omega), wsucc j (by omega)]) ?_
        have := IH (i + 1) (j + 1) (acc ++ [⟨(i : Int), (j : Int)⟩]) (by omega) (by omega) (by omega) (by rw [List.length_append]; simp only [List.length_cons, List.length_nil]; omega)
        rw [e3]
        rwa [List.append_assoc] at this
      · by_cases c2 : codeP (wO n f o) g X Y i j = 2
        · obtain ⟨e3, h1⟩ := pL_first (wO n f o) g X Y i j c2 i j
          refine Ev.step (f := fun k => pair_Align.l4 k (X.length : Int) (Y.length : Int) T price (acc ++ [⟨(i : Int), -1⟩]) ((i + 1 : Nat) : Int) (j : Int)) (fun k => by
            rw [pair_Align.j5, if_neg (by decide), if_pos (by omega), if_pos (by omega), if_pos (by omega), if_pos (by omega), e2, if_neg c1, if_pos c2, if_pos (by omega), wsucc i (by omega)]) ?_
          have := IH (i + 1) j (acc ++ [⟨(i : Int), -1⟩]) (by omega) (by omega) (by omega) (by rw [List.length_append]; simp only [List.length_cons, List.length_nil]; omega)
          rw [e3]
          rwa [List.append_assoc] at this
        · obtain ⟨e3, h1⟩ := pL_second (wO n f o) g X Y i j hij c1 c2 i j
          refine Ev.step (f := fun k => pair_Align.l4 k (X.length : Int) (Y.length : Int) T price (acc ++ [⟨-1, (j : Int)⟩]) (i : Int) ((j + 1 : Nat) : Int)) (fun k => by
            rw [pair_Align.j5, if_neg (by decide), if_pos (by omega), if_pos (by omega), if_pos (by omega), if_pos (by omega), e2, if_neg c1, if_neg c2, if_pos (by omega), wsucc j (by omega)]) ?_
          have := IH i (j + 1) (acc ++ [⟨-1, (j : Int)⟩]) (by omega) (by omega) (by omega) (by rw [List.length_append]; simp only [List.length_cons, List.length_nil]; omega)
          rw [e3]
          rwa [List.append_assoc] at this
include hg hn hf
theorem al_l3 (i : Nat) (hi : i < X.length) (bl : List Int) (hbl : bl.length = Y.length + 1) (hb : ∀ q, q ≤ Y.length → bl.getD q 0 = dR (wO n f o) g X Y (i + 1) q) (R : List S59 × Int × Int)
    (ih : ∀ T row, okW X Y g n f o T i 0 → row.length = Y.length + 1 → (∀ q, q ≤ Y.length → row.getD q 0 = dR (wO n f o) g X Y i q) → Ev (fun k => pair_Align.l2 k (gridP X Y n f o) (X.length : Int) (Y.length : Int) T row bl (wrap64 ((i : Int) - 1)) g n f o) R) :
    ∀ (J : Nat) (T : List (List Int)) (row : List Int) (x : Int), J ≤ Y.length → x = (J : Int) - 1 → okW X Y g n f o T i J → row.length = Y.length + 1 → (∀ q, J ≤ q → q ≤ Y.length → row.getD q 0 = dR (wO n f o) g X Y i q) →
    Ev (fun k => pair_Align.l3 k (gridP X Y n f o) (X.length : Int) (Y.length : Int) T bl row (i : Int) x g n f o) R := by
  intro J
  induction J with
  | zero =>
    intro T row x hJ hx hT hr hq
    exact Ev.step (fun k => by rw [pair_Align.l3, if_neg (by omega)]) (ih T row hT hr fun q h => hq q (Nat.zero_le _) h)
  | succ j IH =>
    intro T row x hJ hx hT hr hq
    obtain rfl : x = (j : Int) := by omega
    have hj : j < Y.length := by omega
    have hgw : ∀ x y, 0 ≤ wO n f o x y := fun x y => (wO_range n f o hn.1 hf x y).1
    have r11 := dR_range (wO n f o) g ⟨by omega, hg.2⟩ hgw X Y hX hY (i + 1) (j + 1)
    have r10 := dR_range (wO n f o) g ⟨by omega, hg.2⟩ hgw X Y hX hY (i + 1) j
    have r01 := dR_range (wO n f o) g ⟨by omega, hg.2⟩ hgw X Y hX hY i (j + 1)
    have rw_ := wO_range n f o hn.1 hf X[i] Y[j]
    have hD := dR_step (wO n f o) g X Y i j hi hj
    have hC := codeP_in (wO n f o) g X Y i j hi hj
    have e1 : rd bl ((j + 1 : Nat) : Int) = dR (wO n f o) g X Y (i + 1) (j + 1) := hb (j + 1) (by omega)
    have e2 : rd (rd_L11 (gridP X Y n f o) (i : Int)) (j : Int) = wO n f o X[i] Y[j] := grid_at X Y n f o i j hi hj
    have e2l : (rd_L11 (gridP X Y n f o) (i : Int)).length = Y.length := grid_rlen X Y n f o i hi
    have e3 : rd bl (j : Int) = dR (wO n f o) g X Y (i + 1) j := hb j (by omega)
    have e4 : rd row ((j + 1 : Nat) : Int) = dR (wO n f o) g X Y i (j + 1) := hq (j + 1) (by omega) (by omega)
    have eG := grid_len X Y n f o
    have eT := hT.len
    have eL : (rd_L13 T (i : Int)).length = Y.length + 1 := hT.lens i (by omega)
    generalize dR (wO n f o) g X Y (i + 1) (j + 1) = D11 at r11 hD hC e1
    generalize dR (wO n f o) g X Y (i + 1) j = D10 at r10 hD hC e3
    generalize hd01 : dR (wO n f o) g X Y i (j + 1) = D01 at r01 hD e4
    generalize wO n f o X[i] Y[j] = W at rw_ hD hC e2
    have rowv : ∀ v, rd (row.set j v) ((j + 1 : Nat) : Int) = D01 := fun v => by rw [rd_set_ne _ _ _ (by omega)]; exact e4
    have rowh : ∀ v, rd (row.set j v) (j : Int) = v := fun v => rd_set_same _ _ (by omega) v
    have fin : ∀ (T' : List (List Int)) (v c : Int), Upd T T' i j c → c = codeP (wO n f o) g X Y i j → v = dR (wO n f o) g X Y i j → Ev (fun k => pair_Align.l3 k (gridP X Y n f o) (X.length : Int) (Y.length : Int) T' bl (row.set j v) (i : Int) (wrap64 ((j : Int) - 1)) g n f o) R := by
      intro T' v c u hc hv
      refine IH T' (row.set j v) _ (by omega) (ws _ (by omega) (by omega)) ⟨u.len.trans hT.len, fun p hp => (u.lens p).trans (hT.lens p hp), fun p hp => ?_, fun q hq' => ?_, fun p q hp hq' h => ?_⟩ (by rw [List.length_set]; exact hr) (fun q h1 h2 => ?_)
      · rw [u.else_ _ _ (by omega)]; exact hT.right p hp
      · rw [u.else_ _ _ (by omega)]; exact hT.below q hq'
      · by_cases e : p = i ∧ q = j
        · obtain ⟨rfl, rfl⟩ := e
          rw [u.here, hc]
        · rw [u.else_ _ _ e]
          exact hT.here p q hp hq' (by omega)
      · by_cases e : j = q
        · subst e
          rw [getD_set_same _ _ (by omega), hv]
        · rw [getD_set_ne _ _ _ e]
          exact hq q (by omega) h2
    have u1 := fun T' (h1 : T'.length = X.length + 1) (h2 : (T'.getD i []).length = Y.length + 1) v => upd_set T' i j v (by omega) (by omega)
    have v1 := u1 T eT eL 1
    have v2 := u1 (setT T i j 1) (v1.len.trans eT) ((v1.lens i).trans eL) 2
    have L1 : (rd_L13 (setT T i j 1) (i : Int)).length = Y.length + 1 := (v1.lens i).trans eL
    have L2 : (rd_L13 (setT (setT T i j 1) i j 2) (i : Int)).length = Y.length + 1 := (v2.lens i).trans L1
    have v3 := u1 (setT (setT T i j 1) i j 2) (v2.len.trans (v1.len.trans eT)) L2 3
    have v4 := u1 (setT T i j 1) (v1.len.trans eT) L1 3
    have body : ∀ k, pair_Align.l3 (k + 1) (gridP X Y n f o) (X.length : Int) (Y.length : Int) T bl row (i : Int) (j : Int) g n f o =
        if D10 + g < D11 + W then (if D01 + g < D10 + g then pair_Align.l3 k (gridP X Y n f o) (X.length : Int) (Y.length : Int) (setT (setT (setT T i j 1) i j 2) i j 3) bl (row.set j (D01 + g)) (i : Int) (wrap64 ((j : Int) - 1)) g n f o
            else pair_Align.l3 k (gridP X Y n f o) (X.length : Int) (Y.length : Int) (setT (setT T i j 1) i j 2) bl (row.set j (D10 + g)) (i : Int) (wrap64 ((j : Int) - 1)) g n f o)
          else (if D01 + g < D11 + W then pair_Align.l3 k (gridP X Y n f o) (X.length : Int) (Y.length : Int) (setT (setT T i j 1) i j 3) bl (row.set j (D01 + g)) (i : Int) (wrap64 ((j : Int) - 1)) g n f o
            else pair_Align.l3 k (gridP X Y n f o) (X.length : Int) (Y.length : Int) (setT T i j 1) bl (row.set j (D11 + W)) (i : Int) (wrap64 ((j : Int) - 1)) g n f o) := by
      intro k
      have s1 : T.set i ((rd_L13 T (i : Int)).set j 1) = setT T i j 1 := rfl
      have s2 : (setT T i j 1).set i ((rd_L13 (setT T i j 1) (i : Int)).set j 2) = setT (setT T i j 1) i j 2 := rfl
      have s3 : (setT (setT T i j 1) i j 2).set i ((rd_L13 (setT (setT T i j 1) i j 2) (i : Int)).set j 3) = setT (setT (setT T i j 1) i j 2) i j 3 := rfl
      have s4 : (setT T i j 1).set i ((rd_L13 (setT T i j 1) (i : Int)).set j 3) = setT (setT T i j 1) i j 3 := rfl
      rw [pair_Align.l3, if_pos (by omega), if_pos (by omega), if_pos (by omega), wsucc j (by omega), if_pos (by omega), if_pos (by omega), if_pos (by omega), if_pos (by omega), if_pos (by omega), if_pos (by omega), Option.bind_some, if_pos (by omega), Option.bind_some, if_pos (by omega)]
      simp only [Int.toNat_natCast]
      rw [e1, e2, e3, ws (D11 + W) (by omega) (by omega), ws (D10 + g) (by omega) (by omega), s1, rowh, rowv]
      by_cases hA : D10 + g < D11 + W
      · rw [if_pos hA, if_pos hA, Option.bind_some, if_pos (by omega), Option.bind_some, if_pos (by omega), List.set_set, rowh, rowv, ws (D01 + g) (by omega) (by omega), s2]
        by_cases hB : D01 + g < D10 + g
        · rw [if_pos hB, if_pos hB, if_pos (by omega), s3, List.set_set]
        · rw [if_neg hB, if_neg hB]
      · rw [if_neg hA, if_neg hA, if_pos (by omega), ws (D01 + g) (by omega) (by omega)]
        by_cases hB : D01 + g < D11 + W
        · rw [if_pos hB, if_pos hB, if_pos (by omega), s4, List.set_set]
        · rw [if_neg hB, if_neg hB]
    by_cases hA : D10 + g < D11 + W
    · by_cases hB : D01 + g < D10 + g
      · refine Ev.step (fun k => by rw [body k, if_pos hA, if_pos hB]) (fin _ _ 3 ((v1.trans v2).trans v3) ?_ (by omega))
        rw [hC, if_neg (by omega), if_neg (by omega)]
      · refine Ev.step (fun k => by rw [body k, if_pos hA, if_neg hB]) (fin _ _ 2 (v1.trans v2) ?_ (by omega))
        rw [hC, if_neg (by omega), if_pos (by omega)]
    · by_cases hB : D01 + g < D11 + W
      · refine Ev.step (fun k => by rw [body k, if_neg hA, if_pos hB]) (fin _ _ 3 (v1.trans v4) ?_ (by omega))
        rw [hC, if_neg (by omega), if_neg (by omega)]
      · refine Ev.step (fun k => by rw [body k, if_neg hA, if_neg hB]) (fin _ _ 1 v1 ?_ (by omega))
        rw [hC, if_pos (by omega)]
theorem al_l2 : ∀ (I : Nat) (T : List (List Int)) (bl row : List Int) (x : Int), I ≤ X.length → x = (I : Int) - 1 → okW X Y g n f o T I 0 → bl.length = Y.length + 1 → row.length = Y.length + 1 → (∀ q, q ≤ Y.length → bl.getD q 0 = dR (wO n f o) g X Y I q) →
    Ev (fun k => pair_Align.l2 k (gridP X Y n f o) (X.length : Int) (Y.length : Int) T bl row x g n f o) (pL (wO n f o) g X Y 0 0, dL (wO n f o) g X Y, 0) := by
  intro I
  induction I with
  | zero =>
    intro T bl row x hI hx hT hbl hr hb
    have e : rd bl 0 = dL (wO n f o) g X Y := by
      have := hb 0 (Nat.zero_le _)
      unfold dR at this
      exact this
    refine Ev.step (fun k => by rw [pair_Align.l2, if_neg (by omega), if_pos (by omega), e]) ?_
    have := al_walk X Y g n f o hX hY T hT (dL (wO n f o) g X Y) (X.length + Y.length) 0 0 [] (by omega) (by omega) (by omega) (by simp only [List.length_nil]; omega)
    exact this
  | succ i IH =>
    intro T bl row x hI hx hT hbl hr hb
    obtain rfl : x = (i : Int) := by omega
    have hgw : ∀ x y, 0 ≤ wO n f o x y := fun x y => (wO_range n f o hn.1 hf x y).1
    have he := dR_endr (wO n f o) g X Y i (by omega)
    have hr1 := dR_range (wO n f o) g ⟨by omega, hg.2⟩ hgw X Y hX hY i Y.length
    refine Ev.step (f := fun k => pair_Align.l3 k (gridP X Y n f o) (X.length : Int) (Y.length : Int) T bl (row.set Y.length (dR (wO n f o) g X Y i Y.length)) (i : Int) (wrap64 ((Y.length : Int) - 1)) g n f o) (fun k => by
      rw [pair_Align.l2, if_pos (by omega), if_pos (by omega), if_pos (by omega), Int.toNat_natCast, ws ((X.length : Int) - (i : Int)) (by omega) (by omega), ← he, ws _ (by omega) (by omega)]) ?_
    refine al_l3 X Y g n f o hg hn hf hX hY i (by omega) bl hbl hb _ (fun T' row' h1 h2 h3 => IH T' row' bl _ (by omega) (ws _ (by omega) (by omega)) h1 h2 hbl h3) Y.length T _ _ (Nat.le_refl _) (ws _ (by omega) (by omega)) ⟨hT.len, hT.lens, hT.right, hT.below, fun p q hp hq h => hT.here p q hp hq (by omega)⟩ (by rw [List.length_set]; exact hr) (fun q h1 h2 => ?_)
    obtain rfl : q = Y.length := by omega
    rw [getD_set_same _ _ (by omega)]
theorem al_l1 : ∀ (d j : Nat) (T : List (List Int)) (bl : List Int), j + d = Y.length → T.length = X.length + 1 → (∀ p, p ≤ X.length → (T.getD p []).length = Y.length + 1) → (∀ p, p < X.length → at2 T p Y.length = 2) → (∀ q, q < j → at2 T X.length q = 3) →
    bl.length = Y.length + 1 → (∀ q, q < j → bl.getD q 0 = dR (wO n f o) g X Y X.length q) → bl.getD Y.length 0 = 0 →
    Ev (fun k => pair_Align.l1 k (gridP X Y n f o) (X.length : Int) (Y.length : Int) T bl (List.replicate (Y.length + 1) 0) (Y.length : Int) (j : Int) g n f o) (pL (wO n f o) g X Y 0 0, dL (wO n f o) g X Y, 0) := by
  intro d
  induction d with
  | zero =>
    intro j T bl hd h1 h2 h3 h4 h5 h6 h7
    obtain rfl : j = Y.length := by omega
    refine Ev.step (fun k => by rw [pair_Align.l1, if_neg (by omega)]) (al_l2 X Y g n f o hg hn hf hX hY X.length T bl _ _ (Nat.le_refl _) (ws _ (by omega) (by omega)) ⟨h1, h2, h3, h4, fun p q hp hq h => by omega⟩ h5 (by rw [List.length_replicate]) (fun q hq => ?_))
    by_cases e : q = Y.length
    · subst e
      rw [h7, dR_endl _ _ _ _ _ (Nat.le_refl _)]
      simp
    · exact h6 q (by omega)
  | succ d IH =>
    intro j T bl hd h1 h2 h3 h4 h5 h6 h7
    have hj : j < Y.length := by omega
    have hgw : ∀ x y, 0 ≤ wO n f o x y := fun x y => (wO_range n f o hn.1 hf x y).1
    have he := dR_endl (wO n f o) g X Y j (by omega)
    have hr1 := dR_range (wO n f o) g ⟨by omega, hg.2⟩ hgw X Y hX hY X.length j
    have eL : (rd_L13 T (X.length : Int)).length = Y.length + 1 := h2 X.length (Nat.le_refl _)
    have s1 : T.set X.length ((rd_L13 T (X.length : Int)).set j 3) = setT T X.length j 3 := rfl
    have u := upd_set T X.length j 3 (by omega) (by have := h2 X.length (Nat.le_refl _); omega)
    refine Ev.step (f := fun k => pair_Align.l1 k (gridP X Y n f o) (X.length : Int) (Y.length : Int) (setT T X.length j 3) (bl.set j (dR (wO n f o) g X Y X.length j)) (List.replicate (Y.length + 1) 0) (Y.length : Int) ((j + 1 : Nat) : Int) g n f o) (fun k => by
      rw [pair_Align.l1, if_pos (by omega), if_pos (by omega), if_pos (by omega), if_pos (by omega), if_pos (by omega), if_pos (by omega), wsucc j (by omega), ws ((Y.length : Int) - (j : Int)) (by omega) (by omega), ← he, ws _ (by omega) (by omega)]
      simp only [Int.toNat_natCast]
      rw [s1]) ?_
    refine IH (j + 1) _ _ (by omega) (u.len.trans h1) (fun p hp => (u.lens p).trans (h2 p hp)) (fun p hp => ?_) (fun q hq => ?_) (by rw [List.length_set]; exact h5) (fun q hq => ?_) (by rw [getD_set_ne _ _ _ (by omega)]; exact h7)
    · rw [u.else_ _ _ (by omega)]; exact h3 p hp
    · by_cases e : q = j
      · subst e; exact u.here
      · rw [u.else_ _ _ (by omega)]; exact h4 q (by omega)
    · by_cases e : j = q
      · subst e; rw [getD_set_same _ _ (by omega)]
      · rw [getD_set_ne _ _ _ e]; exact h6 q (by omega)
theorem al_l0 : ∀ (d i : Nat) (T : List (List Int)), i + d = X.length + 1 → T.length = X.length + 1 → (∀ p, p < i → (T.getD p []).length = Y.length + 1) → (∀ p, p < i → at2 T p Y.length = 2) →
    Ev (fun k => pair_Align.l0 k (gridP X Y n f o) (X.length : Int) (Y.length : Int) T ((X.length + 1 : Nat) : Int) (i : Int) g n f o) (pL (wO n f o) g X Y 0 0, dL (wO n f o) g X Y, 0) := by
  intro d
  induction d with
  | zero =>
    intro i T hd h1 h2 h3
    refine Ev.step (fun k => by rw [pair_Align.l0, if_neg (by omega), wsucc Y.length (by omega), if_pos (by omega), if_pos (by omega), Int.toNat_natCast]) ?_
    refine al_l1 X Y g n f o hg hn hf hX hY Y.length 0 T _ (by omega) h1 (fun p hp => h2 p (by omega)) (fun p hp => h3 p (by omega)) (fun q hq => by omega) (by rw [List.length_replicate]) (fun q hq => by omega) ?_
    rw [getD_get _ _ (by rw [List.length_replicate]; omega), List.getElem_replicate]
  | succ d IH =>
    intro i T hd h1 h2 h3
    have eL : (rd_L13 (T.set i (List.replicate (Y.length + 1) 0)) (i : Int)).length = Y.length + 1 := by
      show ((T.set i (List.replicate (Y.length + 1) 0)).getD i []).length = _
      rw [getD_set_same _ _ (by omega), List.length_replicate]
    have s1 : (T.set i (List.replicate (Y.length + 1) 0)).set i ((rd_L13 (T.set i (List.replicate (Y.length + 1) 0)) (i : Int)).set Y.length 2) = setT (T.set i (List.replicate (Y.length + 1) 0)) i Y.length 2 := rfl
    have u := upd_set (T.set i (List.replicate (Y.length + 1) 0)) i Y.length 2 (by rw [List.length_set]; omega) (by have := eL; exact Nat.lt_of_lt_of_eq (Nat.lt_succ_self _) this.symm)
    refine Ev.step (f := fun k => pair_Align.l0 k (gridP X Y n f o) (X.length : Int) (Y.length : Int) (setT (T.set i (List.replicate (Y.length + 1) 0)) i Y.length 2) ((X.length + 1 : Nat) : Int) ((i + 1 : Nat) : Int) g n f o) (fun k => by
      rw [pair_Align.l0, if_pos (by omega), wsucc Y.length (by omega), if_pos (by omega), if_pos (by omega), if_pos (by omega), if_pos (by omega), Option.bind_some]
      simp only [Int.toNat_natCast]
      rw [if_pos (by omega), if_pos (by omega), wsucc i (by omega), s1]) ?_
    refine IH (i + 1) _ (by omega) (u.len.trans (by rw [List.length_set]; exact h1)) (fun p hp => ?_) (fun p hp => ?_)
    · rw [u.lens p]
      by_cases e : i = p
      · subst e; rw [getD_set_same _ _ (by omega), List.length_replicate]
      · rw [getD_set_ne _ _ _ e]; exact h2 p (by omega)
    · by_cases e : p = i
      · subst e; exact u.here
      · rw [u.else_ _ _ (by omega)]
        unfold at2
        rw [getD_set_ne _ _ _ (fun h => e h.symm)]
        exact h3 p (by omega)
end
def alignR (X Y : List ByteArray) (g n f o : Int) : List S59 × Int × Int := if (gridR X Y g n f o).2 = 0 then (pL (wO n f o) g X Y 0 0, dL (wO n f o) g X Y, 0) else ([], 0, (gridR X Y g n f o).2)
theorem align_eq (X Y : List ByteArray) (hX : smallL X) (hY : smallL Y) (g n f o : Int) : Ev (fun k => pair_Align.f k X Y g n f o) (alignR X Y g n f o) := by
  unfold alignR
  refine ev_bind (grid_eq X Y hX hY g n f o) ?_
  by_cases h : (gridR X Y g n f o).2 = 0
  · obtain ⟨e, hs, l1, l2⟩ := gridR_ok h
    unfold scaleOk at hs
    rw [if_pos h, e]
    refine Ev.congr (f := fun k => pair_Align.l0 k (gridP X Y n f o) (X.length : Int) (Y.length : Int) (List.replicate (X.length + 1) []) ((X.length + 1 : Nat) : Int) ((0 : Nat) : Int) g n f o) (fun k => by
      rw [if_pos rfl, wsucc X.length (by omega), if_pos (by omega), if_pos (by omega), Option.bind_some, Int.toNat_natCast, List.length_replicate]; rfl) ?_
    exact al_l0 X Y g n f o hs.1 hs.2.1 hs.2.2.1 l1 l2 (X.length + 1) 0 _ (by omega) (by rw [List.length_replicate]) (fun p hp => by omega) (fun p hp => by omega)
  · rw [if_neg h]
    exact Ev.congr (fun k => by rw [if_neg h]) (Ev.now _)
end Go.Proofs.YtbpinnanfanaaaaDoor.Pure
/-
  Is it an alignment, and what does it cost: the program's answers in plain numbers.
-/
namespace Go.Proofs.YtbpinnanfanaaaaDoor.Pure
open Go.RowKit Go.Proofs.YtbpinnanfanaaaaDoor.L Go.Proofs.YtbpinnanfanaaaaDoorW.PrintWords Go.Proofs.YtbpinnanfanaaaaDoorW.PrintLast Go.Proofs.YtbpinnanfanaaaaDoorW.PrintMore
def rightL (n m : Int) : List S59 → Int → Int → Bool
  | [], i, j => decide (i = n ∧ j = m)
  | p :: l, i, j =>
    if p.f0 = i ∧ p.f1 = j ∧ i < n ∧ j < m then rightL n m l (i + 1) (j + 1)
    else if p.f0 = i ∧ p.f1 = -1 ∧ i < n then rightL n m l (i + 1) j
    else if p.f0 = -1 ∧ p.f1 = j ∧ j < m then rightL n m l i (j + 1) else false
theorem rdP_nat (l : List S59) (i : Nat) (h : i < l.length) : rd_T59 l (i : Int) = l[i] := by
  unfold rd_T59
  rw [Int.toNat_natCast, List.getD_eq_getElem?_getD, List.getElem?_eq_getElem h]
  rfl
theorem right_loop (n m : Int) (L : List S59) (hL : L.length < 4611686018427387904) : ∀ (d x i j : Nat), x + d = L.length → i ≤ x → j ≤ x →
    Ev (fun k => pair_Right.l0 k n m (i : Int) (j : Int) L (L.length : Int) (x : Int)) (rightL n m (L.drop x) (i : Int) (j : Int)) := by
  intro d
  induction d with
  | zero =>
    intro x i j hd hi hj
    rw [List.drop_of_length_le (by omega), rightL]
    refine Ev.step (f := fun _ => some (decide ((i : Int) = n ∧ (j : Int) = m))) (fun k => ?_) (Ev.now _)
    rw [pair_Right.l0, if_neg (by omega)]
    by_cases h : (i : Int) = n
    · rw [if_pos h]
      by_cases h2 : (j : Int) = m
      · rw [beq_iff_eq.2 h2, decide_eq_true ⟨h, h2⟩]
      · rw [beq_eq_false_iff_ne.2 h2, decide_eq_false (fun e => h2 e.2)]
    · rw [if_neg h, decide_eq_false (fun e => h e.1)]
  | succ d IH =>
    intro x i j hd hi hj
    have hx : x < L.length := by omega
    rw [List.drop_eq_getElem_cons hx, rightL]
    obtain ⟨p0, p1, hp⟩ : ∃ a b, L[x] = ⟨a, b⟩ := ⟨_, _, rfl⟩
    have e0 : rd_T59 L (x : Int) = ⟨p0, p1⟩ := by rw [rdP_nat L x hx, hp]
    rw [hp]
    dsimp only
    have wi := wsucc i (by omega)
    have wj := wsucc j (by omega)
    have wx := wsucc x (by omega)
    have ci : ((i : Int) + 1) = ((i + 1 : Nat) : Int) := by omega
    have cj : ((j : Int) + 1) = ((j + 1 : Nat) : Int) := by omega
    by_cases h1 : p0 = (i : Int) ∧ p1 = (j : Int) ∧ (i : Int) < n ∧ (j : Int) < m
    · rw [if_pos h1, ci, cj]
      refine Ev.step (f := fun k => pair_Right.j1 k n m (i : Int) (j : Int) L (L.length : Int) (x : Int) true p0 p1) (fun k => by
        rw [pair_Right.l0, if_pos (by omega), if_pos (by omega), if_pos (by omega), e0]
        dsimp only
        rw [if_pos h1.1, if_pos h1.2.1, if_pos h1.2.2.1, decide_eq_true h1.2.2.2]) ?_
      exact Ev.step (fun k => by rw [pair_Right.j1, if_pos rfl, wi, wj, wx]) (IH (x + 1) (i + 1) (j + 1) (by omega) (by omega) (by omega))
    · rw [if_neg h1]
      refine Ev.step (f := fun k => pair_Right.j1 k n m (i : Int) (j : Int) L (L.length : Int) (x : Int) false p0 p1) (fun k => by
        rw [pair_Right.l0, if_pos (by omega), if_pos (by omega), if_pos (by omega), e0]
        dsimp only
        by_cases a1 : p0 = (i : Int)
        · rw [if_pos a1]
          by_cases a2 : p1 = (j : Int)
          · rw [if_pos a2]
            by_cases a3 : (i : Int) < n
            · rw [if_pos a3, decide_eq_false (fun e => h1 ⟨a1, a2, a3, e⟩)]
            · rw [if_neg a3]
          · rw [if_neg a2]
        · rw [if_neg a1]) ?_
      by_cases h2 : p0 = (i : Int) ∧ p1 = -1 ∧ (i : Int) < n
      · rw [if_pos h2, ci]
        refine Ev.step (f := fun k => pair_Right.j2 k n m (i : Int) (j : Int) L (L.length : Int) (x : Int) true p0 p1) (fun k => by
          rw [pair_Right.j1, if_neg (by decide), if_pos h2.1, if_pos h2.2.1, decide_eq_true h2.2.2]) ?_
        exact Ev.step (fun k => by rw [pair_Right.j2, if_pos rfl, wi, wx]) (IH (x + 1) (i + 1) j (by omega) (by omega) (by omega))
      · rw [if_neg h2]
        refine Ev.step (f := fun k => pair_Right.j2 k n m (i : Int) (j : Int) L (L.length : Int) (x : Int) false p0 p1) (fun k => by
          rw [pair_Right.j1, if_neg (by decide)]
          by_cases a1 : p0 = (i : Int)
          · rw [if_pos a1]
            by_cases a2 : p1 = -1
            · rw [if_pos a2, decide_eq_false (fun e => h2 ⟨a1, a2, e⟩)]
            · rw [if_neg a2]
          · rw [if_neg a1]) ?_
        by_cases h3 : p0 = -1 ∧ p1 = (j : Int) ∧ (j : Int) < m
        · rw [if_pos h3, cj]
          exact Ev.step (fun k => by rw [pair_Right.j2, if_neg (by decide), if_pos h3.1, if_pos h3.2.1, if_pos h3.2.2, wj, wx]) (IH (x + 1) i (j + 1) (by omega) (by omega) (by omega))
        · rw [if_neg h3]
          refine Ev.step (f := fun _ => some false) (fun k => ?_) (Ev.now _)
          rw [pair_Right.j2, if_neg (by decide)]
          by_cases a1 : p0 = -1
          · rw [if_pos a1]
            by_cases a2 : p1 = (j : Int)
            · rw [if_pos a2, if_neg (fun e => h3 ⟨a1, a2, e⟩)]
            · rw [if_neg a2]
          · rw [if_neg a1]
theorem right_eq (n m : Int) (L : List S59) (hL : L.length < 4611686018427387904) : Ev (fun k => pair_Right.f k n m L) (rightL n m L 0 0) :=
  right_loop n m L hL L.length 0 0 0 (by omega) (Nat.le_refl _) (Nat.le_refl _)
theorem rightL_in (N M : Nat) : ∀ (l : List S59) (i j : Nat), i ≤ N → j ≤ M → rightL N M l i j = true → l.length ≤ (N - i) + (M - j) ∧ ∀ p ∈ l, (p.f0 = -1 ∧ 0 ≤ p.f1 ∧ p.f1 < M) ∨ (p.f1 = -1 ∧ 0 ≤ p.f0 ∧ p.f0 < N) ∨ (0 ≤ p.f0 ∧ p.f0 < N ∧ 0 ≤ p.f1 ∧ p.f1 < M) := by
  intro l
  induction l with
  | nil => intro i j hi hj h; exact ⟨Nat.zero_le _, fun p hp => by cases hp⟩
  | cons p l IH =>
    intro i j hi hj h
    rw [rightL] at h
    have ci : ((i : Int) + 1) = ((i + 1 : Nat) : Int) := by omega
    have cj : ((j : Int) + 1) = ((j + 1 : Nat) : Int) := by omega
    by_cases h1 : p.f0 = (i : Int) ∧ p.f1 = (j : Int) ∧ (i : Int) < N ∧ (j : Int) < M
    · rw [if_pos h1, ci, cj] at h
      obtain ⟨a, b⟩ := IH (i + 1) (j + 1) (by omega) (by omega) h
      refine ⟨by rw [List.length_cons]; omega, fun q hq => ?_⟩
      rcases List.mem_cons.1 hq with rfl | hq
      · exact Or.inr (Or.inr ⟨by omega, by omega, by omega, by omega⟩)
      · exact b q hq
    · rw [if_neg h1] at h
      by_cases h2 : p.f0 = (i : Int) ∧ p.f1 = -1 ∧ (i : Int) < N
      · rw [if_pos h2, ci] at h
        obtain ⟨a, b⟩ := IH (i + 1) j (by omega) hj h
        refine ⟨by rw [List.length_cons]; omega, fun q hq => ?_⟩
        rcases List.mem_cons.1 hq with rfl | hq
        · exact Or.inr (Or.inl ⟨by omega, by omega, by omega⟩)
        · exact b q hq
      · rw [if_neg h2] at h
        by_cases h3 : p.f0 = -1 ∧ p.f1 = (j : Int) ∧ (j : Int) < M
        · rw [if_pos h3, cj] at h
          obtain ⟨a, b⟩ := IH i (j + 1) hi (by omega) h
          refine ⟨by rw [List.length_cons]; omega, fun q hq => ?_⟩
          rcases List.mem_cons.1 hq with rfl | hq
          · exact Or.inl ⟨by omega, by omega, by omega⟩
          · exact b q hq
        · rw [if_neg h3] at h
          cases h
def costP (T : List (List Int)) (g : Int) (p : S59) : Int := if p.f0 < 0 ∨ p.f1 < 0 then g else at2 T p.f0.toNat p.f1.toNat
def costL (T : List (List Int)) (g : Int) : List S59 → Int
  | [] => 0
  | p :: l => costP T g p + costL T g l
section
variable (X Y : List ByteArray) (g n f o : Int) (hg : 1 ≤ g ∧ g ≤ 1000) (hn : 1 ≤ n ∧ n ≤ 1000) (hf : 1 ≤ f ∧ f ≤ 1000) (hX : X.length ≤ 1024) (hY : Y.length ≤ 1024)
include hg hn hf
theorem costP_range (p : S59) (hp : (p.f0 = -1 ∧ 0 ≤ p.f1 ∧ p.f1 < Y.length) ∨ (p.f1 = -1 ∧ 0 ≤ p.f0 ∧ p.f0 < X.length) ∨ (0 ≤ p.f0 ∧ p.f0 < X.length ∧ 0 ≤ p.f1 ∧ p.f1 < Y.length)) : 0 ≤ costP (gridP X Y n f o) g p ∧ costP (gridP X Y n f o) g p ≤ 1000 := by
  unfold costP
  by_cases h : p.f0 < 0 ∨ p.f1 < 0
  · rw [if_pos h]; omega
  · rw [if_neg h, grid_at X Y n f o _ _ (by omega) (by omega)]
    exact wO_range n f o hn.1 hf _ _
theorem price_loop (L : List S59) (hL : L.length ≤ 4096) (hin : ∀ p ∈ L, (p.f0 = -1 ∧ 0 ≤ p.f1 ∧ p.f1 < Y.length) ∨ (p.f1 = -1 ∧ 0 ≤ p.f0 ∧ p.f0 < X.length) ∨ (0 ≤ p.f0 ∧ p.f0 < X.length ∧ 0 ≤ p.f1 ∧ p.f1 < Y.length)) : ∀ (d x : Nat) (s : Int), x + d = L.length → 0 ≤ s ∧ s ≤ 1000 * x →
    Ev (fun k => pair_Price.l0 k (gridP X Y n f o) s L (L.length : Int) (x : Int) g n f o) (s + costL (gridP X Y n f o) g (L.drop x), 0) := by
  intro d
  induction d with
  | zero =>
    intro x s hd hs
    rw [List.drop_of_length_le (by omega), costL, Int.add_zero]
    exact Ev.step (f := fun _ => some (s, 0)) (fun k => by rw [pair_Price.l0, if_neg (by omega)]) (Ev.now _)
  | succ d IH =>
    intro x s hd hs
    have hx : x < L.length := by omega
    have hpi := hin L[x] (List.getElem_mem hx)
    have hr := costP_range X Y g n f o hg hn hf L[x] hpi
    rw [List.drop_eq_getElem_cons hx, costL, ← Int.add_assoc]
    have e0 : rd_T59 L (x : Int) = L[x] := rdP_nat L x hx
    have wx := wsucc x (by omega)
    have eG := grid_len X Y n f o
    generalize hGd : gridP X Y n f o = G at hr eG IH ⊢
    refine Ev.step (fun k => ?_) (IH (x + 1) (s + costP G g L[x]) (by omega) (by omega))
    rw [pair_Price.l0, if_pos (by omega), if_pos (by omega), if_pos (by omega), e0, wx]
    unfold costP at hr ⊢
    by_cases h1 : L[x].f0 < 0
    · rw [if_pos (Or.inl h1)] at hr ⊢
      rw [if_pos h1, ws (s + g) (by omega) (by omega)]
    · rw [if_neg h1]
      by_cases h2 : L[x].f1 < 0
      · rw [if_pos (Or.inr h2)] at hr ⊢
        rw [if_pos h2, ws (s + g) (by omega) (by omega)]
      · have h3 : ¬ (L[x].f0 < 0 ∨ L[x].f1 < 0) := fun e => e.elim h1 h2
        rw [if_neg h3] at hr ⊢
        have el : (rd_L11 G L[x].f0).length = Y.length := by
          have := grid_rlen X Y n f o L[x].f0.toNat (by omega)
          rw [hGd] at this
          exact this
        have ev : rd (rd_L11 G L[x].f0) L[x].f1 = at2 G L[x].f0.toNat L[x].f1.toNat := rfl
        generalize at2 G L[x].f0.toNat L[x].f1.toNat = v at hr ev ⊢
        rw [if_neg h2, if_pos (by omega), if_pos (by omega), if_pos (by omega), if_pos (by omega), ev, ws (s + v) (by omega) (by omega)]
end
def priceR (X Y : List ByteArray) (L : List S59) (g n f o : Int) : Int × Int := if (gridR X Y g n f o).2 = 0 then (if rightL X.length Y.length L 0 0 = true then (costL (gridP X Y n f o) g L, 0) else (0, 2)) else (0, (gridR X Y g n f o).2)
theorem price_eq (X Y : List ByteArray) (hX : smallL X) (hY : smallL Y) (L : List S59) (hL : L.length < 4611686018427387904) (g n f o : Int) : Ev (fun k => pair_Price.f k X Y L g n f o) (priceR X Y L g n f o) := by
  unfold priceR
  refine ev_bind (grid_eq X Y hX hY g n f o) ?_
  by_cases h : (gridR X Y g n f o).2 = 0
  · obtain ⟨e, hs, l1, l2⟩ := gridR_ok h
    unfold scaleOk at hs
    rw [if_pos h, e]
    refine Ev.congr (fun k => by rw [if_pos rfl]) (ev_bind (right_eq X.length Y.length L hL) ?_)
    by_cases hr : rightL X.length Y.length L 0 0 = true
    · rw [if_pos hr]
      obtain ⟨a, b⟩ := rightL_in X.length Y.length L 0 0 (Nat.zero_le _) (Nat.zero_le _) hr
      have := price_loop X Y g n f o hs.1 hs.2.1 hs.2.2.1 L (by omega) b L.length 0 0 (by omega) (by omega)
      rw [Int.zero_add] at this
      exact Ev.congr (fun k => by rw [if_pos hr]; rfl) this
    · rw [if_neg hr]
      exact Ev.congr (fun k => by rw [if_neg hr]) (Ev.now _)
  · rw [if_neg h]
    exact Ev.congr (fun k => by rw [if_neg h]) (Ev.now _)
end Go.Proofs.YtbpinnanfanaaaaDoor.Pure
/-
  An alignment by halves: the first list is cut, the second is cut where both parts cost least: the parts' prices are the price of the whole. Pairs one behind another.
-/
namespace Go.Proofs.YtbpinnanfanaaaaDoor.Pure
open Go.RowKit Go.Proofs.YtbpinnanfanaaaaDoor.L Go.Proofs.YtbpinnanfanaaaaDoorW.PrintWords Go.Proofs.YtbpinnanfanaaaaDoorW.PrintLast Go.Proofs.YtbpinnanfanaaaaDoorW.PrintMore
section
variable {α : Type} (w : α → α → Int) (gap : Int)
theorem dL_join (C D : List α) : ∀ A B, dL w gap (A ++ C) (B ++ D) ≤ dL w gap A B + dL w gap C D := by
  refine two_ind (fun ys => ?_) (fun x xs => ?_) (fun x xs y ys h1 h2 h3 => ?_)
  · rw [dL_nil, List.nil_append]
    induction ys with
    | nil => simp
    | cons y ys ih =>
      have := dL_addr w gap C y (ys ++ D)
      rw [List.length_cons, succ_mul_gap, List.cons_append]
      omega
  · rw [dL_nil', List.nil_append]
    generalize x :: xs = l
    induction l with
    | nil => simp
    | cons y ys ih =>
      have := dL_addl w gap y (ys ++ C) D
      rw [List.length_cons, succ_mul_gap, List.cons_append]
      omega
  · rw [List.cons_append, List.cons_append] at *
    rw [dL_cons w gap x y (xs ++ C) (ys ++ D), dL_cons w gap x y xs ys]
    omega
theorem dL_cut (X2 : List α) : ∀ X1 Y, ∃ c, c ≤ Y.length ∧ dL w gap X1 (Y.take c) + dL w gap X2 (Y.drop c) ≤ dL w gap (X1 ++ X2) Y := by
  refine two_ind (fun ys => ?_) (fun x xs => ?_) (fun x xs y ys h1 h2 h3 => ?_)
  · refine ⟨0, Nat.zero_le _, ?_⟩
    rw [List.take_zero, List.drop_zero, dL_nil, List.nil_append]
    simp
  · refine ⟨0, Nat.le_refl _, ?_⟩
    rw [List.take_zero, List.drop_zero, dL_nil', dL_nil', dL_nil', List.length_append, Int.natCast_add, Int.add_mul]
    omega
  · rw [List.cons_append, dL_cons]
    obtain ⟨c1, l1, e1⟩ := h1
    obtain ⟨c2, l2, e2⟩ := h2
    obtain ⟨c3, l3, e3⟩ := h3
    rw [List.cons_append] at e3
    have k1 : dL w gap (x :: xs) (y :: ys.take c1) ≤ dL w gap xs (ys.take c1) + w x y := by rw [dL_cons]; omega
    have k2 : dL w gap (x :: xs) ((y :: ys).take c2) ≤ dL w gap xs ((y :: ys).take c2) + gap := dL_addl w gap x xs _
    have k3 : dL w gap (x :: xs) (y :: ys.take c3) ≤ dL w gap (x :: xs) (ys.take c3) + gap := dL_addr w gap _ y _
    by_cases m1 : dL w gap (xs ++ X2) ys + w x y ≤ min (min (dL w gap (xs ++ X2) ys + w x y) (dL w gap (xs ++ X2) (y :: ys) + gap)) (dL w gap (x :: (xs ++ X2)) ys + gap)
    · exact ⟨c1 + 1, by rw [List.length_cons]; omega, by rw [List.take_succ_cons, List.drop_succ_cons]; omega⟩
    · by_cases m2 : dL w gap (xs ++ X2) (y :: ys) + gap ≤ min (min (dL w gap (xs ++ X2) ys + w x y) (dL w gap (xs ++ X2) (y :: ys) + gap)) (dL w gap (x :: (xs ++ X2)) ys + gap)
      · exact ⟨c2, l2, by omega⟩
      · exact ⟨c3 + 1, by rw [List.length_cons]; omega, by rw [List.take_succ_cons, List.drop_succ_cons]; omega⟩
theorem dL_halves (X1 X2 Y : List α) (c : Nat) (_hc : c ≤ Y.length) (hm : ∀ d, d ≤ Y.length → dL w gap X1 (Y.take c) + dL w gap X2 (Y.drop c) ≤ dL w gap X1 (Y.take d) + dL w gap X2 (Y.drop d)) : dL w gap X1 (Y.take c) + dL w gap X2 (Y.drop c) = dL w gap (X1 ++ X2) Y := by
  obtain ⟨d, hd, h1⟩ := dL_cut w gap X2 X1 Y
  have h2 := hm d hd
  have h3 := dL_join w gap X2 (Y.drop c) X1 (Y.take c)
  rw [List.take_append_drop] at h3
  omega
theorem dL_one (x : α) : ∀ ys : List α, dL w gap [x] ys ≤ ((ys.length : Int) + 1) * gap ∧ (∀ y ∈ ys, dL w gap [x] ys ≤ ((ys.length : Int) - 1) * gap + w x y) ∧ (dL w gap [x] ys = ((ys.length : Int) + 1) * gap ∨ ∃ y ∈ ys, dL w gap [x] ys = ((ys.length : Int) - 1) * gap + w x y) := by
  intro ys
  induction ys with
  | nil =>
    rw [dL_nil']
    exact ⟨by simp, (by intro y hy; cases hy), Or.inl (by simp)⟩
  | cons y ys ih =>
    obtain ⟨i1, i2, i3⟩ := ih
    have e1 : dL w gap [] ys = (ys.length : Int) * gap := dL_nil w gap ys
    have e2 : dL w gap [] (y :: ys) = (ys.length : Int) * gap + gap := by rw [dL_nil, List.length_cons, succ_mul_gap]
    have e3 : (((y :: ys).length : Int) + 1) * gap = (ys.length : Int) * gap + gap + gap := by rw [List.length_cons, Int.add_mul, succ_mul_gap, Int.one_mul]
    have e4 : (((y :: ys).length : Int) - 1) * gap = (ys.length : Int) * gap := by rw [List.length_cons]; congr 1; omega
    have e5 : ((ys.length : Int) + 1) * gap = (ys.length : Int) * gap + gap := by rw [Int.add_mul, Int.one_mul]
    have e6 : ((ys.length : Int) - 1) * gap = (ys.length : Int) * gap - gap := by rw [Int.sub_mul, Int.one_mul]
    rw [e3, e4, dL_cons, e1, e2]
    rw [e5] at i1 i3
    rw [e6] at i2 i3
    refine ⟨by omega, fun z hz => ?_, ?_⟩
    · rcases List.mem_cons.1 hz with rfl | hz
      · omega
      · have := i2 z hz; omega
    · rcases i3 with i3 | ⟨z, hz, i3⟩
      · by_cases m : (ys.length : Int) * gap + w x y ≤ (ys.length : Int) * gap + gap + gap
        · exact Or.inr ⟨y, List.mem_cons_self, by omega⟩
        · exact Or.inl (by omega)
      · by_cases m : (ys.length : Int) * gap + w x y ≤ (ys.length : Int) * gap - gap + w x z + gap
        · by_cases m2 : (ys.length : Int) * gap + w x y ≤ (ys.length : Int) * gap + gap + gap
          · exact Or.inr ⟨y, List.mem_cons_self, by omega⟩
          · exact Or.inl (by omega)
        · by_cases m2 : (ys.length : Int) * gap - gap + w x z + gap ≤ (ys.length : Int) * gap + gap + gap
          · exact Or.inr ⟨z, List.mem_cons_of_mem _ hz, by omega⟩
          · exact Or.inl (by omega)
end
/-! pairs -/
theorem rightL_append (n1 m1 n m : Int) (hn : n1 ≤ n) (hm : m1 ≤ m) (L2 : List S59) (h2 : rightL n m L2 n1 m1 = true) : ∀ (L1 : List S59) (i j : Int), 0 ≤ i → 0 ≤ j → rightL n1 m1 L1 i j = true → rightL n m (L1 ++ L2) i j = true := by
  intro L1
  induction L1 with
  | nil =>
    intro i j hi hj h
    rw [rightL] at h
    obtain ⟨rfl, rfl⟩ := of_decide_eq_true h
    exact h2
  | cons p l ih =>
    intro i j hi hj h
    rw [rightL] at h
    rw [List.cons_append, rightL]
    by_cases a : p.f0 = i ∧ p.f1 = j ∧ i < n1 ∧ j < m1
    · rw [if_pos a] at h
      rw [if_pos ⟨a.1, a.2.1, by omega, by omega⟩]
      exact ih _ _ (by omega) (by omega) h
    · rw [if_neg a] at h
      by_cases b : p.f0 = i ∧ p.f1 = -1 ∧ i < n1
      · rw [if_pos b] at h
        rw [if_neg (by omega), if_pos ⟨b.1, b.2.1, by omega⟩]
        exact ih _ _ (by omega) (by omega) h
      · rw [if_neg b] at h
        by_cases c : p.f0 = -1 ∧ p.f1 = j ∧ j < m1
        · rw [if_pos c] at h
          rw [if_neg (by omega), if_neg (by omega), if_pos ⟨c.1, c.2.1, by omega⟩]
          exact ih _ _ (by omega) (by omega) h
        · rw [if_neg c] at h; cases h
theorem costL_append (T : List (List Int)) (g : Int) (L1 L2 : List S59) : costL T g (L1 ++ L2) = costL T g L1 + costL T g L2 := by
  induction L1 with
  | nil => rw [List.nil_append, costL]; omega
  | cons p l ih => rw [List.cons_append, costL, costL, ih]; omega
def gapsL : Nat → Nat → List S59
  | _, 0 => []
  | j, d + 1 => ⟨-1, (j : Int)⟩ :: gapsL (j + 1) d
theorem gapsL_right (n : Int) (hn : 0 ≤ n) : ∀ (d j : Nat), rightL n ((j + d : Nat) : Int) (gapsL j d) n (j : Int) = true := by
  intro d
  induction d with
  | zero => intro j; rw [gapsL, rightL]; exact decide_eq_true ⟨rfl, rfl⟩
  | succ d ih =>
    intro j
    rw [gapsL, rightL, if_neg (by dsimp only; omega), if_neg (by dsimp only; omega), if_pos ⟨rfl, rfl, by omega⟩]
    have := ih (j + 1)
    rw [show j + 1 + d = j + (d + 1) by omega] at this
    exact this
theorem gapsL_cost (T : List (List Int)) (g : Int) : ∀ (d j : Nat), costL T g (gapsL j d) = (d : Int) * g := by
  intro d
  induction d with
  | zero => intro j; rw [gapsL, costL]; simp
  | succ d ih =>
    intro j
    rw [gapsL, costL, ih, succ_mul_gap]
    unfold costP
    rw [if_pos (Or.inl (by dsimp only; omega))]
    omega
/-! windows of a list -/
def win {α : Type} (X : List α) (a b : Nat) : List α := (X.drop a).take (b - a)
theorem win_len {α : Type} (X : List α) (a b : Nat) (h : a ≤ b) (hb : b ≤ X.length) : (win X a b).length = b - a := by
  unfold win; rw [List.length_take, List.length_drop]; omega
theorem win_get {α : Type} (X : List α) (a b i : Nat) (hb : b ≤ X.length) (h : i < b - a) (hl : i < (win X a b).length) : (win X a b)[i] = X[a + i]'(by omega) := by
  have e : (win X a b)[i]? = X[a + i]? := by unfold win; rw [List.getElem?_take, if_pos h, List.getElem?_drop]
  rw [List.getElem?_eq_getElem hl, List.getElem?_eq_getElem (by omega)] at e
  exact Option.some.inj e
theorem win_take {α : Type} (X : List α) (a b c : Nat) (h : c ≤ b - a) : (win X a b).take c = win X a (a + c) := by
  unfold win; rw [List.take_take, Nat.min_eq_left h, show a + c - a = c by omega]
theorem win_drop {α : Type} (X : List α) (a b c : Nat) (_h : c ≤ b - a) : (win X a b).drop c = win X (a + c) b := by
  unfold win; rw [List.drop_take, List.drop_drop, show b - a - c = b - (a + c) by omega]
theorem win_cut {α : Type} (X : List α) (a m b : Nat) (h1 : a ≤ m) (h2 : m ≤ b) : win X a m ++ win X m b = win X a b := by
  have e1 := win_take X a b (m - a) (by omega)
  have e2 := win_drop X a b (m - a) (by omega)
  rw [show a + (m - a) = m by omega] at e1 e2
  rw [← e1, ← e2, List.take_append_drop]
theorem win_self {α : Type} (X : List α) (a : Nat) : win X a a = [] := by unfold win; rw [Nat.sub_self, List.take_zero]
theorem win_all {α : Type} (X : List α) : win X 0 X.length = X := by unfold win; rw [List.drop_zero, Nat.sub_zero, List.take_length]
theorem win_one {α : Type} (X : List α) (a : Nat) (h : a < X.length) : win X a (a + 1) = [X[a]] := by
  unfold win; rw [show a + 1 - a = 1 by omega, List.drop_eq_getElem_cons h, List.take_succ_cons, List.take_zero]
end Go.Proofs.YtbpinnanfanaaaaDoor.Pure
/-
  slim's two rows over parts of both lists: what is ahead of each place, what is behind it.
-/
namespace Go.Proofs.YtbpinnanfanaaaaDoor.Pure
open Go.RowKit Go.Proofs.YtbpinnanfanaaaaDoor.L Go.Proofs.YtbpinnanfanaaaaDoorW.PrintWords Go.Proofs.YtbpinnanfanaaaaDoorW.PrintLast Go.Proofs.YtbpinnanfanaaaaDoorW.PrintMore
theorem grid_win (X Y : List ByteArray) (n f o : Int) (i0 i1 j0 j1 : Nat) (hi1 : i1 ≤ X.length) (hj1 : j1 ≤ Y.length) (p q : Nat) (hp : p < i1 - i0) (hq : q < j1 - j0) (a : p < (win X i0 i1).length) (b : q < (win Y j0 j1).length) : at2 (gridP X Y n f o) (i0 + p) (j0 + q) = wO n f o (win X i0 i1)[p] (win Y j0 j1)[q] := by
  rw [grid_at X Y n f o (i0 + p) (j0 + q) (by omega) (by omega), win_get X i0 i1 p hi1 hp, win_get Y j0 j1 q hj1 hq]
section
variable (X Y : List ByteArray) (g n f o : Int) (hg : 1 ≤ g ∧ g ≤ 1000) (hn : 1 ≤ n ∧ n ≤ 1000) (hf : 1 ≤ f ∧ f ≤ 1000) (hX : X.length ≤ 1024) (hY : Y.length ≤ 1024) (i0 i1 j0 j1 : Nat) (hi : i0 ≤ i1) (hi1 : i1 ≤ X.length) (hj : j0 ≤ j1) (hj1 : j1 ≤ Y.length)
def RowA (R : List Int) : Prop := R.length = j1 - j0 + 1 ∧ ∀ s, s ≤ j1 - j0 → R.getD s 0 = dL (wO n f o) g (win X i0 i1) ((win Y j0 j1).take s)
def RowB (R : List Int) : Prop := R.length = j1 - j0 + 1 ∧ ∀ s, s ≤ j1 - j0 → R.getD s 0 = dL (wO n f o) g (win X i0 i1) ((win Y j0 j1).drop s)
include hg hn hf hX hY hi hi1 hj hj1
theorem dPv_range (i j : Nat) : 0 ≤ dP (wO n f o) g (win X i0 i1) (win Y j0 j1) i j ∧ dP (wO n f o) g (win X i0 i1) (win Y j0 j1) i j ≤ 2048000 := dP_range (wO n f o) g (by omega) (fun x y => (wO_range n f o hn.1 hf x y).1) _ _ (by rw [win_len X i0 i1 hi hi1]; omega) (by rw [win_len Y j0 j1 hj hj1]; omega) i j
theorem dRv_range (i j : Nat) : 0 ≤ dR (wO n f o) g (win X i0 i1) (win Y j0 j1) i j ∧ dR (wO n f o) g (win X i0 i1) (win Y j0 j1) i j ≤ 2048000 := dR_range (wO n f o) g (by omega) (fun x y => (wO_range n f o hn.1 hf x y).1) _ _ (by rw [win_len X i0 i1 hi hi1]; omega) (by rw [win_len Y j0 j1 hj hj1]; omega) i j
theorem aheadW_l2 (p : Nat) (hp : p < i1 - i0) (cont : ∀ R : List Int, R.length = j1 - j0 + 1 → (∀ s, s ≤ j1 - j0 → R.getD s 0 = dP (wO n f o) g (win X i0 i1) (win Y j0 j1) (p + 1) s) → ∃ R', RowA X Y g n f o i0 i1 j0 j1 R' ∧ Ev (fun k => slim_task_ahead.l1 k (i1 : Int) (j0 : Int) (j1 : Int) R ((i0 + p + 1 : Nat) : Int) (gridP X Y n f o) g) R') :
    ∀ (d q : Nat) (R : List Int), q + d = j1 - j0 → R.length = j1 - j0 + 1 → (∀ s, s ≤ q → R.getD s 0 = dP (wO n f o) g (win X i0 i1) (win Y j0 j1) (p + 1) s) → (∀ s, q < s → s ≤ j1 - j0 → R.getD s 0 = dP (wO n f o) g (win X i0 i1) (win Y j0 j1) p s) → ∃ R', RowA X Y g n f o i0 i1 j0 j1 R' ∧ Ev (fun k => slim_task_ahead.l2 k (i1 : Int) (j0 : Int) (j1 : Int) R ((i0 + p : Nat) : Int) (dP (wO n f o) g (win X i0 i1) (win Y j0 j1) p q) ((j0 + q : Nat) : Int) (gridP X Y n f o) g) R' := by
  have lX := win_len X i0 i1 hi hi1
  have lY := win_len Y j0 j1 hj hj1
  intro d
  induction d with
  | zero =>
    intro q R hd hl h1 h2
    obtain ⟨R', hR', he⟩ := cont R hl (fun s hs => h1 s (by omega))
    exact ⟨R', hR', Ev.step (fun k => by rw [slim_task_ahead.l2, if_neg (by omega), wsucc (i0 + p) (by omega)]) he⟩
  | succ d IH =>
    intro q R hd hl h1 h2
    have hq : q < j1 - j0 := by omega
    have ha : p < (win X i0 i1).length := by omega
    have hb : q < (win Y j0 j1).length := by omega
    have r1 := dPv_range X Y g n f o hg hn hf hX hY i0 i1 j0 j1 hi hi1 hj hj1 p q
    have r2 := dPv_range X Y g n f o hg hn hf hX hY i0 i1 j0 j1 hi hi1 hj hj1 p (q + 1)
    have r3 := dPv_range X Y g n f o hg hn hf hX hY i0 i1 j0 j1 hi hi1 hj hj1 (p + 1) q
    have hw := wO_range n f o hn.1 hf (win X i0 i1)[p] (win Y j0 j1)[q]
    have hst := dP_step (wO n f o) g (win X i0 i1) (win Y j0 j1) p q ha hb
    have el : (rd_L11 (gridP X Y n f o) ((i0 + p : Nat) : Int)).length = Y.length := grid_rlen X Y n f o (i0 + p) (by omega)
    have ev : rd (rd_L11 (gridP X Y n f o) ((i0 + p : Nat) : Int)) ((j0 + q : Nat) : Int) = wO n f o (win X i0 i1)[p] (win Y j0 j1)[q] := grid_win X Y n f o i0 i1 j0 j1 hi1 hj1 p q hp hq ha hb
    have eG := grid_len X Y n f o
    have q1 : rd R ((q + 1 : Nat) : Int) = dP (wO n f o) g (win X i0 i1) (win Y j0 j1) p (q + 1) := by rw [rdS]; exact h2 (q + 1) (by omega) (by omega)
    have q2 : rd R (q : Int) = dP (wO n f o) g (win X i0 i1) (win Y j0 j1) (p + 1) q := by rw [rdS]; exact h1 q (Nat.le_refl _)
    generalize (win X i0 i1)[p] = x at hw hst ev
    generalize (win Y j0 j1)[q] = y at hw hst ev
    have w0 : Aside0 (wrap64 (((j0 + q : Nat) : Int) - (j0 : Int)) = (q : Int)) := ⟨by rw [ws _ (by omega) (by omega)]; omega⟩
    have w1 : Aside0 (wrap64 ((q : Int) + 1) = ((q + 1 : Nat) : Int)) := ⟨wsucc q (by omega)⟩
    have w2 : Aside0 (wrap64 (((q + 1 : Nat) : Int) - 1) = (q : Int)) := ⟨by rw [ws _ (by omega) (by omega)]; omega⟩
    have w6 : Aside0 (wrap64 (((j0 + q : Nat) : Int) + 1) = ((j0 + (q + 1) : Nat) : Int)) := ⟨by rw [wsucc _ (by omega)]; rfl⟩
    have w3 : Aside0 (wrap64 (dP (wO n f o) g (win X i0 i1) (win Y j0 j1) p q + wO n f o x y) = dP (wO n f o) g (win X i0 i1) (win Y j0 j1) p q + wO n f o x y) := ⟨ws _ (by omega) (by omega)⟩
    have w4 : Aside0 (wrap64 (dP (wO n f o) g (win X i0 i1) (win Y j0 j1) p (q + 1) + g) = dP (wO n f o) g (win X i0 i1) (win Y j0 j1) p (q + 1) + g) := ⟨ws _ (by omega) (by omega)⟩
    have w5 : Aside0 (wrap64 (dP (wO n f o) g (win X i0 i1) (win Y j0 j1) (p + 1) q + g) = dP (wO n f o) g (win X i0 i1) (win Y j0 j1) (p + 1) q + g) := ⟨ws _ (by omega) (by omega)⟩
    have HST := Aside0.mk hst
    clear hst r1 r2 r3 hw
    obtain ⟨R', hR', he⟩ := IH (q + 1) (R.set (q + 1) (dP (wO n f o) g (win X i0 i1) (win Y j0 j1) (p + 1) (q + 1))) (by omega) (by rw [List.length_set]; exact hl)
      (fun s hs => by
        by_cases e : s = q + 1
        · rw [e, getD_set_same R (q + 1) (by omega)]
        · rw [getD_set_ne R (q + 1) s (fun z => e z.symm)]; exact h1 s (by omega))
      (fun s hs ht => by rw [getD_set_ne R (q + 1) s (by omega)]; exact h2 s (by omega) ht)
    refine ⟨R', hR', Ev.step (fun k => ?_) he⟩
    generalize hGd : gridP X Y n f o = G at el ev eG ⊢
    have b0 : (0 : Int) ≤ ((i0 + p : Nat) : Int) := Int.natCast_nonneg _
    have b1 : (0 : Int) ≤ ((j0 + q : Nat) : Int) := Int.natCast_nonneg _
    have b2 : ((j0 + q : Nat) : Int) < (j1 : Int) := Int.ofNat_lt.2 (by omega)
    have b3 : ((i0 + p : Nat) : Int) < (G.length : Int) := by rw [eG]; exact Int.ofNat_lt.2 (by omega)
    have b4 : ((j0 + q : Nat) : Int) < ((rd_L11 G ((i0 + p : Nat) : Int)).length : Int) := by rw [el]; exact Int.ofNat_lt.2 (by omega)
    have b5 : (0 : Int) ≤ ((q + 1 : Nat) : Int) := Int.natCast_nonneg _
    have b6 : ((q + 1 : Nat) : Int) < (R.length : Int) := by rw [hl]; exact Int.ofNat_lt.2 (by omega)
    have b7 : (q : Int) < (R.length : Int) := by rw [hl]; exact Int.ofNat_lt.2 (by omega)
    have b8 : (0 : Int) ≤ (q : Int) := Int.natCast_nonneg _
    rw [slim_task_ahead.l2, if_pos b2, if_pos b0, if_pos b3, if_pos b1, if_pos b4, w0.out, w1.out, if_pos b5, if_pos b6, w2.out, if_pos b8, if_pos b7, ev, q1, q2, Int.toNat_natCast, mnS, mnS, w3.out, w4.out, w5.out, ← HST.out, w6.out]
theorem aheadW_l1 : ∀ (d p : Nat) (R : List Int), p + d = i1 - i0 → R.length = j1 - j0 + 1 → (∀ s, s ≤ j1 - j0 → R.getD s 0 = dP (wO n f o) g (win X i0 i1) (win Y j0 j1) p s) → ∃ R', RowA X Y g n f o i0 i1 j0 j1 R' ∧ Ev (fun k => slim_task_ahead.l1 k (i1 : Int) (j0 : Int) (j1 : Int) R ((i0 + p : Nat) : Int) (gridP X Y n f o) g) R' := by
  have lX := win_len X i0 i1 hi hi1
  have lY := win_len Y j0 j1 hj hj1
  intro d
  induction d with
  | zero =>
    intro p R hd hl h1
    refine ⟨R, ⟨hl, fun s hs => ?_⟩, Ev.step (f := fun _ => some R) (fun k => by rw [slim_task_ahead.l1, if_neg (by omega)]) (Ev.now _)⟩
    rw [h1 s hs, show p = (win X i0 i1).length by omega]
    unfold dP
    rw [List.take_length, dL_reverse (wO n f o) g (by omega) (fun x y => (wO_range n f o hn.1 hf x y).1)]
  | succ d IH =>
    intro p R hd hl h1
    have r0 := dPv_range X Y g n f o hg hn hf hX hY i0 i1 j0 j1 hi hi1 hj hj1 p 0
    have q0 : rd R 0 = dP (wO n f o) g (win X i0 i1) (win Y j0 j1) p 0 := by have := rdS R 0; rw [show ((0 : Nat) : Int) = 0 from rfl] at this; rw [this]; exact h1 0 (Nat.zero_le _)
    have c1 := dP_col (wO n f o) g (win X i0 i1) (win Y j0 j1) p (by omega)
    have c2 := dP_col (wO n f o) g (win X i0 i1) (win Y j0 j1) (p + 1) (by omega)
    have c3 : dP (wO n f o) g (win X i0 i1) (win Y j0 j1) (p + 1) 0 = dP (wO n f o) g (win X i0 i1) (win Y j0 j1) p 0 + g := by rw [c1, c2, succ_mul_gap]
    obtain ⟨R', hR', he⟩ := aheadW_l2 X Y g n f o hg hn hf hX hY i0 i1 j0 j1 hi hi1 hj hj1 p (by omega) (fun R1 l1 p1 => IH (p + 1) R1 (by omega) l1 p1) (j1 - j0) 0 (R.set 0 (dP (wO n f o) g (win X i0 i1) (win Y j0 j1) (p + 1) 0)) (by omega) (by rw [List.length_set]; exact hl)
      (fun s hs => by obtain rfl : s = 0 := by omega
                      rw [getD_set_same R 0 (by omega)])
      (fun s hs hq => by rw [getD_set_ne R 0 s (by omega)]; exact h1 s hq)
    refine ⟨R', hR', Ev.step (fun k => ?_) he⟩
    rw [slim_task_ahead.l1, if_pos (by omega), if_pos (by omega), q0, ws _ (by omega) (by omega), c3]
    rfl
theorem aheadW_l0 : ∀ (d x : Nat) (R : List Int), x + d = j1 - j0 + 1 → R.length = j1 - j0 + 1 → (∀ s, s < x → R.getD s 0 = dP (wO n f o) g (win X i0 i1) (win Y j0 j1) 0 s) → ∃ R', RowA X Y g n f o i0 i1 j0 j1 R' ∧ Ev (fun k => slim_task_ahead.l0 k (i0 : Int) (i1 : Int) (j0 : Int) (j1 : Int) R ((j1 - j0 + 1 : Nat) : Int) (x : Int) (gridP X Y n f o) g) R' := by
  have lX := win_len X i0 i1 hi hi1
  have lY := win_len Y j0 j1 hj hj1
  intro d
  induction d with
  | zero =>
    intro x R hd hl h1
    obtain ⟨R', hR', he⟩ := aheadW_l1 X Y g n f o hg hn hf hX hY i0 i1 j0 j1 hi hi1 hj hj1 (i1 - i0) 0 R (by omega) hl (fun s hs => h1 s (by omega))
    exact ⟨R', hR', Ev.step (fun k => by rw [slim_task_ahead.l0, if_neg (by omega)]; rfl) he⟩
  | succ d IH =>
    intro x R hd hl h1
    have c := dP_row (wO n f o) g (win X i0 i1) (win Y j0 j1) x (by omega)
    have r := dPv_range X Y g n f o hg hn hf hX hY i0 i1 j0 j1 hi hi1 hj hj1 0 x
    rw [c] at r
    obtain ⟨R', hR', he⟩ := IH (x + 1) (R.set x ((x : Int) * g)) (by omega) (by rw [List.length_set]; exact hl) (fun s hs => by
      by_cases e : s = x
      · rw [e, getD_set_same R x (by omega), c]
      · rw [getD_set_ne R x s (fun z => e z.symm)]; exact h1 s (by omega))
    refine ⟨R', hR', Ev.step (fun k => ?_) he⟩
    rw [slim_task_ahead.l0, if_pos (by omega), if_pos (by omega), if_pos (by omega), Int.toNat_natCast, ws _ (by omega) (by omega), wsucc x (by omega)]
theorem aheadW_eq : ∃ R', RowA X Y g n f o i0 i1 j0 j1 R' ∧ Ev (fun k => slim_task_ahead.f k (gridP X Y n f o) g (i0 : Int) (i1 : Int) (j0 : Int) (j1 : Int)) R' := by
  obtain ⟨R', hR', he⟩ := aheadW_l0 X Y g n f o hg hn hf hX hY i0 i1 j0 j1 hi hi1 hj hj1 (j1 - j0 + 1) 0 (List.replicate (j1 - j0 + 1) 0) (by omega) (by simp) (fun s hs => by omega)
  refine ⟨R', hR', Ev.congr (fun k => ?_) he⟩
  have w0 : wrap64 (wrap64 ((j1 : Int) - (j0 : Int)) + 1) = ((j1 - j0 + 1 : Nat) : Int) := by rw [ws ((j1 : Int) - (j0 : Int)) (by omega) (by omega), ws _ (by omega) (by omega)]; omega
  unfold slim_task_ahead.f
  rw [w0, if_pos (by omega), Int.toNat_natCast, if_pos (by omega), Option.bind_some, List.length_replicate]
  rfl
theorem behindW_l2 (p : Nat) (hp : p < i1 - i0) (cont : ∀ R : List Int, R.length = j1 - j0 + 1 → (∀ s, s ≤ j1 - j0 → R.getD s 0 = dR (wO n f o) g (win X i0 i1) (win Y j0 j1) p s) → ∃ R', RowB X Y g n f o i0 i1 j0 j1 R' ∧ Ev (fun k => slim_task_behind.l1 k (i0 : Int) (j0 : Int) (j1 : Int) R (((i0 + p : Nat) : Int) - 1) (gridP X Y n f o) g) R') :
    ∀ (q : Nat) (R : List Int), q ≤ j1 - j0 → R.length = j1 - j0 + 1 → (∀ s, q ≤ s → s ≤ j1 - j0 → R.getD s 0 = dR (wO n f o) g (win X i0 i1) (win Y j0 j1) p s) → (∀ s, s < q → R.getD s 0 = dR (wO n f o) g (win X i0 i1) (win Y j0 j1) (p + 1) s) → ∃ R', RowB X Y g n f o i0 i1 j0 j1 R' ∧ Ev (fun k => slim_task_behind.l2 k (i0 : Int) (j0 : Int) (j1 : Int) R ((i0 + p : Nat) : Int) (dR (wO n f o) g (win X i0 i1) (win Y j0 j1) (p + 1) q) (((j0 + q : Nat) : Int) - 1) (gridP X Y n f o) g) R' := by
  have lX := win_len X i0 i1 hi hi1
  have lY := win_len Y j0 j1 hj hj1
  intro q
  induction q with
  | zero =>
    intro R hd hl h1 h2
    obtain ⟨R', hR', he⟩ := cont R hl (fun s hs => h1 s (Nat.zero_le _) hs)
    exact ⟨R', hR', Ev.step (fun k => by rw [slim_task_behind.l2, if_neg (by omega), ws (((i0 + p : Nat) : Int) - 1) (by omega) (by omega)]) he⟩
  | succ q IH =>
    intro R hd hl h1 h2
    have hq : q < j1 - j0 := by omega
    have ha : p < (win X i0 i1).length := by omega
    have hb : q < (win Y j0 j1).length := by omega
    have r1 := dRv_range X Y g n f o hg hn hf hX hY i0 i1 j0 j1 hi hi1 hj hj1 (p + 1) (q + 1)
    have r2 := dRv_range X Y g n f o hg hn hf hX hY i0 i1 j0 j1 hi hi1 hj hj1 (p + 1) q
    have r3 := dRv_range X Y g n f o hg hn hf hX hY i0 i1 j0 j1 hi hi1 hj hj1 p (q + 1)
    have hw := wO_range n f o hn.1 hf (win X i0 i1)[p] (win Y j0 j1)[q]
    have hst := dR_step (wO n f o) g (win X i0 i1) (win Y j0 j1) p q ha hb
    have el : (rd_L11 (gridP X Y n f o) ((i0 + p : Nat) : Int)).length = Y.length := grid_rlen X Y n f o (i0 + p) (by omega)
    have ev : rd (rd_L11 (gridP X Y n f o) ((i0 + p : Nat) : Int)) ((j0 + q : Nat) : Int) = wO n f o (win X i0 i1)[p] (win Y j0 j1)[q] := grid_win X Y n f o i0 i1 j0 j1 hi1 hj1 p q hp hq ha hb
    have eG := grid_len X Y n f o
    have q1 : rd R (q : Int) = dR (wO n f o) g (win X i0 i1) (win Y j0 j1) (p + 1) q := by rw [rdS]; exact h2 q (by omega)
    have q2 : rd R ((q + 1 : Nat) : Int) = dR (wO n f o) g (win X i0 i1) (win Y j0 j1) p (q + 1) := by rw [rdS]; exact h1 (q + 1) (Nat.le_refl _) hd
    generalize (win X i0 i1)[p] = x at hw hst ev
    generalize (win Y j0 j1)[q] = y at hw hst ev
    have hj' : ((j0 + (q + 1) : Nat) : Int) - 1 = ((j0 + q : Nat) : Int) := by omega
    have w0 : Aside0 (wrap64 (((j0 + q : Nat) : Int) - (j0 : Int)) = (q : Int)) := ⟨by rw [ws _ (by omega) (by omega)]; omega⟩
    have w1 : Aside0 (wrap64 ((q : Int) + 1) = ((q + 1 : Nat) : Int)) := ⟨wsucc q (by omega)⟩
    have w6 : Aside0 (wrap64 (((j0 + q : Nat) : Int) - 1) = ((j0 + q : Nat) : Int) - 1) := ⟨ws _ (by omega) (by omega)⟩
    have w3 : Aside0 (wrap64 (dR (wO n f o) g (win X i0 i1) (win Y j0 j1) (p + 1) (q + 1) + wO n f o x y) = dR (wO n f o) g (win X i0 i1) (win Y j0 j1) (p + 1) (q + 1) + wO n f o x y) := ⟨ws _ (by omega) (by omega)⟩
    have w4 : Aside0 (wrap64 (dR (wO n f o) g (win X i0 i1) (win Y j0 j1) (p + 1) q + g) = dR (wO n f o) g (win X i0 i1) (win Y j0 j1) (p + 1) q + g) := ⟨ws _ (by omega) (by omega)⟩
    have w5 : Aside0 (wrap64 (dR (wO n f o) g (win X i0 i1) (win Y j0 j1) p (q + 1) + g) = dR (wO n f o) g (win X i0 i1) (win Y j0 j1) p (q + 1) + g) := ⟨ws _ (by omega) (by omega)⟩
    have HST := Aside0.mk hst
    clear hst r1 r2 r3 hw
    obtain ⟨R', hR', he⟩ := IH (R.set q (dR (wO n f o) g (win X i0 i1) (win Y j0 j1) p q)) (by omega) (by rw [List.length_set]; exact hl)
      (fun s hs ht => by
        by_cases e : s = q
        · rw [e, getD_set_same R q (by omega)]
        · rw [getD_set_ne R q s (fun z => e z.symm)]; exact h1 s (by omega) ht)
      (fun s hs => by rw [getD_set_ne R q s (by omega)]; exact h2 s (by omega))
    refine ⟨R', hR', Ev.step (fun k => ?_) he⟩
    rw [hj']
    generalize hGd : gridP X Y n f o = G at el ev eG ⊢
    have b0 : (0 : Int) ≤ ((i0 + p : Nat) : Int) := Int.natCast_nonneg _
    have b1 : (0 : Int) ≤ ((j0 + q : Nat) : Int) := Int.natCast_nonneg _
    have b2 : ((j0 + q : Nat) : Int) ≥ (j0 : Int) := Int.ofNat_le.2 (by omega)
    have b3 : ((i0 + p : Nat) : Int) < (G.length : Int) := by rw [eG]; exact Int.ofNat_lt.2 (by omega)
    have b4 : ((j0 + q : Nat) : Int) < ((rd_L11 G ((i0 + p : Nat) : Int)).length : Int) := by rw [el]; exact Int.ofNat_lt.2 (by omega)
    have b5 : (0 : Int) ≤ ((q + 1 : Nat) : Int) := Int.natCast_nonneg _
    have b6 : ((q + 1 : Nat) : Int) < (R.length : Int) := by rw [hl]; exact Int.ofNat_lt.2 (by omega)
    have b7 : (q : Int) < (R.length : Int) := by rw [hl]; exact Int.ofNat_lt.2 (by omega)
    have b8 : (0 : Int) ≤ (q : Int) := Int.natCast_nonneg _
    rw [slim_task_behind.l2, if_pos b2, if_pos b0, if_pos b3, if_pos b1, if_pos b4, w0.out, if_pos b8, if_pos b7, w1.out, if_pos b5, if_pos b6, ev, q1, q2, Int.toNat_natCast, mnS, mnS, w3.out, w4.out, w5.out, ← HST.out, w6.out]
theorem behindW_l1 : ∀ (p : Nat) (R : List Int), p ≤ i1 - i0 → R.length = j1 - j0 + 1 → (∀ s, s ≤ j1 - j0 → R.getD s 0 = dR (wO n f o) g (win X i0 i1) (win Y j0 j1) p s) → ∃ R', RowB X Y g n f o i0 i1 j0 j1 R' ∧ Ev (fun k => slim_task_behind.l1 k (i0 : Int) (j0 : Int) (j1 : Int) R (((i0 + p : Nat) : Int) - 1) (gridP X Y n f o) g) R' := by
  have lX := win_len X i0 i1 hi hi1
  have lY := win_len Y j0 j1 hj hj1
  intro p
  induction p with
  | zero =>
    intro R hd hl h1
    refine ⟨R, ⟨hl, fun s hs => ?_⟩, Ev.step (f := fun _ => some R) (fun k => by rw [slim_task_behind.l1, if_neg (by omega)]) (Ev.now _)⟩
    rw [h1 s hs]
    unfold dR
    rw [List.drop_zero]
  | succ p IH =>
    intro R hd hl h1
    have r0 := dRv_range X Y g n f o hg hn hf hX hY i0 i1 j0 j1 hi hi1 hj hj1 (p + 1) (j1 - j0)
    have q0 : rd R ((j1 - j0 : Nat) : Int) = dR (wO n f o) g (win X i0 i1) (win Y j0 j1) (p + 1) (j1 - j0) := by rw [rdS]; exact h1 _ (Nat.le_refl _)
    have c1 := dR_endr (wO n f o) g (win X i0 i1) (win Y j0 j1) p (by omega)
    have c2 := dR_endr (wO n f o) g (win X i0 i1) (win Y j0 j1) (p + 1) (by omega)
    have c3 : dR (wO n f o) g (win X i0 i1) (win Y j0 j1) p (j1 - j0) = dR (wO n f o) g (win X i0 i1) (win Y j0 j1) (p + 1) (j1 - j0) + g := by
      rw [← lY, c1, c2, show (((win X i0 i1).length : Int) - (p : Int)) = (((win X i0 i1).length : Int) - ((p + 1 : Nat) : Int)) + 1 by omega, Int.add_mul, Int.one_mul]
    obtain ⟨R', hR', he⟩ := behindW_l2 X Y g n f o hg hn hf hX hY i0 i1 j0 j1 hi hi1 hj hj1 p (by omega) (fun R1 l1 p1 => IH R1 (by omega) l1 p1) (j1 - j0) (R.set (j1 - j0) (dR (wO n f o) g (win X i0 i1) (win Y j0 j1) p (j1 - j0))) (Nat.le_refl _) (by rw [List.length_set]; exact hl)
      (fun s hs ht => by obtain rfl : s = j1 - j0 := by omega
                         rw [getD_set_same R _ (by omega)])
      (fun s hs => by rw [getD_set_ne R _ s (by omega)]; exact h1 s (by omega))
    refine ⟨R', hR', Ev.step (fun k => ?_) he⟩
    have wj : wrap64 ((j1 : Int) - (j0 : Int)) = ((j1 - j0 : Nat) : Int) := by rw [ws _ (by omega) (by omega)]; omega
    have hi' : ((i0 + (p + 1) : Nat) : Int) - 1 = ((i0 + p : Nat) : Int) := by omega
    have hj' : ((j0 + (j1 - j0) : Nat) : Int) = (j1 : Int) := by omega
    rw [slim_task_behind.l1, hi', if_pos (by omega), wj, if_pos (by omega), if_pos (by omega), q0, ws (dR (wO n f o) g (win X i0 i1) (win Y j0 j1) (p + 1) (j1 - j0) + g) (by omega) (by omega), c3, hj', ws ((j1 : Int) - 1) (by omega) (by omega), Int.toNat_natCast]
theorem behindW_l0 : ∀ (d x : Nat) (R : List Int), x + d = j1 - j0 + 1 → R.length = j1 - j0 + 1 → (∀ s, s < x → R.getD s 0 = dR (wO n f o) g (win X i0 i1) (win Y j0 j1) (i1 - i0) s) → ∃ R', RowB X Y g n f o i0 i1 j0 j1 R' ∧ Ev (fun k => slim_task_behind.l0 k (i0 : Int) (i1 : Int) (j0 : Int) (j1 : Int) R ((j1 - j0 + 1 : Nat) : Int) (x : Int) (gridP X Y n f o) g) R' := by
  have lX := win_len X i0 i1 hi hi1
  have lY := win_len Y j0 j1 hj hj1
  intro d
  induction d with
  | zero =>
    intro x R hd hl h1
    obtain ⟨R', hR', he⟩ := behindW_l1 X Y g n f o hg hn hf hX hY i0 i1 j0 j1 hi hi1 hj hj1 (i1 - i0) R (Nat.le_refl _) hl (fun s hs => h1 s (by omega))
    have hi' : ((i0 + (i1 - i0) : Nat) : Int) = (i1 : Int) := by omega
    rw [hi'] at he
    exact ⟨R', hR', Ev.step (fun k => by rw [slim_task_behind.l0, if_neg (by omega), ws ((i1 : Int) - 1) (by omega) (by omega)]) he⟩
  | succ d IH =>
    intro x R hd hl h1
    have c := dR_endl (wO n f o) g (win X i0 i1) (win Y j0 j1) x (by omega)
    rw [lX, lY] at c
    have r := dRv_range X Y g n f o hg hn hf hX hY i0 i1 j0 j1 hi hi1 hj hj1 (i1 - i0) x
    rw [c] at r
    obtain ⟨R', hR', he⟩ := IH (x + 1) (R.set x ((((j1 - j0 : Nat) : Int) - (x : Int)) * g)) (by omega) (by rw [List.length_set]; exact hl) (fun s hs => by
      by_cases e : s = x
      · rw [e, getD_set_same R x (by omega), c]
      · rw [getD_set_ne R x s (fun z => e z.symm)]; exact h1 s (by omega))
    refine ⟨R', hR', Ev.step (fun k => ?_) he⟩
    have wj : wrap64 ((j1 : Int) - (j0 : Int)) = ((j1 - j0 : Nat) : Int) := by rw [ws _ (by omega) (by omega)]; omega
    rw [slim_task_behind.l0, if_pos (by omega), if_pos (by omega), if_pos (by omega), Int.toNat_natCast, wj, ws (((j1 - j0 : Nat) : Int) - (x : Int)) (by omega) (by omega), ws _ (by omega) (by omega), wsucc x (by omega)]
theorem behindW_eq : ∃ R', RowB X Y g n f o i0 i1 j0 j1 R' ∧ Ev (fun k => slim_task_behind.f k (gridP X Y n f o) g (i0 : Int) (i1 : Int) (j0 : Int) (j1 : Int)) R' := by
  obtain ⟨R', hR', he⟩ := behindW_l0 X Y g n f o hg hn hf hX hY i0 i1 j0 j1 hi hi1 hj hj1 (j1 - j0 + 1) 0 (List.replicate (j1 - j0 + 1) 0) (by omega) (by simp) (fun s hs => by omega)
  refine ⟨R', hR', Ev.congr (fun k => ?_) he⟩
  have w0 : wrap64 (wrap64 ((j1 : Int) - (j0 : Int)) + 1) = ((j1 - j0 + 1 : Nat) : Int) := by rw [ws ((j1 : Int) - (j0 : Int)) (by omega) (by omega), ws _ (by omega) (by omega)]; omega
  unfold slim_task_behind.f
  rw [w0, if_pos (by omega), Int.toNat_natCast, if_pos (by omega), Option.bind_some, List.length_replicate]
  rfl
end
end Go.Proofs.YtbpinnanfanaaaaDoor.Pure
