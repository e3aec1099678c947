import Derived.Test.YtbpinnanfanaaaaDoorV221
import Derived.Test.YtbpinnanfanaaaaDoorV26
import Derived.Test.YtbpinnanfanaaaaDoorV27
import Derived.Test.YtbpinnanfanaaaaDoorV25
import Derived.Test.YtbpinnanfanaaaaDoorV29
import Derived.Test.YtbpinnanfanaaaaDoorV210
import Derived.Test.YtbpinnanfanaaaaDoorV212
import Derived.Test.YtbpinnanfanaaaaDoorV211
import Derived.Lib.MapLaws
import Derived.Test.YtbpinnanfanaaaaDoorV220
/-
  What words cost, in plain numbers: a text folded; which are too long; what two words cost.
-/
namespace Go.Proofs.YtbpinnanfanaaaaDoor.Pure
open Go.RowKit Go.Proofs.YtbpinnanfanaaaaDoor.L Go.Proofs.YtbpinnanfanaaaaDoorW.PrintWords Go.Proofs.YtbpinnanfanaaaaDoorW.PrintLast Go.Proofs.YtbpinnanfanaaaaDoorW.PrintMore
def fd (s : ByteArray) (o : Int) : ByteArray := ⟨(foldT o (gCells s s.size 0)).toArray⟩
theorem fd_size (s : ByteArray) (o : Int) : (fd s o).size ≤ 12 * s.size := by
  have h1 := foldT_len o (gCells s s.size 0)
  have h2 := Pl.cells_le s
  show (foldT o (gCells s s.size 0)).toArray.size ≤ _
  simp
  omega
theorem fold_eq (s : ByteArray) (o : Int) (hs : s.size ≤ 1048576) (ho : 0 ≤ o ∧ o ≤ 31) : fold_Text.f s o = some (fd s o, 0) := by
  have h2 := Pl.cells_le s
  unfold fold_Text.f glyph_Cells.f
  rw [if_pos ho, if_pos (by omega), Option.bind_some, if_pos ⟨fun c hc => Pl.cells_byte s s.size 0 c hc, by omega⟩]
  rfl
theorem count_eq (t : ByteArray) (ht : t.size ≤ 4294967296) : glyph_Count.f t = some (((cb t).length : Nat) : Int) := by
  unfold glyph_Count.f
  rw [if_pos ht, cb_len, Pl.cells_length]
def longW (s : ByteArray) (o : Int) : Bool := decide (256 < (cb (fd s o)).length)
def wordOf (o : Int) (s : ByteArray) : S67 := ⟨s, fd s o⟩
theorem rdW_nat (l : List S67) (i : Nat) (h : i < l.length) : rd_T67 l (i : Int) = l[i] := by
  unfold rd_T67
  rw [Int.toNat_natCast, List.getD_eq_getElem?_getD, List.getElem?_eq_getElem h]
  rfl
theorem folded_loop (L : List ByteArray) (hL : ∀ s ∈ L, s.size ≤ 1048576) (hl : L.length ≤ 1024) (g n f o : Int) (ho : 0 ≤ o ∧ o ≤ 31) : ∀ (d i k : Nat) (acc : List S67), i + d = L.length → acc.length = i → d + 1 ≤ k →
    cost_folded.l0 k acc L (L.length : Int) (i : Int) g n f o = some (if (L.drop i).any (fun s => longW s o) = true then ([], 1) else (acc ++ (L.drop i).map (wordOf o), 0))
  | 0, i, k, acc, hd, ha, hk => by
    obtain ⟨k, rfl⟩ : ∃ m, k = m + 1 := ⟨k - 1, by omega⟩
    rw [cost_folded.l0, if_neg (by omega), List.drop_of_length_le (by omega)]
    simp
  | d + 1, i, k, acc, hd, ha, hk => by
    obtain ⟨k, rfl⟩ : ∃ m, k = m + 1 := ⟨k - 1, by omega⟩
    have hi : i < L.length := by omega
    have hs := hL _ (List.getElem_mem hi)
    have hz := fd_size L[i] o
    have e2 : ((i + 1 : Nat) : Int) = (i : Int) + 1 := by omega
    rw [cost_folded.l0, if_pos (by omega), if_pos (by omega), if_pos (by omega), rdOf_nat L i hi, fold_eq _ _ hs ho, Option.bind_some]
    dsimp only
    rw [count_eq _ (by omega), Option.bind_some, List.drop_eq_getElem_cons hi, List.any_cons]
    by_cases hlg : 256 < (cb (fd L[i] o)).length
    · rw [if_pos (by omega)]
      have : longW L[i] o = true := decide_eq_true hlg
      rw [this]
      simp
    · have hf : longW L[i] o = false := decide_eq_false hlg
      rw [if_neg (by omega), if_pos (by omega), ws ((i : Int) + 1) (by omega) (by omega), ← e2, folded_loop L hL hl g n f o ho d (i + 1) k _ (by omega) (by simp; omega) (by omega), hf, List.map_cons]
      simp [wordOf]
def foldedP (L : List ByteArray) (o : Int) : List S67 × Int := if 1024 < L.length then ([], 1) else if L.any (fun s => longW s o) = true then ([], 1) else (L.map (wordOf o), 0)
theorem folded_eq (L : List ByteArray) (hL : ∀ s ∈ L, s.size ≤ 1048576) (g n f o : Int) (ho : 0 ≤ o ∧ o ≤ 31) (k : Nat) (hk : 1025 ≤ k) : cost_folded.f k L g n f o = some (foldedP L o) := by
  unfold cost_folded.f foldedP
  by_cases h : 1024 < L.length
  · rw [if_pos (by omega), if_pos h]
  · rw [if_neg (by omega), if_neg h]
    have := folded_loop L hL (by omega) g n f o ho L.length 0 k [] (by omega) rfl (by omega)
    simpa using this
def lostB : List UInt8 := [226, 151, 140]
def twoP (a ka b kb : ByteArray) (n f : Int) : Int := if ka.data.toList = kb.data.toList then 0 else if a.data.toList = lostB ∨ b.data.toList = lostB then min n f else min f (((Lv.lev (cb ka) (cb kb) : Nat) : Int) * n)
theorem lev_256 (x y : ByteArray) (hx : (cb x).length ≤ 256) (hy : (cb y).length ≤ 256) : Lv.lev (cb x) (cb y) ≤ 256 := by
  have := Lv.lev_max (cb x) (cb y)
  omega
theorem two_eq (a ka b kb : ByteArray) (g n f o : Int) (hn : 1 ≤ n ∧ n ≤ 1000) (h1 : ka.size ≤ 12582912) (h2 : kb.size ≤ 12582912) (l1 : (cb ka).length ≤ 256) (l2 : (cb kb).length ≤ 256) (k : Nat) (hk : 30000000 ≤ k) :
    cost_two.f k a ka b kb g n f o = some (twoP a ka b kb n f) := by
  unfold cost_two.f twoP lostB
  simp only [toList_data]
  by_cases e1 : ka.data.toList = kb.data.toList
  · rw [if_pos e1, if_pos e1]
  · rw [if_neg e1, if_neg e1]
    by_cases e2 : a.data.toList = [226, 151, 140]
    · rw [if_pos e2, if_pos (Or.inl e2), mn_eq]
    · rw [if_neg e2]
      by_cases e3 : b.data.toList = [226, 151, 140]
      · rw [if_pos e3, if_pos (Or.inr e3), mn_eq]
      · have hlv := lev_256 ka kb l1 l2
        have hb1 : 0 ≤ ((Lv.lev (cb ka) (cb kb) : Nat) : Int) * n := Int.mul_nonneg (by omega) (by omega)
        have hb2 : ((Lv.lev (cb ka) (cb kb) : Nat) : Int) * n ≤ 256 * 1000 := Int.mul_le_mul (by omega) (by omega) (by omega) (by omega)
        rw [if_neg e3, if_neg (fun h => h.elim e2 e3), of_eq ka kb (by omega) (by omega) k (by unfold kOf; omega), Option.bind_some]
        unfold dOf
        rw [if_pos ⟨l1, l2⟩]
        dsimp only
        rw [ws _ (by omega) (by omega), mn_eq]
def wP (a b : ByteArray) (g n f o : Int) : Int × Int := if scaleOk g n f o then (if longW a o = true ∨ longW b o = true then (0, 1) else (twoP a (fd a o) b (fd b o) n f, 0)) else (0, 90)
theorem short_of (s : ByteArray) (o : Int) (h : ¬ longW s o = true) : (cb (fd s o)).length ≤ 256 := by
  unfold longW at h
  simpa using h
theorem check_eq (g n f o : Int) : cost_Check.f g n f o = some (if scaleOk g n f o then 0 else 90) := rfl
theorem lev_pos (x y : ByteArray) (h : ¬ x.data.toList = y.data.toList) : 1 ≤ Lv.lev (cb x) (cb y) := by
  rcases Nat.eq_zero_or_pos (Lv.lev (cb x) (cb y)) with h0 | h0
  · exact absurd (by rw [← toList_data, ← toList_data]; exact (cb_inj x y).1 (Lv.lev_zero.1 h0)) h
  · exact h0
theorem two_range (a ka b kb : ByteArray) (n f : Int) (hn : 1 ≤ n) (hf : 1 ≤ f) : 0 ≤ twoP a ka b kb n f ∧ twoP a ka b kb n f ≤ f ∧ (twoP a ka b kb n f = 0 ↔ ka.data.toList = kb.data.toList) := by
  unfold twoP
  by_cases e1 : ka.data.toList = kb.data.toList
  · rw [if_pos e1]
    exact ⟨by omega, by omega, ⟨fun _ => e1, fun _ => rfl⟩⟩
  · rw [if_neg e1]
    by_cases e2 : a.data.toList = lostB ∨ b.data.toList = lostB
    · rw [if_pos e2]
      exact ⟨by omega, by omega, ⟨fun h => by omega, fun h => absurd h e1⟩⟩
    · rw [if_neg e2]
      have h1 := lev_pos ka kb e1
      have h2 : n ≤ ((Lv.lev (cb ka) (cb kb) : Nat) : Int) * n := by
        have := Int.mul_le_mul_of_nonneg_right (show (1 : Int) ≤ ((Lv.lev (cb ka) (cb kb) : Nat) : Int) by omega) (show (0 : Int) ≤ n by omega)
        omega
      exact ⟨by omega, by omega, ⟨fun h => by omega, fun h => absurd h e1⟩⟩
end Go.Proofs.YtbpinnanfanaaaaDoor.Pure
/-
  Two lists of words, in plain numbers: their grid; the least price of what is left of both; the alignment that is walked.
-/
namespace Go.Proofs.YtbpinnanfanaaaaDoor.Pure
open Go.RowKit Go.Proofs.YtbpinnanfanaaaaDoor.L Go.Proofs.YtbpinnanfanaaaaDoorW.PrintWords Go.Proofs.YtbpinnanfanaaaaDoorW.PrintLast Go.Proofs.YtbpinnanfanaaaaDoorW.PrintMore
theorem ev_at {α : Type} {g : Nat → Option α} {r : α} (K : Nat) (h : ∀ k, K ≤ k → g k = some r) : Ev g r := ⟨K, h⟩
theorem ev_bind {α β : Type} {g : Nat → Option α} {f : Nat → α → Option β} {a : α} {r : β} (h : Ev g a) (k : Ev (fun n => f n a) r) : Ev (fun n => (g n).bind (f n)) r := Ev.bind h k
theorem wsucc (i : Nat) (h : i < 4611686018427387904) : wrap64 ((i : Int) + 1) = ((i + 1 : Nat) : Int) := by rw [ws _ (by omega) (by omega)]; omega
theorem two_ind {α : Type} {P : List α → List α → Prop} (h0 : ∀ ys, P [] ys) (h1 : ∀ x xs, P (x :: xs) []) (h2 : ∀ x xs y ys, P xs ys → P xs (y :: ys) → P (x :: xs) ys → P (x :: xs) (y :: ys)) : ∀ xs ys, P xs ys := by
  intro xs
  induction xs with
  | nil => exact h0
  | cons x xs ih =>
    intro ys
    induction ys with
    | nil => exact h1 x xs
    | cons y ys ih2 => exact h2 x xs y ys (ih ys) (ih (y :: ys)) ih2
/-! two lists -/
def dL {α : Type} (w : α → α → Int) (gap : Int) : List α → List α → Int
  | [], ys => (ys.length : Int) * gap
  | _ :: xs, [] => ((xs.length + 1 : Nat) : Int) * gap
  | x :: xs, y :: ys => min (min (dL w gap xs ys + w x y) (dL w gap xs (y :: ys) + gap)) (dL w gap (x :: xs) ys + gap)
termination_by xs ys => xs.length + ys.length
section
variable {α : Type} (w : α → α → Int) (gap : Int)
theorem dL_nil (ys : List α) : dL w gap [] ys = (ys.length : Int) * gap := by rw [dL]
theorem dL_nil' (xs : List α) : dL w gap xs [] = (xs.length : Int) * gap := by cases xs <;> rw [dL] <;> rfl
theorem dL_cons (x y : α) (xs ys : List α) : dL w gap (x :: xs) (y :: ys) = min (min (dL w gap xs ys + w x y) (dL w gap xs (y :: ys) + gap)) (dL w gap (x :: xs) ys + gap) := by rw [dL]
theorem dL_nonneg (hg : 0 ≤ gap) (hw : ∀ x y, 0 ≤ w x y) : ∀ xs ys, 0 ≤ dL w gap xs ys := by
  refine two_ind (fun ys => ?_) (fun x xs => ?_) (fun x xs y ys h1 h2 h3 => ?_)
  · rw [dL_nil]; exact Int.mul_nonneg (by omega) hg
  · rw [dL_nil']; exact Int.mul_nonneg (by omega) hg
  · rw [dL_cons]; have := hw x y; omega
theorem succ_mul_gap (n : Nat) : ((n + 1 : Nat) : Int) * gap = (n : Int) * gap + gap := by rw [Int.natCast_add, Int.add_mul]; simp
theorem dL_le : ∀ xs ys, dL w gap xs ys ≤ ((xs.length + ys.length : Nat) : Int) * gap := by
  refine two_ind (fun ys => ?_) (fun x xs => ?_) (fun x xs y ys h1 h2 h3 => ?_)
  · rw [dL_nil]; simp
  · rw [dL_nil']; simp
  · rw [dL_cons]
    have e : (((x :: xs).length + (y :: ys).length : Nat) : Int) * gap = ((xs.length + (y :: ys).length : Nat) : Int) * gap + gap := by
      rw [show (x :: xs).length + (y :: ys).length = (xs.length + (y :: ys).length) + 1 from by simp only [List.length_cons]; omega, succ_mul_gap]
    omega
def dR (X Y : List α) (i j : Nat) : Int := dL w gap (X.drop i) (Y.drop j)
theorem dR_endl (X Y : List α) (j : Nat) (h : j ≤ Y.length) : dR w gap X Y X.length j = ((Y.length : Int) - (j : Int)) * gap := by
  unfold dR
  rw [List.drop_of_length_le (Nat.le_refl _), dL_nil, List.length_drop]
  congr 1
  omega
theorem dR_endr (X Y : List α) (i : Nat) (h : i ≤ X.length) : dR w gap X Y i Y.length = ((X.length : Int) - (i : Int)) * gap := by
  unfold dR
  rw [List.drop_of_length_le (l := Y) (Nat.le_refl _), dL_nil', List.length_drop]
  congr 1
  omega
theorem dR_step (X Y : List α) (i j : Nat) (hi : i < X.length) (hj : j < Y.length) : dR w gap X Y i j = min (min (dR w gap X Y (i + 1) (j + 1) + w X[i] Y[j]) (dR w gap X Y (i + 1) j + gap)) (dR w gap X Y i (j + 1) + gap) := by
  unfold dR
  have e1 := List.drop_eq_getElem_cons hi
  have e2 := List.drop_eq_getElem_cons hj
  rw [e1, e2, dL_cons, ← e1, ← e2]
theorem dR_range (hg : 0 ≤ gap ∧ gap ≤ 1000) (hw : ∀ x y, 0 ≤ w x y) (X Y : List α) (hX : X.length ≤ 1024) (hY : Y.length ≤ 1024) (i j : Nat) : 0 ≤ dR w gap X Y i j ∧ dR w gap X Y i j ≤ 2048000 := by
  refine ⟨dL_nonneg w gap hg.1 hw _ _, Int.le_trans (dL_le w gap _ _) ?_⟩
  refine Int.le_trans (Int.mul_le_mul (c := 2048) (d := 1000) ?_ hg.2 hg.1 (by omega)) (by omega)
  rw [List.length_drop, List.length_drop]
  omega
end
/-! tables -/
def at2 (T : List (List Int)) (i j : Nat) : Int := (T.getD i []).getD j 0
def setT (T : List (List Int)) (i j : Nat) (v : Int) : List (List Int) := T.set i ((T.getD i []).set j v)
theorem getD_set_same {β : Type} (l : List β) (i : Nat) (h : i < l.length) (v d : β) : (l.set i v).getD i d = v := by
  rw [List.getD_eq_getElem?_getD, List.getElem?_set, if_pos rfl, if_pos h]; rfl
theorem getD_set_ne {β : Type} (l : List β) (i j : Nat) (h : i ≠ j) (v d : β) : (l.set i v).getD j d = l.getD j d := by
  rw [List.getD_eq_getElem?_getD, List.getElem?_set, if_neg h, ← List.getD_eq_getElem?_getD]
theorem getD_get {β : Type} (l : List β) (i : Nat) (h : i < l.length) (d : β) : l.getD i d = l[i] := by
  rw [List.getD_eq_getElem?_getD, List.getElem?_eq_getElem h]; rfl
structure Upd (T T' : List (List Int)) (i j : Nat) (v : Int) : Prop where
  len : T'.length = T.length
  lens : ∀ p, (T'.getD p []).length = (T.getD p []).length
  here : at2 T' i j = v
  else_ : ∀ p q, ¬ (p = i ∧ q = j) → at2 T' p q = at2 T p q
theorem upd_set (T : List (List Int)) (i j : Nat) (v : Int) (hi : i < T.length) (hj : j < (T.getD i []).length) : Upd T (setT T i j v) i j v := by
  refine ⟨by unfold setT; rw [List.length_set], fun p => ?_, ?_, fun p q h => ?_⟩
  · unfold setT
    by_cases e : i = p
    · subst e; rw [getD_set_same _ _ hi, List.length_set]
    · rw [getD_set_ne _ _ _ e]
  · unfold at2 setT
    rw [getD_set_same _ _ hi, getD_set_same _ _ hj]
  · unfold at2 setT
    by_cases e : i = p
    · subst e
      rw [getD_set_same _ _ hi, getD_set_ne _ _ _ (fun e => h ⟨rfl, e.symm⟩)]
    · rw [getD_set_ne _ _ _ e]
theorem Upd.trans {T T' T'' : List (List Int)} {i j : Nat} {a b : Int} (h : Upd T T' i j a) (g : Upd T' T'' i j b) : Upd T T'' i j b :=
  ⟨g.len.trans h.len, fun p => (g.lens p).trans (h.lens p), g.here, fun p q e => (g.else_ p q e).trans (h.else_ p q e)⟩
/-! the grid -/
def wO (n f o : Int) (x y : ByteArray) : Int := twoP x (fd x o) y (fd y o) n f
def gridP (X Y : List ByteArray) (n f o : Int) : List (List Int) := X.map fun x => Y.map fun y => wO n f o x y
theorem grid_len (X Y : List ByteArray) (n f o : Int) : (gridP X Y n f o).length = X.length := by unfold gridP; rw [List.length_map]
theorem grid_row (X Y : List ByteArray) (n f o : Int) (i : Nat) (h : i < X.length) : (gridP X Y n f o).getD i [] = Y.map fun y => wO n f o X[i] y := by
  rw [getD_get _ _ (by rw [grid_len]; exact h)]
  unfold gridP
  rw [List.getElem_map]
theorem grid_rlen (X Y : List ByteArray) (n f o : Int) (i : Nat) (h : i < X.length) : ((gridP X Y n f o).getD i []).length = Y.length := by rw [grid_row _ _ _ _ _ _ h, List.length_map]
theorem grid_at (X Y : List ByteArray) (n f o : Int) (i j : Nat) (h : i < X.length) (hj : j < Y.length) : at2 (gridP X Y n f o) i j = wO n f o X[i] Y[j] := by
  unfold at2
  rw [grid_row _ _ _ _ _ _ h, getD_get _ _ (by rw [List.length_map]; exact hj), List.getElem_map]
theorem wO_range (n f o : Int) (hn : 1 ≤ n) (hf : 1 ≤ f ∧ f ≤ 1000) (x y : ByteArray) : 0 ≤ wO n f o x y ∧ wO n f o x y ≤ 1000 := by
  have := two_range x (fd x o) y (fd y o) n f hn hf.1
  unfold wO
  omega
def longL (L : List ByteArray) (o : Int) : Prop := 1024 < L.length ∨ L.any (fun s => longW s o) = true
instance (L : List ByteArray) (o : Int) : Decidable (longL L o) := by unfold longL; infer_instance
theorem folded_long (L : List ByteArray) (o : Int) : foldedP L o = if longL L o then ([], 1) else (L.map (wordOf o), 0) := by
  unfold foldedP
  by_cases h : 1024 < L.length
  · rw [if_pos h, if_pos (show longL L o from Or.inl h)]
  · by_cases h2 : L.any (fun s => longW s o) = true
    · rw [if_neg h, if_pos h2, if_pos (show longL L o from Or.inr h2)]
    · rw [if_neg h, if_neg h2, if_neg (fun e : longL L o => Or.elim e h h2)]
theorem not_long {L : List ByteArray} {o : Int} (h : ¬ longL L o) : L.length ≤ 1024 ∧ ∀ s ∈ L, ¬ longW s o = true := by
  unfold longL at h
  refine ⟨by omega, fun s hs e => h (Or.inr (List.any_eq_true.2 ⟨s, hs, e⟩))⟩
def gridR (X Y : List ByteArray) (g n f o : Int) : List (List Int) × Int := if scaleOk g n f o then (if longL X o ∨ longL Y o then ([], 1) else (gridP X Y n f o, 0)) else ([], 90)
def smallL (L : List ByteArray) : Prop := ∀ s ∈ L, s.size ≤ 1048576
section
variable (X Y : List ByteArray) (g n f o : Int) (hn : 1 ≤ n ∧ n ≤ 1000) (hX : smallL X) (hY : smallL Y) (lX : ¬ longL X o) (lY : ¬ longL Y o)
include hn hX hY lX lY
theorem grid_two (i j : Nat) (hi : i < X.length) (hj : j < Y.length) : Ev (fun k => cost_two.f k X[i] (fd X[i] o) Y[j] (fd Y[j] o) g n f o) (wO n f o X[i] Y[j]) := by
  have z1 := fd_size X[i] o
  have z2 := fd_size Y[j] o
  have s1 := hX _ (List.getElem_mem hi)
  have s2 := hY _ (List.getElem_mem hj)
  exact ev_at 30000000 fun k hk => two_eq X[i] (fd X[i] o) Y[j] (fd Y[j] o) g n f o hn (by omega) (by omega) (short_of _ _ ((not_long lX).2 _ (List.getElem_mem hi))) (short_of _ _ ((not_long lY).2 _ (List.getElem_mem hj))) k hk
theorem grid_l1 (i : Nat) (hi : i < X.length) (R : List (List Int) × Int)
    (ih : ∀ T : List (List Int), T.length = X.length → (∀ p, p < i + 1 → T.getD p [] = (gridP X Y n f o).getD p []) → Ev (fun k => cost_Grid.l0 k (Y.map (wordOf o)) T (X.map (wordOf o)) (X.length : Int) ((i + 1 : Nat) : Int) g n f o) R) :
    ∀ (d j : Nat) (T : List (List Int)), j + d = Y.length → T.length = X.length → (∀ p, p < i → T.getD p [] = (gridP X Y n f o).getD p []) → (T.getD i []).length = Y.length → (∀ q, q < j → at2 T i q = at2 (gridP X Y n f o) i q) →
    Ev (fun k => cost_Grid.l1 k (Y.map (wordOf o)) T (i : Int) (X.map (wordOf o)) (X.length : Int) (i : Int) (Y.map (wordOf o)) (Y.length : Int) (j : Int) g n f o X[i] (fd X[i] o)) R
  | 0, j, T, hd, hT, hp, hr, hq => by
    have l1 := (not_long lX).1
    refine Ev.step (fun k => by rw [cost_Grid.l1, if_neg (by omega), wsucc i (by omega)]) (ih T hT fun p hp' => ?_)
    by_cases e : p = i
    · subst e
      refine List.ext_getElem (by rw [hr, grid_rlen _ _ _ _ _ _ hi]) fun q h1 h2 => ?_
      have := hq q (by omega)
      unfold at2 at this
      rwa [getD_get _ _ h1, getD_get _ _ h2] at this
    · exact hp p (by omega)
  | d + 1, j, T, hd, hT, hp, hr, hq => by
    have l2 := (not_long lY).1
    have hj : j < Y.length := by omega
    have hjm : j < (Y.map (wordOf o)).length := by rw [List.length_map]; exact hj
    refine Ev.step (fun k => by
      rw [cost_Grid.l1, if_pos (by omega), if_pos (by omega), if_pos (by rw [List.length_map]; omega), if_pos (by omega), if_pos (by omega), rdW_nat _ j hjm, List.getElem_map]; rfl) (ev_bind (f := fun k t => if (j : Int) < ((rd_L11 T (i : Int)).length : Int) then cost_Grid.l1 k (Y.map (wordOf o)) (T.set (i : Int).toNat ((rd_L11 T (i : Int)).set (j : Int).toNat t)) (i : Int) (X.map (wordOf o)) (X.length : Int) (i : Int) (Y.map (wordOf o)) (Y.length : Int) (wrap64 ((j : Int) + 1)) g n f o X[i] (fd X[i] o) else none) (grid_two X Y g n f o hn hX hY lX lY i j hi hj) ?_)
    have hr' : (rd_L11 T (i : Int)).length = Y.length := hr
    have u := upd_set T i j (wO n f o X[i] Y[j]) (by omega) (by omega)
    refine Ev.congr (fun k => by rw [if_pos (by omega), wsucc j (by omega)]; rfl) (grid_l1 i hi R ih d (j + 1) (setT T i j (wO n f o X[i] Y[j])) (by omega) (u.len.trans hT) (fun p hp' => ?_) ((u.lens i).trans hr) (fun q hq' => ?_))
    · rw [← hp p hp']
      unfold setT
      rw [getD_set_ne _ _ _ (by omega)]
    · by_cases e : q = j
      · subst e; rw [u.here, grid_at _ _ _ _ _ _ _ hi hj]
      · rw [u.else_ i q (fun h => e h.2), hq q (by omega)]
theorem grid_l0 : ∀ (d i : Nat) (T : List (List Int)), i + d = X.length → T.length = X.length → (∀ p, p < i → T.getD p [] = (gridP X Y n f o).getD p []) →
    Ev (fun k => cost_Grid.l0 k (Y.map (wordOf o)) T (X.map (wordOf o)) (X.length : Int) (i : Int) g n f o) (gridP X Y n f o, 0)
  | 0, i, T, hd, hT, hp => by
    have e : T = gridP X Y n f o := by
      refine List.ext_getElem (by rw [hT, grid_len]) fun p h1 h2 => ?_
      have := hp p (by omega)
      rwa [getD_get _ _ h1, getD_get _ _ h2] at this
    exact Ev.step (f := fun _ => some (gridP X Y n f o, 0)) (fun k => by rw [cost_Grid.l0, if_neg (by omega), e]) (Ev.now _)
  | d + 1, i, T, hd, hT, hp => by
    have l2 := (not_long lY).1
    have hi : i < X.length := by omega
    have him : i < (X.map (wordOf o)).length := by rw [List.length_map]; exact hi
    refine Ev.step (fun k => by
      rw [cost_Grid.l0, if_pos (by omega), if_pos (by omega), if_pos (by rw [List.length_map]; omega), if_pos (by omega), if_pos (by rw [List.length_map]; omega), if_pos (by omega), rdW_nat _ i him, List.getElem_map, Int.toNat_natCast, Int.toNat_natCast]) ?_
    have e : (Y.map (wordOf o)).length = Y.length := List.length_map _
    refine Ev.congr (fun k => by rw [e]; rfl) (grid_l1 X Y g n f o hn hX hY lX lY i hi _ (fun T' h1 h2 => grid_l0 d (i + 1) T' (by omega) h1 h2) Y.length 0 (T.set i (List.replicate Y.length 0)) (by omega) (by rw [List.length_set]; exact hT) (fun p hp' => ?_) ?_ (fun q hq => by omega))
    · rw [getD_set_ne _ _ _ (by omega)]; exact hp p hp'
    · rw [getD_set_same _ _ (by omega), List.length_replicate]
end
theorem grid_eq (X Y : List ByteArray) (hX : smallL X) (hY : smallL Y) (g n f o : Int) : Ev (fun k => cost_Grid.f k X Y g n f o) (gridR X Y g n f o) := by
  unfold gridR
  by_cases hs : scaleOk g n f o
  · have hs' := hs
    unfold scaleOk at hs'
    obtain ⟨_, hn, _, ho⟩ := hs'
    rw [if_pos hs]
    have e : ∀ k, cost_Grid.f k X Y g n f o = _ := fun k => by unfold cost_Grid.f; rw [check_eq, if_pos hs, Option.bind_some, if_pos rfl]
    refine Ev.congr e (ev_bind (ev_at 1025 fun k hk => folded_eq X hX g n f o ho k hk) ?_)
    rw [folded_long]
    by_cases lX : longL X o
    · rw [if_pos lX, if_pos (Or.inl lX)]
      exact Ev.congr (fun k => by rw [if_neg (by decide)]) (Ev.now _)
    · rw [if_neg lX]
      refine Ev.congr (fun k => by rw [if_pos rfl]) (ev_bind (ev_at 1025 fun k hk => folded_eq Y hY g n f o ho k hk) ?_)
      rw [folded_long]
      by_cases lY : longL Y o
      · rw [if_pos lY, if_pos (Or.inr lY)]
        exact Ev.congr (fun k => by rw [if_neg (by decide)]) (Ev.now _)
      · rw [if_neg lY, if_neg (fun h => h.elim lX lY)]
        have l1 := (not_long lX).1
        have em : (X.map (wordOf o)).length = X.length := List.length_map _
        refine Ev.congr (f := fun k => cost_Grid.l0 k (Y.map (wordOf o)) (List.replicate X.length []) (X.map (wordOf o)) (X.length : Int) ((0 : Nat) : Int) g n f o) (fun k => by rw [if_pos rfl]; dsimp only; rw [em, if_pos (by omega), if_pos (by omega), Int.toNat_natCast]; rfl) ?_
        exact grid_l0 X Y g n f o hn hX hY lX lY X.length 0 (List.replicate X.length []) (by omega) (by rw [List.length_replicate]) (fun p hp => by omega)
  · rw [if_neg hs]
    exact Ev.congr (fun k => by unfold cost_Grid.f; rw [check_eq, if_neg hs, Option.bind_some, if_neg (by decide)]) (Ev.now _)
theorem gridR_ok {X Y : List ByteArray} {g n f o : Int} (h : (gridR X Y g n f o).2 = 0) : gridR X Y g n f o = (gridP X Y n f o, 0) ∧ scaleOk g n f o ∧ X.length ≤ 1024 ∧ Y.length ≤ 1024 := by
  unfold gridR at h ⊢
  by_cases hs : scaleOk g n f o
  · rw [if_pos hs] at h ⊢
    by_cases hl : longL X o ∨ longL Y o
    · rw [if_pos hl] at h; cases h
    · rw [if_neg hl]
      exact ⟨rfl, hs, (not_long (fun e => hl (Or.inl e))).1, (not_long (fun e => hl (Or.inr e))).1⟩
  · rw [if_neg hs] at h; cases h
end Go.Proofs.YtbpinnanfanaaaaDoor.Pure
/-
  What one word more does to the least price of two lists.
-/
namespace Go.Proofs.YtbpinnanfanaaaaDoor.Pure
open Go.RowKit Go.Proofs.YtbpinnanfanaaaaDoor.L Go.Proofs.YtbpinnanfanaaaaDoorW.PrintWords Go.Proofs.YtbpinnanfanaaaaDoorW.PrintLast Go.Proofs.YtbpinnanfanaaaaDoorW.PrintMore
theorem dL_addr {α : Type} (w : α → α → Int) (gap : Int) (X : List α) (y : α) (Y : List α) : dL w gap X (y :: Y) ≤ dL w gap X Y + gap := by
  cases X with
  | nil => rw [dL_nil, dL_nil, List.length_cons, succ_mul_gap]; omega
  | cons x xs => rw [dL_cons]; omega
theorem dL_addl {α : Type} (w : α → α → Int) (gap : Int) (x : α) (X Y : List α) : dL w gap (x :: X) Y ≤ dL w gap X Y + gap := by
  cases Y with
  | nil => rw [dL_nil', dL_nil', List.length_cons, succ_mul_gap]; omega
  | cons y ys => rw [dL_cons]; omega
def dP {α : Type} (w : α → α → Int) (gap : Int) (X Y : List α) (i j : Nat) : Int := dL w gap (X.take i).reverse (Y.take j).reverse
theorem dP_row {α : Type} (w : α → α → Int) (gap : Int) (X Y : List α) (j : Nat) (h : j ≤ Y.length) : dP w gap X Y 0 j = (j : Int) * gap := by
  unfold dP
  rw [List.take_zero, List.reverse_nil, dL_nil, List.length_reverse, List.length_take, Nat.min_eq_left h]
theorem dP_col {α : Type} (w : α → α → Int) (gap : Int) (X Y : List α) (i : Nat) (h : i ≤ X.length) : dP w gap X Y i 0 = (i : Int) * gap := by
  unfold dP
  rw [List.take_zero, List.reverse_nil, dL_nil', List.length_reverse, List.length_take, Nat.min_eq_left h]
theorem take_rev {α : Type} (X : List α) (i : Nat) (h : i < X.length) : (X.take (i + 1)).reverse = X[i] :: (X.take i).reverse := by
  rw [List.take_succ_eq_append_getElem h, List.reverse_append]
  rfl
theorem dP_step {α : Type} (w : α → α → Int) (gap : Int) (X Y : List α) (i j : Nat) (hi : i < X.length) (hj : j < Y.length) : dP w gap X Y (i + 1) (j + 1) = min (min (dP w gap X Y i j + w X[i] Y[j]) (dP w gap X Y i (j + 1) + gap)) (dP w gap X Y (i + 1) j + gap) := by
  unfold dP
  rw [take_rev X i hi, take_rev Y j hj, dL_cons]
theorem dP_range {α : Type} (w : α → α → Int) (gap : Int) (hg : 0 ≤ gap ∧ gap ≤ 1000) (hw : ∀ x y, 0 ≤ w x y) (X Y : List α) (hX : X.length ≤ 1024) (hY : Y.length ≤ 1024) (i j : Nat) : 0 ≤ dP w gap X Y i j ∧ dP w gap X Y i j ≤ 2048000 := by
  unfold dP
  have h := dR_range w gap hg hw (X.take i).reverse (Y.take j).reverse (by rw [List.length_reverse, List.length_take]; omega) (by rw [List.length_reverse, List.length_take]; omega) 0 0
  unfold dR at h
  rwa [List.drop_zero, List.drop_zero] at h
end Go.Proofs.YtbpinnanfanaaaaDoor.Pure
/-
  What makes little work: the document's own question has an answer.
-/
namespace Go.Proofs.YtbpinnanfanaaaaDoor.Pure
open Go.RowKit Go.Proofs.YtbpinnanfanaaaaDoor.L Go.Proofs.YtbpinnanfanaaaaDoorW.PrintWords Go.Proofs.YtbpinnanfanaaaaDoorW.PrintLast Go.Proofs.YtbpinnanfanaaaaDoorW.PrintMore
/-! little work -/
theorem weight_loop (L : List ByteArray) (hL : L.length ≤ 1024) (hs : smallL L) : ∀ (d x : Nat) (s : Int), x + d = L.length → 0 ≤ s ∧ s ≤ 2000 + 1048576 * x → ∃ r, 0 ≤ r ∧ r ≤ 2000 + 1048576 * 1024 ∧ Ev (fun k => siglumref09_Weight.l0 k L s (x : Int)) r := by
  intro d
  induction d with
  | zero =>
    intro x s hd h
    exact ⟨s, h.1, by omega, Ev.step (f := fun _ => some s) (fun k => by rw [siglumref09_Weight.l0, if_neg (by omega)]) (Ev.now _)⟩
  | succ d IH =>
    intro x s hd h
    have hx : x < L.length := by omega
    have h1 := hs _ (List.getElem_mem hx)
    obtain ⟨r, a, b, c⟩ := IH (x + 1) (s + (L[x].size : Int)) (by omega) (by omega)
    refine ⟨r, a, b, Ev.step (fun k => ?_) c⟩
    rw [siglumref09_Weight.l0, if_pos (by omega), if_pos (by omega), rdOf_nat L x hx, ws (s + (L[x].size : Int)) (by omega) (by omega), wsucc x (by omega)]
theorem little_any (a b : Int) : ∃ r, Ev (fun k => siglumref09_Little.f k [a, b]) r := by
  have r0 : rd [a, b] 0 = a := rfl
  have r1 : rd [a, b] 1 = b := rfl
  have w2 : wrap64 (1 + 1) = 2 := by rw [ws _ (by decide) (by decide)]; rfl
  have w1 : wrap64 (0 + 1) = 1 := by rw [ws _ (by decide) (by decide)]; rfl
  have last : ∀ x3 x4 : Int, ∃ r, Ev (fun k => siglumref09_Little.l0 k [a, b] x3 x4 2) r := fun x3 x4 =>
    ⟨true, Ev.step (f := fun _ => some true) (fun k => by rw [siglumref09_Little.l0, if_neg (by show ¬ (2 : Int) < 2; omega)]) (Ev.now _)⟩
  have second : ∀ x3 x4 : Int, ∃ r, Ev (fun k => siglumref09_Little.l0 k [a, b] x3 x4 1) r := by
    intro x3 x4
    by_cases h3 : x3 > 0
    · by_cases h4 : b > wrap64 (Int.tdiv x4 x3)
      · exact ⟨false, Ev.step (f := fun _ => some false) (fun k => by rw [siglumref09_Little.l0, if_pos (by show (1 : Int) < 2; omega), if_pos h3, if_pos (by omega), if_neg (by omega), r1, if_pos h4]) (Ev.now _)⟩
      · obtain ⟨r, hr⟩ := last (wrap64 (x3 + b)) (wrap64 (x4 - wrap64 (x3 * b)))
        exact ⟨r, Ev.step (fun k => by rw [siglumref09_Little.l0, if_pos (by show (1 : Int) < 2; omega), if_pos h3, if_pos (by omega), if_neg (by omega), r1, if_neg h4, w2]) hr⟩
    · obtain ⟨r, hr⟩ := last (wrap64 (x3 + b)) (wrap64 (x4 - wrap64 (x3 * b)))
      exact ⟨r, Ev.step (fun k => by rw [siglumref09_Little.l0, if_pos (by show (1 : Int) < 2; omega), if_neg h3, if_pos (by omega), r1, w2]) hr⟩
  obtain ⟨r, hr⟩ := second (wrap64 (0 + a)) (wrap64 (4000000 - wrap64 (0 * a)))
  exact ⟨r, Ev.step (g := fun k => siglumref09_Little.l0 k [a, b] 0 4000000 0) (fun k => by rw [siglumref09_Little.l0, if_pos (by show (0 : Int) < 2; omega), if_neg (by omega), if_pos (by omega), r0, w1]) hr⟩
theorem light_any (X Y : List ByteArray) (hX : smallL X) (hY : smallL Y) : ∃ r, Ev (fun k => siglumref09_Light.f k X Y) r := by
  by_cases h1 : (X.length : Int) > 1024
  · exact ⟨true, Ev.congr (fun k => by unfold siglumref09_Light.f; rw [if_pos h1]) (Ev.now _)⟩
  · by_cases h2 : (Y.length : Int) > 1024
    · exact ⟨true, Ev.congr (fun k => by unfold siglumref09_Light.f; rw [if_neg h1, if_pos h2]) (Ev.now _)⟩
    · obtain ⟨a, a0, a1, ha⟩ := weight_loop X (by omega) hX X.length 0 (X.length : Int) (by omega) (by omega)
      obtain ⟨b, b0, b1, hb⟩ := weight_loop Y (by omega) hY Y.length 0 (Y.length : Int) (by omega) (by omega)
      obtain ⟨r, hr⟩ := little_any a b
      have ha' : Ev (fun k => siglumref09_Weight.f k X) a := ha
      have hb' : Ev (fun k => siglumref09_Weight.f k Y) b := hb
      refine ⟨r, Ev.congr (f := fun k => (siglumref09_Weight.f k X).bind fun s => (siglumref09_Weight.f k Y).bind fun t => (siglumref09_Little.f k [s, t]).bind fun u => some u) (fun k => by unfold siglumref09_Light.f; rw [if_neg h1, if_neg h2]) ?_⟩
      exact ev_bind ha' (ev_bind hb' (ev_bind hr (Ev.now _)))
end Go.Proofs.YtbpinnanfanaaaaDoor.Pure
/-
  slim.Least tells the least price; SlimMore: one word more costs at most a gap more or less.
-/
namespace Go.Proofs.YtbpinnanfanaaaaDoor.Pure
open Go.RowKit Go.Proofs.YtbpinnanfanaaaaDoor.L Go.Proofs.YtbpinnanfanaaaaDoorW.PrintWords Go.Proofs.YtbpinnanfanaaaaDoorW.PrintLast Go.Proofs.YtbpinnanfanaaaaDoorW.PrintMore
theorem smallSumS (L : List ByteArray) (h : (L.map fun y => (y.size + 1)).sum ≤ 1048576) : smallL L := by
  intro s hs
  have : ∀ (L : List ByteArray), s ∈ L → s.size + 1 ≤ (L.map fun y => (y.size + 1)).sum := by
    intro L
    induction L with
    | nil => intro h; cases h
    | cons y L ih =>
      intro h
      rw [List.map_cons, List.sum_cons]
      rcases List.mem_cons.1 h with rfl | h
      · omega
      · have := ih h; omega
  have := this L hs
  omega
theorem mnS (a b : Int) : mn a b = min a b := by unfold mn; split <;> omega
theorem rdS (R : List Int) (j : Nat) : rd R (j : Int) = R.getD j 0 := by unfold rd; rw [Int.toNat_natCast]
section
variable (X Y : List ByteArray) (g n f o : Int) (hg : 1 ≤ g ∧ g ≤ 1000) (hn : 1 ≤ n ∧ n ≤ 1000) (hf : 1 ≤ f ∧ f ≤ 1000) (hX : X.length ≤ 1024) (hY : Y.length ≤ 1024)
def AheadR (R : List Int) : Prop := R.length = Y.length + 1 ∧ ∀ p, p ≤ Y.length → R.getD p 0 = dP (wO n f o) g X Y X.length p
include hg hn hf hX hY
theorem dPw_range (i j : Nat) : 0 ≤ dP (wO n f o) g X Y i j ∧ dP (wO n f o) g X Y i j ≤ 2048000 := dP_range (wO n f o) g (by omega) (fun x y => (wO_range n f o hn.1 hf x y).1) X Y hX hY i j
theorem ahead_l2 (i : Nat) (hi : i < X.length) (cont : ∀ R : List Int, R.length = Y.length + 1 → (∀ p, p ≤ Y.length → R.getD p 0 = dP (wO n f o) g X Y (i + 1) p) → ∃ R', AheadR X Y g n f o R' ∧ Ev (fun k => slim_task_ahead.l1 k (X.length : Int) 0 (Y.length : Int) R ((i + 1 : Nat) : Int) (gridP X Y n f o) g) R') :
    ∀ (d j : Nat) (R : List Int), j + d = Y.length → R.length = Y.length + 1 → (∀ p, p ≤ j → R.getD p 0 = dP (wO n f o) g X Y (i + 1) p) → (∀ p, j < p → p ≤ Y.length → R.getD p 0 = dP (wO n f o) g X Y i p) → ∃ R', AheadR X Y g n f o R' ∧ Ev (fun k => slim_task_ahead.l2 k (X.length : Int) 0 (Y.length : Int) R (i : Int) (dP (wO n f o) g X Y i j) (j : Int) (gridP X Y n f o) g) R' := by
  intro d
  induction d with
  | zero =>
    intro j R hd hl h1 h2
    obtain ⟨R', hR', he⟩ := cont R hl (fun p hp => h1 p (by omega))
    exact ⟨R', hR', Ev.step (fun k => by rw [slim_task_ahead.l2, if_neg (by omega), wsucc i (by omega)]) he⟩
  | succ d IH =>
    intro j R hd hl h1 h2
    have hj : j < Y.length := by omega
    have r1 := dPw_range X Y g n f o hg hn hf hX hY i j
    have r2 := dPw_range X Y g n f o hg hn hf hX hY i (j + 1)
    have r3 := dPw_range X Y g n f o hg hn hf hX hY (i + 1) j
    have hw := wO_range n f o hn.1 hf X[i] Y[j]
    have hst := dP_step (wO n f o) g X Y i j hi hj
    have el : (rd_L11 (gridP X Y n f o) (i : Int)).length = Y.length := grid_rlen X Y n f o i hi
    have ev : rd (rd_L11 (gridP X Y n f o) (i : Int)) (j : Int) = wO n f o X[i] Y[j] := grid_at X Y n f o i j hi hj
    have eG := grid_len X Y n f o
    have q1 : rd R ((j + 1 : Nat) : Int) = dP (wO n f o) g X Y i (j + 1) := by rw [rdS]; exact h2 (j + 1) (by omega) (by omega)
    have q2 : rd R (j : Int) = dP (wO n f o) g X Y (i + 1) j := by rw [rdS]; exact h1 j (Nat.le_refl _)
    have w0 : Aside0 (wrap64 ((j : Int) - 0) = (j : Int)) := ⟨by rw [ws _ (by omega) (by omega)]; omega⟩
    have w1 : Aside0 (wrap64 ((j : Int) + 1) = ((j + 1 : Nat) : Int)) := ⟨wsucc j (by omega)⟩
    have w2 : Aside0 (wrap64 (((j + 1 : Nat) : Int) - 1) = (j : Int)) := ⟨by rw [ws _ (by omega) (by omega)]; omega⟩
    have w3 : Aside0 (wrap64 (dP (wO n f o) g X Y i j + wO n f o X[i] Y[j]) = dP (wO n f o) g X Y i j + wO n f o X[i] Y[j]) := ⟨ws _ (by omega) (by omega)⟩
    have w4 : Aside0 (wrap64 (dP (wO n f o) g X Y i (j + 1) + g) = dP (wO n f o) g X Y i (j + 1) + g) := ⟨ws _ (by omega) (by omega)⟩
    have w5 : Aside0 (wrap64 (dP (wO n f o) g X Y (i + 1) j + g) = dP (wO n f o) g X Y (i + 1) j + g) := ⟨ws _ (by omega) (by omega)⟩
    have HST := Aside0.mk hst
    clear hst r1 r2 r3 hw
    obtain ⟨R', hR', he⟩ := IH (j + 1) (R.set (j + 1) (dP (wO n f o) g X Y (i + 1) (j + 1))) (by omega) (by rw [List.length_set]; exact hl)
      (fun p hp => by
        by_cases e : p = j + 1
        · rw [e, getD_set_same R (j + 1) (by omega)]
        · rw [getD_set_ne R (j + 1) p (fun z => e z.symm)]; exact h1 p (by omega))
      (fun p hp hq => by rw [getD_set_ne R (j + 1) p (by omega)]; exact h2 p (by omega) hq)
    refine ⟨R', hR', Ev.step (fun k => ?_) he⟩
    generalize hGd : gridP X Y n f o = G at el ev eG ⊢
    have b0 : (0 : Int) ≤ (i : Int) := Int.natCast_nonneg i
    have b1 : (0 : Int) ≤ (j : Int) := Int.natCast_nonneg j
    have b2 : (j : Int) < (Y.length : Int) := Int.ofNat_lt.2 hj
    have b3 : (i : Int) < (G.length : Int) := by rw [eG]; exact Int.ofNat_lt.2 hi
    have b4 : (j : Int) < ((rd_L11 G (i : Int)).length : Int) := by rw [el]; exact b2
    have b5 : (0 : Int) ≤ ((j + 1 : Nat) : Int) := Int.natCast_nonneg _
    have b6 : ((j + 1 : Nat) : Int) < (R.length : Int) := by rw [hl]; exact Int.ofNat_lt.2 (Nat.succ_lt_succ hj)
    have b7 : (j : Int) < (R.length : Int) := by rw [hl]; exact Int.ofNat_lt.2 (Nat.lt_succ_of_lt hj)
    rw [slim_task_ahead.l2, if_pos b2, if_pos b0, if_pos b3, if_pos b1, if_pos b4, w0.out, w1.out, if_pos b5, if_pos b6, w2.out, if_pos b1, if_pos b7, ev, q1, q2, Int.toNat_natCast, mnS, mnS, w3.out, w4.out, w5.out, ← HST.out]
theorem ahead_l1 : ∀ (d i : Nat) (R : List Int), i + d = X.length → R.length = Y.length + 1 → (∀ p, p ≤ Y.length → R.getD p 0 = dP (wO n f o) g X Y i p) → ∃ R', AheadR X Y g n f o R' ∧ Ev (fun k => slim_task_ahead.l1 k (X.length : Int) 0 (Y.length : Int) R (i : Int) (gridP X Y n f o) g) R' := by
  intro d
  induction d with
  | zero =>
    intro i R hd hl h1
    have e : i = X.length := by omega
    exact ⟨R, ⟨hl, fun p hp => by rw [h1 p hp, e]⟩, Ev.step (f := fun _ => some R) (fun k => by rw [slim_task_ahead.l1, if_neg (by omega)]) (Ev.now _)⟩
  | succ d IH =>
    intro i R hd hl h1
    have hi : i < X.length := by omega
    have r0 := dPw_range X Y g n f o hg hn hf hX hY i 0
    have q0 : rd R 0 = dP (wO n f o) g X Y i 0 := by have := rdS R 0; rw [show ((0 : Nat) : Int) = 0 from rfl] at this; rw [this]; exact h1 0 (Nat.zero_le _)
    have c1 := dP_col (wO n f o) g X Y i (by omega)
    have c2 := dP_col (wO n f o) g X Y (i + 1) (by omega)
    have c3 : dP (wO n f o) g X Y (i + 1) 0 = dP (wO n f o) g X Y i 0 + g := by rw [c1, c2, succ_mul_gap]
    obtain ⟨R', hR', he⟩ := ahead_l2 X Y g n f o hg hn hf hX hY i hi (fun R1 l1 p1 => IH (i + 1) R1 (by omega) l1 p1) Y.length 0 (R.set 0 (dP (wO n f o) g X Y (i + 1) 0)) (by omega) (by rw [List.length_set]; exact hl)
      (fun p hp => by obtain rfl : p = 0 := by omega
                      rw [getD_set_same R 0 (by omega)])
      (fun p hp hq => by rw [getD_set_ne R 0 p (by omega)]; exact h1 p hq)
    refine ⟨R', hR', Ev.step (fun k => ?_) he⟩
    rw [slim_task_ahead.l1, if_pos (by omega), if_pos (by omega), q0, ws _ (by omega) (by omega), c3]
    rfl
theorem ahead_l0 : ∀ (d x : Nat) (R : List Int), x + d = Y.length + 1 → R.length = Y.length + 1 → (∀ p, p < x → R.getD p 0 = dP (wO n f o) g X Y 0 p) → ∃ R', AheadR X Y g n f o R' ∧ Ev (fun k => slim_task_ahead.l0 k 0 (X.length : Int) 0 (Y.length : Int) R ((Y.length + 1 : Nat) : Int) (x : Int) (gridP X Y n f o) g) R' := by
  intro d
  induction d with
  | zero =>
    intro x R hd hl h1
    obtain ⟨R', hR', he⟩ := ahead_l1 X Y g n f o hg hn hf hX hY X.length 0 R (by omega) hl (fun p hp => h1 p (by omega))
    exact ⟨R', hR', Ev.step (fun k => by rw [slim_task_ahead.l0, if_neg (by omega)]; rfl) he⟩
  | succ d IH =>
    intro x R hd hl h1
    have c := dP_row (wO n f o) g X Y x (by omega)
    have r := dPw_range X Y g n f o hg hn hf hX hY 0 x
    rw [c] at r
    obtain ⟨R', hR', he⟩ := IH (x + 1) (R.set x ((x : Int) * g)) (by omega) (by rw [List.length_set]; exact hl) (fun p hp => by
      by_cases e : p = x
      · rw [e, getD_set_same R x (by omega), c]
      · rw [getD_set_ne R x p (fun z => e z.symm)]; exact h1 p (by omega))
    refine ⟨R', hR', Ev.step (fun k => ?_) he⟩
    rw [slim_task_ahead.l0, if_pos (by omega), if_pos (by omega), if_pos (by omega), Int.toNat_natCast, ws _ (by omega) (by omega), wsucc x (by omega)]
theorem ahead_eq : ∃ R', AheadR X Y g n f o R' ∧ Ev (fun k => slim_task_ahead.f k (gridP X Y n f o) g 0 (X.length : Int) 0 (Y.length : Int)) R' := by
  obtain ⟨R', hR', he⟩ := ahead_l0 X Y g n f o hg hn hf hX hY (Y.length + 1) 0 (List.replicate (Y.length + 1) 0) (by omega) (by simp) (fun p hp => by omega)
  refine ⟨R', hR', Ev.congr (fun k => ?_) he⟩
  have w0 : wrap64 (wrap64 ((Y.length : Int) - 0) + 1) = ((Y.length + 1 : Nat) : Int) := by rw [ws ((Y.length : Int) - 0) (by omega) (by omega), show (Y.length : Int) - 0 = (Y.length : Int) by omega, wsucc _ (by omega)]
  unfold slim_task_ahead.f
  rw [w0, if_pos (by omega), Int.toNat_natCast, if_pos (by omega), Option.bind_some, List.length_replicate]
  rfl
end
def leastR (X Y : List ByteArray) (g n f o : Int) : Int × Int := if (gridR X Y g n f o).2 = 0 then (dP (wO n f o) g X Y X.length Y.length, 0) else (0, (gridR X Y g n f o).2)
theorem least_eq (X Y : List ByteArray) (hX : smallL X) (hY : smallL Y) (g n f o : Int) : Ev (fun k => slim_Least.f k X Y g n f o) (leastR X Y g n f o) := by
  unfold leastR
  refine ev_bind (f := fun k t => if t.2 = 0 then ((slim_task_ahead.f k t.1 g 0 (X.length : Int) 0 (Y.length : Int)).bind fun u => (if 0 ≤ (Y.length : Int) then (if (Y.length : Int) < (u.length : Int) then (some (rd u (Y.length : Int), 0)) else (none)) else (none))) else (some (0, t.2))) (grid_eq X Y hX hY g n f o) ?_
  by_cases h : (gridR X Y g n f o).2 = 0
  · obtain ⟨e, hs, l1, l2⟩ := gridR_ok h
    unfold scaleOk at hs
    obtain ⟨R, hR, he⟩ := ahead_eq X Y g n f o (by omega) (by omega) (by omega) l1 l2
    rw [if_pos h, e]
    refine Ev.congr (fun k => by rw [if_pos rfl]) (ev_bind he ?_)
    refine Ev.congr (f := fun _ => some (dP (wO n f o) g X Y X.length Y.length, 0)) (fun k => ?_) (Ev.now _)
    rw [if_pos (by omega), if_pos (by rw [hR.1]; omega), rdS, hR.2 _ (Nat.le_refl _)]
  · rw [if_neg h]
    exact Ev.congr (f := fun _ => some (0, (gridR X Y g n f o).2)) (fun k => by rw [if_neg h]) (Ev.now _)
def theS : ByteArray := ⟨#[116, 104, 101]⟩
def catS : ByteArray := ⟨#[99, 97, 116]⟩
def oldS : ByteArray := ⟨#[111, 108, 100]⟩
def ratS : ByteArray := ⟨#[114, 97, 116]⟩
theorem aw11_w : wO 1 3 0 theS theS = 0 ∧ wO 1 3 0 theS oldS = 3 ∧ wO 1 3 0 theS ratS = 3 ∧ wO 1 3 0 catS theS = 3 ∧ wO 1 3 0 catS oldS = 3 ∧ wO 1 3 0 catS ratS = 1 := by decide +kernel
theorem aw11_long : ¬ longL [theS, catS] 0 ∧ ¬ longL [theS, oldS, ratS] 0 := by decide +kernel
theorem aw11_val : dP (wO 1 3 0) 2 [theS, catS] [theS, oldS, ratS] 2 3 = 3 := by
  obtain ⟨h1, h2, h3, h4, h5, h6⟩ := aw11_w
  unfold dP
  simp [dL_cons, dL_nil, dL_nil', h1, h2, h3, h4, h5, h6, Int.min_def]
theorem awake11 : Ev (fun k => siglumlaw11_awake.f k) true := by
  have hs1 : smallL [theS, catS] := by intro s h; simp at h; rcases h with rfl | rfl <;> decide
  have hs2 : smallL [theS, oldS, ratS] := by intro s h; simp at h; rcases h with rfl | rfl | rfl <;> decide
  have e : leastR [theS, catS] [theS, oldS, ratS] 2 1 3 0 = (3, 0) := by
    have hg : gridR [theS, catS] [theS, oldS, ratS] 2 1 3 0 = (gridP [theS, catS] [theS, oldS, ratS] 1 3 0, 0) := by
      unfold gridR
      rw [if_pos (by decide), if_neg (fun h => h.elim aw11_long.1 aw11_long.2)]
    unfold leastR
    rw [hg, if_pos rfl]
    exact congrArg (fun z => (z, (0 : Int))) aw11_val
  have := least_eq [theS, catS] [theS, oldS, ratS] hs1 hs2 2 1 3 0
  rw [e] at this
  exact ev_bind (g := fun k => slim_Least.f k [theS, catS] [theS, oldS, ratS] 2 1 3 0) this (Ev.now _)
end Go.Proofs.YtbpinnanfanaaaaDoor.Pure
/-
  The least price read from the end is the least price read from the head.
-/
namespace Go.Proofs.YtbpinnanfanaaaaDoor.Pure
set_option linter.unusedVariables false
open Go.RowKit Go.Proofs.YtbpinnanfanaaaaDoor.L Go.Proofs.YtbpinnanfanaaaaDoorW.PrintWords Go.Proofs.YtbpinnanfanaaaaDoorW.PrintLast Go.Proofs.YtbpinnanfanaaaaDoorW.PrintMore
theorem nine (u v g p q r pB qB rB pC qC rC : Int) : min (min (min (min (p + v) (q + g)) (r + g) + u) (min (min (pB + v) (qB + g)) (rB + g) + g)) (min (min (pC + v) (qC + g)) (rC + g) + g) = min (min (min (min (p + u) (pB + g)) (pC + g) + v) (min (min (q + u) (qB + g)) (qC + g) + g)) (min (min (r + u) (rB + g)) (rC + g) + g) := by
  have d : ∀ a b c : Int, min a b + c = min (a + c) (b + c) := fun a b c => by omega
  have lc : ∀ a b c : Int, min a (min b c) = min b (min a c) := fun a b c => by omega
  have sa : ∀ a b c : Int, min (min a b) c = min a (min b c) := fun a b c => by omega
  simp only [d]
  rw [show p + v + u = p + u + v by omega, show q + g + u = q + u + g by omega, show r + g + u = r + u + g by omega, show pB + v + g = pB + g + v by omega, show pC + v + g = pC + g + v by omega]
  simp only [sa]
  simp only [lc]
set_option maxHeartbeats 2000000 in
theorem dL_snoc {α : Type} (w : α → α → Int) (gap : Int) (hg : 0 ≤ gap) (hw : ∀ x y, 0 ≤ w x y) (x y : α) : ∀ X Y, dL w gap (X ++ [x]) (Y ++ [y]) = min (min (dL w gap X Y + w x y) (dL w gap X (Y ++ [y]) + gap)) (dL w gap (X ++ [x]) Y + gap) := by
  have one : ∀ Y, dL w gap ([] ++ [x]) (Y ++ [y]) = min (min (dL w gap [] Y + w x y) (dL w gap [] (Y ++ [y]) + gap)) (dL w gap ([] ++ [x]) Y + gap) := by
    intro Y
    induction Y with
    | nil => rw [List.nil_append, List.nil_append, dL_cons]
    | cons z Z ih =>
      rw [List.nil_append] at ih ⊢
      rw [List.cons_append, dL_cons, ih, dL_cons]
      have e1 : dL w gap [] (z :: (Z ++ [y])) = dL w gap [] (Z ++ [y]) + gap := by rw [dL_nil, dL_nil, List.length_cons, succ_mul_gap]
      have e2 : dL w gap [] (z :: Z) = dL w gap [] Z + gap := by rw [dL_nil, dL_nil, List.length_cons, succ_mul_gap]
      have e3 : dL w gap [] (Z ++ [y]) = dL w gap [] Z + gap := by rw [dL_nil, dL_nil, List.length_append, List.length_singleton, succ_mul_gap]
      rw [e1, e2, e3]
      omega
  refine two_ind one (fun z Z => ?_) (fun z Z t T h1 h2 h3 => ?_)
  · -- the second list is empty
    have : ∀ X, dL w gap (X ++ [x]) ([] ++ [y]) = min (min (dL w gap X [] + w x y) (dL w gap X ([] ++ [y]) + gap)) (dL w gap (X ++ [x]) [] + gap) := by
      intro X
      induction X with
      | nil => rw [List.nil_append, List.nil_append, dL_cons]
      | cons z Z ih =>
        rw [List.nil_append] at ih ⊢
        rw [List.cons_append, dL_cons, ih, dL_cons]
        have e1 : dL w gap (z :: (Z ++ [x])) [] = dL w gap (Z ++ [x]) [] + gap := by rw [dL_nil', dL_nil', List.length_cons, succ_mul_gap]
        have e2 : dL w gap (z :: Z) [] = dL w gap Z [] + gap := by rw [dL_nil', dL_nil', List.length_cons, succ_mul_gap]
        have e3 : dL w gap (Z ++ [x]) [] = dL w gap Z [] + gap := by rw [dL_nil', dL_nil', List.length_append, List.length_singleton, succ_mul_gap]
        rw [e1, e2, e3]
        omega
    exact this (z :: Z)
  · rw [List.cons_append, List.cons_append, dL_cons w gap z t (Z ++ [x]) (T ++ [y])]
    rw [List.cons_append] at h2 h3
    rw [h1, h2, h3, dL_cons w gap z t Z T, dL_cons w gap z t Z (T ++ [y]), dL_cons w gap z t (Z ++ [x]) T]
    exact nine _ _ _ _ _ _ _ _ _ _ _ _
theorem dL_reverse {α : Type} (w : α → α → Int) (gap : Int) (hg : 0 ≤ gap) (hw : ∀ x y, 0 ≤ w x y) : ∀ X Y, dL w gap X.reverse Y.reverse = dL w gap X Y := by
  refine two_ind (fun ys => ?_) (fun x xs => ?_) (fun x xs y ys h1 h2 h3 => ?_)
  · rw [List.reverse_nil, dL_nil, dL_nil, List.length_reverse]
  · rw [List.reverse_nil, dL_nil', dL_nil', List.length_reverse]
  · rw [List.reverse_cons, List.reverse_cons, dL_snoc w gap hg hw, h1, ← List.reverse_cons, h2, ← List.reverse_cons, h3, dL_cons]
theorem dP_all {α : Type} (w : α → α → Int) (gap : Int) (hg : 0 ≤ gap) (hw : ∀ x y, 0 ≤ w x y) (X Y : List α) : dP w gap X Y X.length Y.length = dL w gap X Y := by
  unfold dP
  rw [List.take_length, List.take_length, dL_reverse w gap hg hw]
end Go.Proofs.YtbpinnanfanaaaaDoor.Pure
/-
  What a rune becomes, becomes itself; so a valid text that is folded is folded already.
-/
namespace Go.Proofs.YtbpinnanfanaaaaDoor.Pure
open Go.RowKit Go.Proofs.YtbpinnanfanaaaaDoor.L Go.Proofs.YtbpinnanfanaaaaDoorW.PrintWords Go.Proofs.YtbpinnanfanaaaaDoorW.PrintLast Go.Proofs.YtbpinnanfanaaaaDoorW.PrintMore
/-! a rune's bytes are read as that rune -/
def okR (r : Nat) : Prop := r < 55296 ∨ (57343 < r ∧ r ≤ 1114111)
/-! what a rune becomes -/
theorem step_eq (o x : Int) : stepI o x = (let a := if fOn o 1 = true then lowerI x else x; let b := if fOn o 2 = true then unmarkedI a else a; if fOn o 8 = true then letterI b else b) := by
  unfold stepI stepsL
  cases fOn o 1 <;> cases fOn o 2 <;> cases fOn o 8 <;> simp [stepN]
def outR (o x : Int) : List Int := if foldDrop o x = true then [] else (foldS o x).map (stepI o)
theorem foldR_out (o x : Int) : foldR o x = (outR o x).flatMap fun y => Lib.encodeRune y := by
  unfold foldR outR foldB
  by_cases h : foldDrop o x = true
  · rw [if_pos h, if_pos h]; rfl
  · rw [if_neg h, if_neg h]
    rw [List.flatMap_map]
    exact congrArg (fun g => List.flatMap g (foldS o x)) (funext fun y => Utf.encode_list _)
def oddL : List Nat := [376, 338, 339, 383, 306, 307, 64256, 64257, 64258, 64259, 64260, 64261, 64262]
def midQ (x : Nat) : Bool :=
  let y := lowerI (x : Int)
  decide (y = (x : Int)) || (decide (256 ≤ y) && decide (y < 8000) && decide (lowerI y = y) && decide (kindI y ≠ 4) && decide (kindI y ≠ 2) && decide (ligI y = none))
theorem mid_tab : ∀ a b : Fin 90, let x := a.val * 90 + b.val; (decide (x < 256) || oddL.contains x || midQ x) = true := by decide +kernel
theorem mid (x : Nat) (h1 : 256 ≤ x) (h2 : x < 8100) (h3 : x ∉ oddL) : midQ x = true := by
  have := mid_tab ⟨x / 90, by omega⟩ ⟨x % 90, by omega⟩
  have e : x / 90 * 90 + x % 90 = x := by omega
  dsimp only at this
  rw [e] at this
  have a1 : decide (x < 256) = false := decide_eq_false (by omega)
  have a2 : oddL.contains x = false := by simpa using h3
  rw [a1, a2] at this
  simpa using this
theorem lower_big (x : Int) (h : 8100 ≤ x) : lowerI x = x := by
  have hj7 : ∀ k, fold_lower.j7 (k + 1) x false = some x := fun k => by rw [fold_lower.j7, if_neg (by decide), if_pos (by omega), if_neg (by omega)]
  have hj6 : ∀ k, fold_lower.j6 (k + 2) x false = some x := fun k => by rw [fold_lower.j6, if_neg (by decide), if_pos (by omega), decide_eq_false (by omega), hj7]
  have hj5 : ∀ k, fold_lower.j5 (k + 3) x false = some x := fun k => by rw [fold_lower.j5, if_neg (by decide), if_pos (by omega), decide_eq_false (by omega), hj6]
  have hj4 : ∀ k, fold_lower.j4 (k + 4) x false = some x := fun k => by rw [fold_lower.j4, if_neg (by decide), if_pos (by omega), decide_eq_false (by omega), hj5]
  have hj3 : ∀ k, fold_lower.j3 (k + 5) x false = some x := fun k => by rw [fold_lower.j3, if_neg (by decide), if_neg (by omega), if_neg (by omega), if_pos (by omega), decide_eq_false (by omega), hj4]
  have hj2 : ∀ k, fold_lower.j2 (k + 6) x false = some x := fun k => by rw [fold_lower.j2, if_neg (by decide), if_pos (by omega), decide_eq_false (by omega), hj3]
  have hj1 : ∀ k, fold_lower.j1 (k + 7) x false = some x := fun k => by rw [fold_lower.j1, if_neg (by decide), if_pos (by omega), if_neg (by omega), if_pos (by omega), decide_eq_false (by omega), hj2]
  have hj0 : ∀ k, fold_lower.j0 (k + 8) x false = some x := fun k => by rw [fold_lower.j0, if_neg (by decide), if_pos (by omega), if_neg (by omega), hj1]
  have hf : fold_lower.f 12 x = some x := by rw [fold_lower.f, if_pos (by omega), decide_eq_false (by omega), hj0 4]
  unfold lowerI
  rw [hf]
  rfl
end Go.Proofs.YtbpinnanfanaaaaDoor.Pure
