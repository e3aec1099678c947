import Derived.Test.YtcpbalnbgmjhjaaDoorV618
import Derived.Test.YtcpbalnbgmjhjaaDoorV66
import Derived.Test.YtcpbalnbgmjhjaaDoorV67
import Derived.Test.YtcpbalnbgmjhjaaDoorV65
import Derived.Test.YtcpbalnbgmjhjaaDoorV69
import Derived.Test.YtcpbalnbgmjhjaaDoorV610
import Derived.Test.YtcpbalnbgmjhjaaDoorV611
import Derived.Lib.MapLaws
import Derived.Test.YtcpbalnbgmjhjaaDoorV616
/-
  What words cost, in plain numbers: a text folded; which are too long; what two words cost.
-/
namespace Go.Proofs.YtcpbalnbgmjhjaaDoor.Pure
open Go.RowKit Go.Proofs.YtcpbalnbgmjhjaaDoor.Q Go.Proofs.YtcpbalnbgmjhjaaDoorW.PrintWords Go.Proofs.YtcpbalnbgmjhjaaDoorW.PrintLast Go.Proofs.YtcpbalnbgmjhjaaDoorW.PrintMore
def fd (s : ByteArray) (o : Int) : ByteArray := ⟨(foldT o (gCells s s.size 0)).toArray⟩
theorem fd_size (s : ByteArray) (o : Int) : (fd s o).size ≤ 12 * s.size := by
  have h1 := foldT_len o (gCells s s.size 0)
  have h2 := Pl.cells_le s
  show (foldT o (gCells s s.size 0)).toArray.size ≤ _
  simp
  omega
theorem fold_eq (s : ByteArray) (o : Int) (hs : s.size ≤ 1048576) (ho : 0 ≤ o ∧ o ≤ 31) : fold_Text.f s o = some (fd s o, 0) := by
  have h2 := Pl.cells_le s
  unfold fold_Text.f glyph_Cells.f
  rw [if_pos ho, if_pos (by omega), Option.bind_some, if_pos ⟨fun c hc => Pl.cells_byte s s.size 0 c hc, by omega⟩]
  rfl
theorem count_eq (t : ByteArray) (ht : t.size ≤ 4294967296) : glyph_Count.f t = some (((cb t).length : Nat) : Int) := by
  unfold glyph_Count.f
  rw [if_pos ht, cb_len, Pl.cells_length]
def longW (s : ByteArray) (o : Int) : Bool := decide (256 < (cb (fd s o)).length)
def wordOf (o : Int) (s : ByteArray) : S73 := ⟨s, fd s o⟩
theorem rdW_nat (l : List S73) (i : Nat) (h : i < l.length) : rd_T73 l (i : Int) = l[i] := by
  unfold rd_T73
  rw [Int.toNat_natCast, List.getD_eq_getElem?_getD, List.getElem?_eq_getElem h]
  rfl
theorem folded_loop (L : List ByteArray) (hL : ∀ s ∈ L, s.size ≤ 1048576) (hl : L.length ≤ 1024) (g n f o : Int) (ho : 0 ≤ o ∧ o ≤ 31) : ∀ (d i k : Nat) (acc : List S73), i + d = L.length → acc.length = i → d + 1 ≤ k →
    cost_folded.l0 k acc L (L.length : Int) (i : Int) g n f o = some (if (L.drop i).any (fun s => longW s o) = true then ([], 1) else (acc ++ (L.drop i).map (wordOf o), 0))
  | 0, i, k, acc, hd, ha, hk => by
    obtain ⟨k, rfl⟩ : ∃ m, k = m + 1 := ⟨k - 1, by omega⟩
    rw [cost_folded.l0, if_neg (by omega), List.drop_of_length_le (by omega)]
    simp
  | d + 1, i, k, acc, hd, ha, hk => by
    obtain ⟨k, rfl⟩ : ∃ m, k = m + 1 := ⟨k - 1, by omega⟩
    have hi : i < L.length := by omega
    have hs := hL _ (List.getElem_mem hi)
    have hz := fd_size L[i] o
    have e2 : ((i + 1 : Nat) : Int) = (i : Int) + 1 := by omega
    rw [cost_folded.l0, if_pos (by omega), if_pos (by omega), if_pos (by omega), rdOf_nat L i hi, fold_eq _ _ hs ho, Option.bind_some]
    dsimp only
    rw [count_eq _ (by omega), Option.bind_some, List.drop_eq_getElem_cons hi, List.any_cons]
    by_cases hlg : 256 < (cb (fd L[i] o)).length
    · rw [if_pos (by omega)]
      have : longW L[i] o = true := decide_eq_true hlg
      rw [this]
      simp
    · have hf : longW L[i] o = false := decide_eq_false hlg
      rw [if_neg (by omega), if_pos (by omega), ws ((i : Int) + 1) (by omega) (by omega), ← e2, folded_loop L hL hl g n f o ho d (i + 1) k _ (by omega) (by simp; omega) (by omega), hf, List.map_cons]
      simp [wordOf]
def foldedP (L : List ByteArray) (o : Int) : List S73 × Int := if 1024 < L.length then ([], 1) else if L.any (fun s => longW s o) = true then ([], 1) else (L.map (wordOf o), 0)
theorem folded_eq (L : List ByteArray) (hL : ∀ s ∈ L, s.size ≤ 1048576) (g n f o : Int) (ho : 0 ≤ o ∧ o ≤ 31) (k : Nat) (hk : 1025 ≤ k) : cost_folded.f k L g n f o = some (foldedP L o) := by
  unfold cost_folded.f foldedP
  by_cases h : 1024 < L.length
  · rw [if_pos (by omega), if_pos h]
  · rw [if_neg (by omega), if_neg h]
    have := folded_loop L hL (by omega) g n f o ho L.length 0 k [] (by omega) rfl (by omega)
    simpa using this
def lostB : List UInt8 := [226, 151, 140]
def twoP (a ka b kb : ByteArray) (n f : Int) : Int := if ka.data.toList = kb.data.toList then 0 else if a.data.toList = lostB ∨ b.data.toList = lostB then min n f else min f (((Lv.lev (cb ka) (cb kb) : Nat) : Int) * n)
theorem lev_256 (x y : ByteArray) (hx : (cb x).length ≤ 256) (hy : (cb y).length ≤ 256) : Lv.lev (cb x) (cb y) ≤ 256 := by
  have := Lv.lev_max (cb x) (cb y)
  omega
theorem two_eq (a ka b kb : ByteArray) (g n f o : Int) (hn : 1 ≤ n ∧ n ≤ 1000) (h1 : ka.size ≤ 12582912) (h2 : kb.size ≤ 12582912) (l1 : (cb ka).length ≤ 256) (l2 : (cb kb).length ≤ 256) (k : Nat) (hk : 30000000 ≤ k) :
    cost_two.f k a ka b kb g n f o = some (twoP a ka b kb n f) := by
  unfold cost_two.f twoP lostB
  simp only [toList_data]
  by_cases e1 : ka.data.toList = kb.data.toList
  · rw [if_pos e1, if_pos e1]
  · rw [if_neg e1, if_neg e1]
    by_cases e2 : a.data.toList = [226, 151, 140]
    · rw [if_pos e2, if_pos (Or.inl e2), mn_eq]
    · rw [if_neg e2]
      by_cases e3 : b.data.toList = [226, 151, 140]
      · rw [if_pos e3, if_pos (Or.inr e3), mn_eq]
      · have hlv := lev_256 ka kb l1 l2
        have hb1 : 0 ≤ ((Lv.lev (cb ka) (cb kb) : Nat) : Int) * n := Int.mul_nonneg (by omega) (by omega)
        have hb2 : ((Lv.lev (cb ka) (cb kb) : Nat) : Int) * n ≤ 256 * 1000 := Int.mul_le_mul (by omega) (by omega) (by omega) (by omega)
        rw [if_neg e3, if_neg (fun h => h.elim e2 e3), of_eq ka kb (by omega) (by omega) k (by unfold kOf; omega), Option.bind_some]
        unfold dOf
        rw [if_pos ⟨l1, l2⟩]
        dsimp only
        rw [ws _ (by omega) (by omega), mn_eq]
def wP (a b : ByteArray) (g n f o : Int) : Int × Int := if scaleOk g n f o then (if longW a o = true ∨ longW b o = true then (0, 1) else (twoP a (fd a o) b (fd b o) n f, 0)) else (0, 90)
theorem short_of (s : ByteArray) (o : Int) (h : ¬ longW s o = true) : (cb (fd s o)).length ≤ 256 := by
  unfold longW at h
  simpa using h
theorem check_eq (g n f o : Int) : cost_Check.f g n f o = some (if scaleOk g n f o then 0 else 90) := rfl
theorem lev_pos (x y : ByteArray) (h : ¬ x.data.toList = y.data.toList) : 1 ≤ Lv.lev (cb x) (cb y) := by
  rcases Nat.eq_zero_or_pos (Lv.lev (cb x) (cb y)) with h0 | h0
  · exact absurd (by rw [← toList_data, ← toList_data]; exact (cb_inj x y).1 (Lv.lev_zero.1 h0)) h
  · exact h0
theorem two_range (a ka b kb : ByteArray) (n f : Int) (hn : 1 ≤ n) (hf : 1 ≤ f) : 0 ≤ twoP a ka b kb n f ∧ twoP a ka b kb n f ≤ f ∧ (twoP a ka b kb n f = 0 ↔ ka.data.toList = kb.data.toList) := by
  unfold twoP
  by_cases e1 : ka.data.toList = kb.data.toList
  · rw [if_pos e1]
    exact ⟨by omega, by omega, ⟨fun _ => e1, fun _ => rfl⟩⟩
  · rw [if_neg e1]
    by_cases e2 : a.data.toList = lostB ∨ b.data.toList = lostB
    · rw [if_pos e2]
      exact ⟨by omega, by omega, ⟨fun h => by omega, fun h => absurd h e1⟩⟩
    · rw [if_neg e2]
      have h1 := lev_pos ka kb e1
      have h2 : n ≤ ((Lv.lev (cb ka) (cb kb) : Nat) : Int) * n := by
        have := Int.mul_le_mul_of_nonneg_right (show (1 : Int) ≤ ((Lv.lev (cb ka) (cb kb) : Nat) : Int) by omega) (show (0 : Int) ≤ n by omega)
        omega
      exact ⟨by omega, by omega, ⟨fun h => by omega, fun h => absurd h e1⟩⟩
end Go.Proofs.YtcpbalnbgmjhjaaDoor.Pure
/-
  Two lists of words, in plain numbers: their grid; the least price of what is left of both; the alignment that is walked.
-/
namespace Go.Proofs.YtcpbalnbgmjhjaaDoor.Pure
open Go.RowKit Go.Proofs.YtcpbalnbgmjhjaaDoor.Q Go.Proofs.YtcpbalnbgmjhjaaDoorW.PrintWords Go.Proofs.YtcpbalnbgmjhjaaDoorW.PrintLast Go.Proofs.YtcpbalnbgmjhjaaDoorW.PrintMore
theorem ev_at {α : Type} {g : Nat → Option α} {r : α} (K : Nat) (h : ∀ k, K ≤ k → g k = some r) : Ev g r := ⟨K, h⟩
theorem ev_bind {α β : Type} {g : Nat → Option α} {f : Nat → α → Option β} {a : α} {r : β} (h : Ev g a) (k : Ev (fun n => f n a) r) : Ev (fun n => (g n).bind (f n)) r := Ev.bind h k
theorem wsucc (i : Nat) (h : i < 4611686018427387904) : wrap64 ((i : Int) + 1) = ((i + 1 : Nat) : Int) := by rw [ws _ (by omega) (by omega)]; omega
theorem two_ind {α : Type} {P : List α → List α → Prop} (h0 : ∀ ys, P [] ys) (h1 : ∀ x xs, P (x :: xs) []) (h2 : ∀ x xs y ys, P xs ys → P xs (y :: ys) → P (x :: xs) ys → P (x :: xs) (y :: ys)) : ∀ xs ys, P xs ys := by
  intro xs
  induction xs with
  | nil => exact h0
  | cons x xs ih =>
    intro ys
    induction ys with
    | nil => exact h1 x xs
    | cons y ys ih2 => exact h2 x xs y ys (ih ys) (ih (y :: ys)) ih2
/-! two lists -/
def dL {α : Type} (w : α → α → Int) (gap : Int) : List α → List α → Int
  | [], ys => (ys.length : Int) * gap
  | _ :: xs, [] => ((xs.length + 1 : Nat) : Int) * gap
  | x :: xs, y :: ys => min (min (dL w gap xs ys + w x y) (dL w gap xs (y :: ys) + gap)) (dL w gap (x :: xs) ys + gap)
termination_by xs ys => xs.length + ys.length
section
variable {α : Type} (w : α → α → Int) (gap : Int)
theorem dL_nil (ys : List α) : dL w gap [] ys = (ys.length : Int) * gap := by rw [dL]
theorem dL_nil' (xs : List α) : dL w gap xs [] = (xs.length : Int) * gap := by cases xs <;> rw [dL] <;> rfl
theorem dL_cons (x y : α) (xs ys : List α) : dL w gap (x :: xs) (y :: ys) = min (min (dL w gap xs ys + w x y) (dL w gap xs (y :: ys) + gap)) (dL w gap (x :: xs) ys + gap) := by rw [dL]
theorem dL_nonneg (hg : 0 ≤ gap) (hw : ∀ x y, 0 ≤ w x y) : ∀ xs ys, 0 ≤ dL w gap xs ys := by
  refine two_ind (fun ys => ?_) (fun x xs => ?_) (fun x xs y ys h1 h2 h3 => ?_)
  · rw [dL_nil]; exact Int.mul_nonneg (by omega) hg
  · rw [dL_nil']; exact Int.mul_nonneg (by omega) hg
  · rw [dL_cons]; have := hw x y; omega
theorem succ_mul_gap (n : Nat) : ((n + 1 : Nat) : Int) * gap = (n : Int) * gap + gap := by rw [Int.natCast_add, Int.add_mul]; simp
theorem dL_le : ∀ xs ys, dL w gap xs ys ≤ ((xs.length + ys.length : Nat) : Int) * gap := by
  refine two_ind (fun ys => ?_) (fun x xs => ?_) (fun x xs y ys h1 h2 h3 => ?_)
  · rw [dL_nil]; simp
  · rw [dL_nil']; simp
  · rw [dL_cons]
    have e : (((x :: xs).length + (y :: ys).length : Nat) : Int) * gap = ((xs.length + (y :: ys).length : Nat) : Int) * gap + gap := by
      rw [show (x :: xs).length + (y :: ys).length = (xs.length + (y :: ys).length) + 1 from by simp only [List.length_cons]; omega, succ_mul_gap]
    omega
def dR (X Y : List α) (i j : Nat) : Int := dL w gap (X.drop i) (Y.drop j)
theorem dR_endl (X Y : List α) (j : Nat) (h : j ≤ Y.length) : dR w gap X Y X.length j = ((Y.length : Int) - (j : Int)) * gap := by
  unfold dR
  rw [List.drop_of_length_le (Nat.le_refl _), dL_nil, List.length_drop]
  congr 1
  omega
theorem dR_endr (X Y : List α) (i : Nat) (h : i ≤ X.length) : dR w gap X Y i Y.length = ((X.length : Int) - (i : Int)) * gap := by
  unfold dR
  rw [List.drop_of_length_le (l := Y) (Nat.le_refl _), dL_nil', List.length_drop]
  congr 1
  omega
theorem dR_step (X Y : List α) (i j : Nat) (hi : i < X.length) (hj : j < Y.length) : dR w gap X Y i j = min (min (dR w gap X Y (i + 1) (j + 1) + w X[i] Y[j]) (dR w gap X Y (i + 1) j + gap)) (dR w gap X Y i (j + 1) + gap) := by
  unfold dR
  have e1 := List.drop_eq_getElem_cons hi
  have e2 := List.drop_eq_getElem_cons hj
  rw [e1, e2, dL_cons, ← e1, ← e2]
theorem dR_range (hg : 0 ≤ gap ∧ gap ≤ 1000) (hw : ∀ x y, 0 ≤ w x y) (X Y : List α) (hX : X.length ≤ 1024) (hY : Y.length ≤ 1024) (i j : Nat) : 0 ≤ dR w gap X Y i j ∧ dR w gap X Y i j ≤ 2048000 := by
  refine ⟨dL_nonneg w gap hg.1 hw _ _, Int.le_trans (dL_le w gap _ _) ?_⟩
  refine Int.le_trans (Int.mul_le_mul (c := 2048) (d := 1000) ?_ hg.2 hg.1 (by omega)) (by omega)
  rw [List.length_drop, List.length_drop]
  omega
end
/-! tables -/
def at2 (T : List (List Int)) (i j : Nat) : Int := (T.getD i []).getD j 0
def setT (T : List (List Int)) (i j : Nat) (v : Int) : List (List Int) := T.set i ((T.getD i []).set j v)
theorem getD_set_same {β : Type} (l : List β) (i : Nat) (h : i < l.length) (v d : β) : (l.set i v).getD i d = v := by
  rw [List.getD_eq_getElem?_getD, List.getElem?_set, if_pos rfl, if_pos h]; rfl
theorem getD_set_ne {β : Type} (l : List β) (i j : Nat) (h : i ≠ j) (v d : β) : (l.set i v).getD j d = l.getD j d := by
  rw [List.getD_eq_getElem?_getD, List.getElem?_set, if_neg h, ← List.getD_eq_getElem?_getD]
theorem getD_get {β : Type} (l : List β) (i : Nat) (h : i < l.length) (d : β) : l.getD i d = l[i] := by
  rw [List.getD_eq_getElem?_getD, List.getElem?_eq_getElem h]; rfl
structure Upd (T T' : List (List Int)) (i j : Nat) (v : Int) : Prop where
  len : T'.length = T.length
  lens : ∀ p, (T'.getD p []).length = (T.getD p []).length
  here : at2 T' i j = v
  else_ : ∀ p q, ¬ (p = i ∧ q = j) → at2 T' p q = at2 T p q
theorem upd_set (T : List (List Int)) (i j : Nat) (v : Int) (hi : i < T.length) (hj : j < (T.getD i []).length) : Upd T (setT T i j v) i j v := by
  refine ⟨by unfold setT; rw [List.length_set], fun p => ?_, ?_, fun p q h => ?_⟩
  · unfold setT
    by_cases e : i = p
    · subst e; rw [getD_set_same _ _ hi, List.length_set]
    · rw [getD_set_ne _ _ _ e]
  · unfold at2 setT
    rw [getD_set_same _ _ hi, getD_set_same _ _ hj]
  · unfold at2 setT
    by_cases e : i = p
    · subst e
      rw [getD_set_same _ _ hi, getD_set_ne _ _ _ (fun e => h ⟨rfl, e.symm⟩)]
    · rw [getD_set_ne _ _ _ e]
theorem Upd.trans {T T' T'' : List (List Int)} {i j : Nat} {a b : Int} (h : Upd T T' i j a) (g : Upd T' T'' i j b) : Upd T T'' i j b :=
  ⟨g.len.trans h.len, fun p => (g.lens p).trans (h.lens p), g.here, fun p q e => (g.else_ p q e).trans (h.else_ p q e)⟩
/-! the grid -/
def wO (n f o : Int) (x y : ByteArray) : Int := twoP x (fd x o) y (fd y o) n f
def gridP (X Y : List ByteArray) (n f o : Int) : List (List Int) := X.map fun x => Y.map fun y => wO n f o x y
theorem grid_len (X Y : List ByteArray) (n f o : Int) : (gridP X Y n f o).length = X.length := by unfold gridP; rw [List.length_map]
theorem grid_row (X Y : List ByteArray) (n f o : Int) (i : Nat) (h : i < X.length) : (gridP X Y n f o).getD i [] = Y.map fun y => wO n f o X[i] y := by
  rw [getD_get _ _ (by rw [grid_len]; exact h)]
  unfold gridP
  rw [List.getElem_map]
theorem grid_rlen (X Y : List ByteArray) (n f o : Int) (i : Nat) (h : i < X.length) : ((gridP X Y n f o).getD i []).length = Y.length := by rw [grid_row _ _ _ _ _ _ h, List.length_map]
theorem grid_at (X Y : List ByteArray) (n f o : Int) (i j : Nat) (h : i < X.length) (hj : j < Y.length) : at2 (gridP X Y n f o) i j = wO n f o X[i] Y[j] := by
  unfold at2
  rw [grid_row _ _ _ _ _ _ h, getD_get _ _ (by rw [List.length_map]; exact hj), List.getElem_map]
theorem wO_range (n f o : Int) (hn : 1 ≤ n) (hf : 1 ≤ f ∧ f ≤ 1000) (x y : ByteArray) : 0 ≤ wO n f o x y ∧ wO n f o x y ≤ 1000 := by
  have := two_range x (fd x o) y (fd y o) n f hn hf.1
  unfold wO
  omega
def longL (L : List ByteArray) (o : Int) : Prop := 1024 < L.length ∨ L.any (fun s => longW s o) = true
instance (L : List ByteArray) (o : Int) : Decidable (longL L o) := by unfold longL; infer_instance
theorem folded_long (L : List ByteArray) (o : Int) : foldedP L o = if longL L o then ([], 1) else (L.map (wordOf o), 0) := by
  unfold foldedP
  by_cases h : 1024 < L.length
  · rw [if_pos h, if_pos (show longL L o from Or.inl h)]
  · by_cases h2 : L.any (fun s => longW s o) = true
    · rw [if_neg h, if_pos h2, if_pos (show longL L o from Or.inr h2)]
    · rw [if_neg h, if_neg h2, if_neg (fun e : longL L o => Or.elim e h h2)]
theorem not_long {L : List ByteArray} {o : Int} (h : ¬ longL L o) : L.length ≤ 1024 ∧ ∀ s ∈ L, ¬ longW s o = true := by
  unfold longL at h
  refine ⟨by omega, fun s hs e => h (Or.inr (List.any_eq_true.2 ⟨s, hs, e⟩))⟩
def gridR (X Y : List ByteArray) (g n f o : Int) : List (List Int) × Int := if scaleOk g n f o then (if longL X o ∨ longL Y o then ([], 1) else (gridP X Y n f o, 0)) else ([], 90)
def smallL (L : List ByteArray) : Prop := ∀ s ∈ L, s.size ≤ 1048576
section
variable (X Y : List ByteArray) (g n f o : Int) (hn : 1 ≤ n ∧ n ≤ 1000) (hX : smallL X) (hY : smallL Y) (lX : ¬ longL X o) (lY : ¬ longL Y o)
include hn hX hY lX lY
theorem grid_two (i j : Nat) (hi : i < X.length) (hj : j < Y.length) : Ev (fun k => cost_two.f k X[i] (fd X[i] o) Y[j] (fd Y[j] o) g n f o) (wO n f o X[i] Y[j]) := by
  have z1 := fd_size X[i] o
  have z2 := fd_size Y[j] o
  have s1 := hX _ (List.getElem_mem hi)
  have s2 := hY _ (List.getElem_mem hj)
  exact ev_at 30000000 fun k hk => two_eq X[i] (fd X[i] o) Y[j] (fd Y[j] o) g n f o hn (by omega) (by omega) (short_of _ _ ((not_long lX).2 _ (List.getElem_mem hi))) (short_of _ _ ((not_long lY).2 _ (List.getElem_mem hj))) k hk
theorem grid_l1 (i : Nat) (hi : i < X.length) (R : List (List Int) × Int)
    (ih : ∀ T : List (List Int), T.length = X.length → (∀ p, p < i + 1 → T.getD p [] = (gridP X Y n f o).getD p []) → Ev (fun k => cost_Grid.l0 k (Y.map (wordOf o)) T (X.map (wordOf o)) (X.length : Int) ((i + 1 : Nat) : Int) g n f o) R) :
    ∀ (d j : Nat) (T : List (List Int)), j + d = Y.length → T.length = X.length → (∀ p, p < i → T.getD p [] = (gridP X Y n f o).getD p []) → (T.getD i []).length = Y.length → (∀ q, q < j → at2 T i q = at2 (gridP X Y n f o) i q) →
    Ev (fun k => cost_Grid.l1 k (Y.map (wordOf o)) T (i : Int) (X.map (wordOf o)) (X.length : Int) (i : Int) (Y.map (wordOf o)) (Y.length : Int) (j : Int) g n f o X[i] (fd X[i] o)) R
  | 0, j, T, hd, hT, hp, hr, hq => by
    have l1 := (not_long lX).1
    refine Ev.step (fun k => by rw [cost_Grid.l1, if_neg (by omega), wsucc i (by omega)]) (ih T hT fun p hp' => ?_)
    by_cases e : p = i
    · subst e
      refine List.ext_getElem (by rw [hr, grid_rlen _ _ _ _ _ _ hi]) fun q h1 h2 => ?_
      have := hq q (by omega)
      unfold at2 at this
      rwa [getD_get _ _ h1, getD_get _ _ h2] at this
    · exact hp p (by omega)
  | d + 1, j, T, hd, hT, hp, hr, hq => by
    have l2 := (not_long lY).1
    have hj : j < Y.length := by omega
    have hjm : j < (Y.map (wordOf o)).length := by rw [List.length_map]; exact hj
    refine Ev.step (fun k => by
      rw [cost_Grid.l1, if_pos (by omega), if_pos (by omega), if_pos (by rw [List.length_map]; omega), if_pos (by omega), if_pos (by omega), rdW_nat _ j hjm, List.getElem_map]; rfl) (ev_bind (f := fun k t => if (j : Int) < ((rd_L11 T (i : Int)).length : Int) then cost_Grid.l1 k (Y.map (wordOf o)) (T.set (i : Int).toNat ((rd_L11 T (i : Int)).set (j : Int).toNat t)) (i : Int) (X.map (wordOf o)) (X.length : Int) (i : Int) (Y.map (wordOf o)) (Y.length : Int) (wrap64 ((j : Int) + 1)) g n f o X[i] (fd X[i] o) else none) (grid_two X Y g n f o hn hX hY lX lY i j hi hj) ?_)
    have hr' : (rd_L11 T (i : Int)).length = Y.length := hr
    have u := upd_set T i j (wO n f o X[i] Y[j]) (by omega) (by omega)
    refine Ev.congr (fun k => by rw [if_pos (by omega), wsucc j (by omega)]; rfl) (grid_l1 i hi R ih d (j + 1) (setT T i j (wO n f o X[i] Y[j])) (by omega) (u.len.trans hT) (fun p hp' => ?_) ((u.lens i).trans hr) (fun q hq' => ?_))
    · rw [← hp p hp']
      unfold setT
      rw [getD_set_ne _ _ _ (by omega)]
    · by_cases e : q = j
      · subst e; rw [u.here, grid_at _ _ _ _ _ _ _ hi hj]
      · rw [u.else_ i q (fun h => e h.2), hq q (by omega)]
theorem grid_l0 : ∀ (d i : Nat) (T : List (List Int)), i + d = X.length → T.length = X.length → (∀ p, p < i → T.getD p [] = (gridP X Y n f o).getD p []) →
    Ev (fun k => cost_Grid.l0 k (Y.map (wordOf o)) T (X.map (wordOf o)) (X.length : Int) (i : Int) g n f o) (gridP X Y n f o, 0)
  | 0, i, T, hd, hT, hp => by
    have e : T = gridP X Y n f o := by
      refine List.ext_getElem (by rw [hT, grid_len]) fun p h1 h2 => ?_
      have := hp p (by omega)
      rwa [getD_get _ _ h1, getD_get _ _ h2] at this
    exact Ev.step (f := fun _ => some (gridP X Y n f o, 0)) (fun k => by rw [cost_Grid.l0, if_neg (by omega), e]) (Ev.now _)
  | d + 1, i, T, hd, hT, hp => by
    have l2 := (not_long lY).1
    have hi : i < X.length := by omega
    have him : i < (X.map (wordOf o)).length := by rw [List.length_map]; exact hi
    refine Ev.step (fun k => by
      rw [cost_Grid.l0, if_pos (by omega), if_pos (by omega), if_pos (by rw [List.length_map]; omega), if_pos (by omega), if_pos (by rw [List.length_map]; omega), if_pos (by omega), rdW_nat _ i him, List.getElem_map, Int.toNat_natCast, Int.toNat_natCast]) ?_
    have e : (Y.map (wordOf o)).length = Y.length := List.length_map _
    refine Ev.congr (fun k => by rw [e]; rfl) (grid_l1 X Y g n f o hn hX hY lX lY i hi _ (fun T' h1 h2 => grid_l0 d (i + 1) T' (by omega) h1 h2) Y.length 0 (T.set i (List.replicate Y.length 0)) (by omega) (by rw [List.length_set]; exact hT) (fun p hp' => ?_) ?_ (fun q hq => by omega))
    · rw [getD_set_ne _ _ _ (by omega)]; exact hp p hp'
    · rw [getD_set_same _ _ (by omega), List.length_replicate]
end
theorem grid_eq (X Y : List ByteArray) (hX : smallL X) (hY : smallL Y) (g n f o : Int) : Ev (fun k => cost_Grid.f k X Y g n f o) (gridR X Y g n f o) := by
  unfold gridR
  by_cases hs : scaleOk g n f o
  · have hs' := hs
    unfold scaleOk at hs'
    obtain ⟨_, hn, _, ho⟩ := hs'
    rw [if_pos hs]
    have e : ∀ k, cost_Grid.f k X Y g n f o = _ := fun k => by unfold cost_Grid.f; rw [check_eq, if_pos hs, Option.bind_some, if_pos rfl]
    refine Ev.congr e (ev_bind (ev_at 1025 fun k hk => folded_eq X hX g n f o ho k hk) ?_)
    rw [folded_long]
    by_cases lX : longL X o
    · rw [if_pos lX, if_pos (Or.inl lX)]
      exact Ev.congr (fun k => by rw [if_neg (by decide)]) (Ev.now _)
    · rw [if_neg lX]
      refine Ev.congr (fun k => by rw [if_pos rfl]) (ev_bind (ev_at 1025 fun k hk => folded_eq Y hY g n f o ho k hk) ?_)
      rw [folded_long]
      by_cases lY : longL Y o
      · rw [if_pos lY, if_pos (Or.inr lY)]
        exact Ev.congr (fun k => by rw [if_neg (by decide)]) (Ev.now _)
      · rw [if_neg lY, if_neg (fun h => h.elim lX lY)]
        have l1 := (not_long lX).1
        have em : (X.map (wordOf o)).length = X.length := List.length_map _
        refine Ev.congr (f := fun k => cost_Grid.l0 k (Y.map (wordOf o)) (List.replicate X.length []) (X.map (wordOf o)) (X.length : Int) ((0 : Nat) : Int) g n f o) (fun k => by rw [if_pos rfl]; dsimp only; rw [em, if_pos (by omega), if_pos (by omega), Int.toNat_natCast]; rfl) ?_
        exact grid_l0 X Y g n f o hn hX hY lX lY X.length 0 (List.replicate X.length []) (by omega) (by rw [List.length_replicate]) (fun p hp => by omega)
  · rw [if_neg hs]
    exact Ev.congr (fun k => by unfold cost_Grid.f; rw [check_eq, if_neg hs, Option.bind_some, if_neg (by decide)]) (Ev.now _)
theorem gridR_ok {X Y : List ByteArray} {g n f o : Int} (h : (gridR X Y g n f o).2 = 0) : gridR X Y g n f o = (gridP X Y n f o, 0) ∧ scaleOk g n f o ∧ X.length ≤ 1024 ∧ Y.length ≤ 1024 := by
  unfold gridR at h ⊢
  by_cases hs : scaleOk g n f o
  · rw [if_pos hs] at h ⊢
    by_cases hl : longL X o ∨ longL Y o
    · rw [if_pos hl] at h; cases h
    · rw [if_neg hl]
      exact ⟨rfl, hs, (not_long (fun e => hl (Or.inl e))).1, (not_long (fun e => hl (Or.inr e))).1⟩
  · rw [if_neg hs] at h; cases h
end Go.Proofs.YtcpbalnbgmjhjaaDoor.Pure
/-
  The program's alignment of two lists of words, in plain numbers: its table of ways, its price, its walk.
-/
namespace Go.Proofs.YtcpbalnbgmjhjaaDoor.Pure
open Go.RowKit Go.Proofs.YtcpbalnbgmjhjaaDoor.Q Go.Proofs.YtcpbalnbgmjhjaaDoorW.PrintWords Go.Proofs.YtcpbalnbgmjhjaaDoorW.PrintLast Go.Proofs.YtcpbalnbgmjhjaaDoorW.PrintMore
section
variable {α : Type} (w : α → α → Int) (gap : Int)
def pL : List α → List α → Nat → Nat → List S61
  | [], [], _, _ => []
  | [], _ :: ys, i, j => ⟨-1, (j : Int)⟩ :: pL [] ys i (j + 1)
  | _ :: xs, [], i, j => ⟨(i : Int), -1⟩ :: pL xs [] (i + 1) j
  | x :: xs, y :: ys, i, j =>
    if dL w gap (x :: xs) (y :: ys) = dL w gap xs ys + w x y then ⟨(i : Int), (j : Int)⟩ :: pL xs ys (i + 1) (j + 1)
    else if dL w gap (x :: xs) (y :: ys) = dL w gap xs (y :: ys) + gap then ⟨(i : Int), -1⟩ :: pL xs (y :: ys) (i + 1) j
    else ⟨-1, (j : Int)⟩ :: pL (x :: xs) ys i (j + 1)
termination_by xs ys => xs.length + ys.length
def codeP (X Y : List α) (p q : Nat) : Int := if h : p < X.length ∧ q < Y.length then
  (if dR w gap X Y p q = dR w gap X Y (p + 1) (q + 1) + w (X[p]'h.1) (Y[q]'h.2) then 1 else if dR w gap X Y p q = dR w gap X Y (p + 1) q + gap then 2 else 3) else if p < X.length then 2 else 3
theorem codeP_in (X Y : List α) (p q : Nat) (hp : p < X.length) (hq : q < Y.length) : codeP w gap X Y p q = (if dR w gap X Y p q = dR w gap X Y (p + 1) (q + 1) + w X[p] Y[q] then 1 else if dR w gap X Y p q = dR w gap X Y (p + 1) q + gap then 2 else 3) := by
  unfold codeP
  rw [dif_pos ⟨hp, hq⟩]
theorem codeP_right (X Y : List α) (p q : Nat) (hp : p < X.length) (hq : ¬ q < Y.length) : codeP w gap X Y p q = 2 := by
  unfold codeP
  rw [dif_neg (fun h => hq h.2), if_pos hp]
theorem codeP_below (X Y : List α) (p q : Nat) (hp : ¬ p < X.length) : codeP w gap X Y p q = 3 := by
  unfold codeP
  rw [dif_neg (fun h => hp h.1), if_neg hp]
theorem pL_done (X Y : List α) (i j : Nat) (hi : ¬ i < X.length) (hj : ¬ j < Y.length) (a b : Nat) : pL w gap (X.drop i) (Y.drop j) a b = [] := by
  rw [List.drop_of_length_le (by omega), List.drop_of_length_le (by omega), pL]
theorem pL_both (X Y : List α) (i j : Nat) (hc : codeP w gap X Y i j = 1) (a b : Nat) : pL w gap (X.drop i) (Y.drop j) a b = ⟨(a : Int), (b : Int)⟩ :: pL w gap (X.drop (i + 1)) (Y.drop (j + 1)) (a + 1) (b + 1) ∧ i < X.length ∧ j < Y.length := by
  by_cases hi : i < X.length
  · by_cases hj : j < Y.length
    · rw [codeP_in _ _ _ _ _ _ hi hj] at hc
      refine ⟨?_, hi, hj⟩
      rw [List.drop_eq_getElem_cons hi, List.drop_eq_getElem_cons hj, pL, ← List.drop_eq_getElem_cons hi, ← List.drop_eq_getElem_cons hj]
      by_cases e : dR w gap X Y i j = dR w gap X Y (i + 1) (j + 1) + w X[i] Y[j]
      · rw [if_pos (show dL w gap (X.drop i) (Y.drop j) = dL w gap (X.drop (i + 1)) (Y.drop (j + 1)) + w X[i] Y[j] from e)]
      · rw [if_neg e] at hc; split at hc <;> omega
    · rw [codeP_right _ _ _ _ _ _ hi hj] at hc; omega
  · rw [codeP_below _ _ _ _ _ _ hi] at hc; omega
theorem pL_first (X Y : List α) (i j : Nat) (hc : codeP w gap X Y i j = 2) (a b : Nat) : pL w gap (X.drop i) (Y.drop j) a b = ⟨(a : Int), -1⟩ :: pL w gap (X.drop (i + 1)) (Y.drop j) (a + 1) b ∧ i < X.length := by
  by_cases hi : i < X.length
  · refine ⟨?_, hi⟩
    by_cases hj : j < Y.length
    · rw [codeP_in _ _ _ _ _ _ hi hj] at hc
      rw [List.drop_eq_getElem_cons hi, List.drop_eq_getElem_cons hj, pL, ← List.drop_eq_getElem_cons hi, ← List.drop_eq_getElem_cons hj]
      by_cases e : dR w gap X Y i j = dR w gap X Y (i + 1) (j + 1) + w X[i] Y[j]
      · rw [if_pos e] at hc; omega
      · rw [if_neg e] at hc
        by_cases e2 : dR w gap X Y i j = dR w gap X Y (i + 1) j + gap
        · rw [if_neg (show ¬ dL w gap (X.drop i) (Y.drop j) = dL w gap (X.drop (i + 1)) (Y.drop (j + 1)) + w X[i] Y[j] from e), if_pos (show dL w gap (X.drop i) (Y.drop j) = dL w gap (X.drop (i + 1)) (Y.drop j) + gap from e2)]
        · rw [if_neg e2] at hc; omega
    · rw [List.drop_eq_getElem_cons hi, List.drop_of_length_le (l := Y) (by omega), pL]
  · rw [codeP_below _ _ _ _ _ _ hi] at hc; omega
theorem pL_second (X Y : List α) (i j : Nat) (hij : i < X.length ∨ j < Y.length) (h1 : ¬ codeP w gap X Y i j = 1) (h2 : ¬ codeP w gap X Y i j = 2) (a b : Nat) : pL w gap (X.drop i) (Y.drop j) a b = ⟨-1, (b : Int)⟩ :: pL w gap (X.drop i) (Y.drop (j + 1)) a (b + 1) ∧ j < Y.length := by
  by_cases hi : i < X.length
  · by_cases hj : j < Y.length
    · refine ⟨?_, hj⟩
      rw [codeP_in _ _ _ _ _ _ hi hj] at h1 h2
      rw [List.drop_eq_getElem_cons hi, List.drop_eq_getElem_cons hj, pL, ← List.drop_eq_getElem_cons hi, ← List.drop_eq_getElem_cons hj]
      by_cases e : dR w gap X Y i j = dR w gap X Y (i + 1) (j + 1) + w X[i] Y[j]
      · rw [if_pos e] at h1; exact absurd rfl h1
      · rw [if_neg e] at h2
        by_cases e2 : dR w gap X Y i j = dR w gap X Y (i + 1) j + gap
        · rw [if_pos e2] at h2; exact absurd rfl h2
        · rw [if_neg (show ¬ dL w gap (X.drop i) (Y.drop j) = dL w gap (X.drop (i + 1)) (Y.drop (j + 1)) + w X[i] Y[j] from e), if_neg (show ¬ dL w gap (X.drop i) (Y.drop j) = dL w gap (X.drop (i + 1)) (Y.drop j) + gap from e2)]
    · exact absurd (codeP_right _ _ _ _ _ _ hi hj) h2
  · have hj : j < Y.length := by omega
    refine ⟨?_, hj⟩
    rw [List.drop_of_length_le (l := X) (by omega), List.drop_eq_getElem_cons hj, pL]
end
structure okW (X Y : List ByteArray) (g n f o : Int) (T : List (List Int)) (i j0 : Nat) : Prop where
  len : T.length = X.length + 1
  lens : ∀ p, p ≤ X.length → (T.getD p []).length = Y.length + 1
  right : ∀ p, p < X.length → at2 T p Y.length = 2
  below : ∀ q, q < Y.length → at2 T X.length q = 3
  here : ∀ p q, p < X.length → q < Y.length → (i < p ∨ (i = p ∧ j0 ≤ q)) → at2 T p q = codeP (wO n f o) g X Y p q
theorem okW.all {X Y : List ByteArray} {g n f o : Int} {T : List (List Int)} (h : okW X Y g n f o T 0 0) (p q : Nat) (hp : p ≤ X.length) (hq : q ≤ Y.length) (hpq : p < X.length ∨ q < Y.length) : at2 T p q = codeP (wO n f o) g X Y p q := by
  by_cases h1 : p < X.length
  · by_cases h2 : q < Y.length
    · exact h.here p q h1 h2 (by omega)
    · rw [codeP_right _ _ _ _ _ _ h1 h2, show q = Y.length by omega]; exact h.right p h1
  · rw [codeP_below _ _ _ _ _ _ h1, show p = X.length by omega]; exact h.below q (by omega)
section
variable (X Y : List ByteArray) (g n f o : Int) (hg : 1 ≤ g ∧ g ≤ 1000) (hn : 1 ≤ n ∧ n ≤ 1000) (hf : 1 ≤ f ∧ f ≤ 1000) (hX : X.length ≤ 1024) (hY : Y.length ≤ 1024)
include hX hY
theorem al_walk (T : List (List Int)) (hT : okW X Y g n f o T 0 0) (price : Int) : ∀ (d i j : Nat) (acc : List S61), (X.length - i) + (Y.length - j) ≤ d → i ≤ X.length → j ≤ Y.length → acc.length + (X.length - i) + (Y.length - j) ≤ 2048 →
    Ev (fun k => pair_Align.l4 k (X.length : Int) (Y.length : Int) T price acc (i : Int) (j : Int)) (acc ++ pL (wO n f o) g (X.drop i) (Y.drop j) i j, price, 0) := by
  intro d
  induction d with
  | zero =>
    intro i j acc hd hi hj ha
    refine Ev.step (f := fun k => pair_Align.j5 k (X.length : Int) (Y.length : Int) T price acc (i : Int) (j : Int) true) (fun k => by rw [pair_Align.l4, if_pos (by omega), show ((j : Int) == (Y.length : Int)) = true from beq_iff_eq.2 (by omega)]) ?_
    exact Ev.step (f := fun _ => some (acc ++ pL (wO n f o) g (X.drop i) (Y.drop j) i j, price, 0)) (fun k => by rw [pair_Align.j5, if_pos rfl, pL_done _ _ _ _ _ _ (by omega) (by omega), List.append_nil]) (Ev.now _)
  | succ d IH =>
    intro i j acc hd hi hj ha
    by_cases hend : i = X.length ∧ j = Y.length
    · refine Ev.step (f := fun k => pair_Align.j5 k (X.length : Int) (Y.length : Int) T price acc (i : Int) (j : Int) true) (fun k => by rw [pair_Align.l4, if_pos (by omega), show ((j : Int) == (Y.length : Int)) = true from beq_iff_eq.2 (by omega)]) ?_
      exact Ev.step (f := fun _ => some (acc ++ pL (wO n f o) g (X.drop i) (Y.drop j) i j, price, 0)) (fun k => by rw [pair_Align.j5, if_pos rfl, pL_done _ _ _ _ _ _ (by omega) (by omega), List.append_nil]) (Ev.now _)
    · have hij : i < X.length ∨ j < Y.length := by omega
      refine Ev.step (f := fun k => pair_Align.j5 k (X.length : Int) (Y.length : Int) T price acc (i : Int) (j : Int) false) (fun k => by
        rw [pair_Align.l4]
        by_cases h1 : (i : Int) = (X.length : Int)
        · rw [if_pos h1, show ((j : Int) == (Y.length : Int)) = false from beq_eq_false_iff_ne.2 (by omega)]
        · rw [if_neg h1]) ?_
      have hl := hT.lens i hi
      have hc := hT.all i j hi hj hij
      have e1 : (rd_L12 T (i : Int)).length = Y.length + 1 := hl
      have e2 : rd (rd_L12 T (i : Int)) (j : Int) = codeP (wO n f o) g X Y i j := hc
      have eT := hT.len
      by_cases c1 : codeP (wO n f o) g X Y i j = 1
      · obtain ⟨e3, h1, h2⟩ := pL_both (wO n f o) g X Y i j c1 i j
        refine Ev.step (f := fun k => pair_Align.l4 k (X.length : Int) (Y.length : Int) T price (acc ++ [⟨(i : Int), (j : Int)⟩]) ((i + 1 : Nat) : Int) ((j + 1 : Nat) : Int)) (fun k => by
          rw [pair_Align.j5, if_neg (by decide), if_pos (by omega), if_pos (by omega), if_pos (by omega), if_pos (by omega), e2, if_pos c1, if_pos (by omega), wsucc i (by omega), wsucc j (by omega)]) ?_
        have := IH (i + 1) (j + 1) (acc ++ [⟨(i : Int), (j : Int)⟩]) (by omega) (by omega) (by omega) (by rw [List.length_append]; simp only [List.length_cons, List.length_nil]; omega)
        rw [e3]
        rwa [List.append_assoc] at this
      · by_cases c2 : codeP (wO n f o) g X Y i j = 2
        · obtain ⟨e3, h1⟩ := pL_first (wO n f o) g X Y i j c2 i j
          refine Ev.step (f := fun k => pair_Align.l4 k (X.length : Int) (Y.length : Int) T price (acc ++ [⟨(i : Int), -1⟩]) ((i + 1 : Nat) : Int) (j : Int)) (fun k => by
            rw [pair_Align.j5, if_neg (by decide), if_pos (by omega), if_pos (by omega), if_pos (by omega), if_pos (by omega), e2, if_neg c1, if_pos c2, if_pos (by omega), wsucc i (by omega)]) ?_
          have := IH (i + 1) j (acc ++ [⟨(i : Int), -1⟩]) (by omega) (by omega) (by omega) (by rw [List.length_append]; simp only [List.length_cons, List.length_nil]; omega)
          rw [e3]
          rwa [List.append_assoc] at this
        · obtain ⟨e3, h1⟩ := pL_second (wO n f o) g X Y i j hij c1 c2 i j
          refine Ev.step (f := fun k => pair_Align.l4 k (X.length : Int) (Y.length : Int) T price (acc ++ [⟨-1, (j : Int)⟩]) (i : Int) ((j + 1 : Nat) : Int)) (fun k => by
            rw [pair_Align.j5, if_neg (by decide), if_pos (by omega), if_pos (by omega), if_pos (by omega), if_pos (by omega), e2, if_neg c1, if_neg c2, if_pos (by omega), wsucc j (by omega)]) ?_
          have := IH i (j + 1) (acc ++ [⟨-1, (j : Int)⟩]) (by omega) (by omega) (by omega) (by rw [List.length_append]; simp only [List.length_cons, List.length_nil]; omega)
          rw [e3]
          rwa [List.append_assoc] at this
include hg hn hf
theorem al_l3 (i : Nat) (hi : i < X.length) (bl : List Int) (hbl : bl.length = Y.length + 1) (hb : ∀ q, q ≤ Y.length → bl.getD q 0 = dR (wO n f o) g X Y (i + 1) q) (R : List S61 × Int × Int)
    (ih : ∀ T row, okW X Y g n f o T i 0 → row.length = Y.length + 1 → (∀ q, q ≤ Y.length → row.getD q 0 = dR (wO n f o) g X Y i q) → Ev (fun k => pair_Align.l2 k (gridP X Y n f o) (X.length : Int) (Y.length : Int) T row bl (wrap64 ((i : Int) - 1)) g n f o) R) :
    ∀ (J : Nat) (T : List (List Int)) (row : List Int) (x : Int), J ≤ Y.length → x = (J : Int) - 1 → okW X Y g n f o T i J → row.length = Y.length + 1 → (∀ q, J ≤ q → q ≤ Y.length → row.getD q 0 = dR (wO n f o) g X Y i q) →
    Ev (fun k => pair_Align.l3 k (gridP X Y n f o) (X.length : Int) (Y.length : Int) T bl row (i : Int) x g n f o) R := by
  intro J
  induction J with
  | zero =>
    intro T row x hJ hx hT hr hq
    exact Ev.step (fun k => by rw [pair_Align.l3, if_neg (by omega)]) (ih T row hT hr fun q h => hq q (Nat.zero_le _) h)
  | succ j IH =>
    intro T row x hJ hx hT hr hq
    obtain rfl : x = (j : Int) := by omega
    have hj : j < Y.length := by omega
    have hgw : ∀ x y, 0 ≤ wO n f o x y := fun x y => (wO_range n f o hn.1 hf x y).1
    have r11 := dR_range (wO n f o) g ⟨by omega, hg.2⟩ hgw X Y hX hY (i + 1) (j + 1)
    have r10 := dR_range (wO n f o) g ⟨by omega, hg.2⟩ hgw X Y hX hY (i + 1) j
    have r01 := dR_range (wO n f o) g ⟨by omega, hg.2⟩ hgw X Y hX hY i (j + 1)
    have rw_ := wO_range n f o hn.1 hf X[i] Y[j]
    have hD := dR_step (wO n f o) g X Y i j hi hj
    have hC := codeP_in (wO n f o) g X Y i j hi hj
    have e1 : rd bl ((j + 1 : Nat) : Int) = dR (wO n f o) g X Y (i + 1) (j + 1) := hb (j + 1) (by omega)
    have e2 : rd (rd_L11 (gridP X Y n f o) (i : Int)) (j : Int) = wO n f o X[i] Y[j] := grid_at X Y n f o i j hi hj
    have e2l : (rd_L11 (gridP X Y n f o) (i : Int)).length = Y.length := grid_rlen X Y n f o i hi
    have e3 : rd bl (j : Int) = dR (wO n f o) g X Y (i + 1) j := hb j (by omega)
    have e4 : rd row ((j + 1 : Nat) : Int) = dR (wO n f o) g X Y i (j + 1) := hq (j + 1) (by omega) (by omega)
    have eG := grid_len X Y n f o
    have eT := hT.len
    have eL : (rd_L12 T (i : Int)).length = Y.length + 1 := hT.lens i (by omega)
    generalize dR (wO n f o) g X Y (i + 1) (j + 1) = D11 at r11 hD hC e1
    generalize dR (wO n f o) g X Y (i + 1) j = D10 at r10 hD hC e3
    generalize hd01 : dR (wO n f o) g X Y i (j + 1) = D01 at r01 hD e4
    generalize wO n f o X[i] Y[j] = W at rw_ hD hC e2
    have rowv : ∀ v, rd (row.set j v) ((j + 1 : Nat) : Int) = D01 := fun v => by rw [rd_set_ne _ _ _ (by omega)]; exact e4
    have rowh : ∀ v, rd (row.set j v) (j : Int) = v := fun v => rd_set_same _ _ (by omega) v
    have fin : ∀ (T' : List (List Int)) (v c : Int), Upd T T' i j c → c = codeP (wO n f o) g X Y i j → v = dR (wO n f o) g X Y i j → Ev (fun k => pair_Align.l3 k (gridP X Y n f o) (X.length : Int) (Y.length : Int) T' bl (row.set j v) (i : Int) (wrap64 ((j : Int) - 1)) g n f o) R := by
      intro T' v c u hc hv
      refine IH T' (row.set j v) _ (by omega) (ws _ (by omega) (by omega)) ⟨u.len.trans hT.len, fun p hp => (u.lens p).trans (hT.lens p hp), fun p hp => ?_, fun q hq' => ?_, fun p q hp hq' h => ?_⟩ (by rw [List.length_set]; exact hr) (fun q h1 h2 => ?_)
      · rw [u.else_ _ _ (by omega)]; exact hT.right p hp
      · rw [u.else_ _ _ (by omega)]; exact hT.below q hq'
      · by_cases e : p = i ∧ q = j
        · obtain ⟨rfl, rfl⟩ := e
          rw [u.here, hc]
        · rw [u.else_ _ _ e]
          exact hT.here p q hp hq' (by omega)
      · by_cases e : j = q
        · subst e
          rw [getD_set_same _ _ (by omega), hv]
        · rw [getD_set_ne _ _ _ e]
          exact hq q (by omega) h2
    have u1 := fun T' (h1 : T'.length = X.length + 1) (h2 : (T'.getD i []).length = Y.length + 1) v => upd_set T' i j v (by omega) (by omega)
    have v1 := u1 T eT eL 1
    have v2 := u1 (setT T i j 1) (v1.len.trans eT) ((v1.lens i).trans eL) 2
    have L1 : (rd_L12 (setT T i j 1) (i : Int)).length = Y.length + 1 := (v1.lens i).trans eL
    have L2 : (rd_L12 (setT (setT T i j 1) i j 2) (i : Int)).length = Y.length + 1 := (v2.lens i).trans L1
    have v3 := u1 (setT (setT T i j 1) i j 2) (v2.len.trans (v1.len.trans eT)) L2 3
    have v4 := u1 (setT T i j 1) (v1.len.trans eT) L1 3
    have body : ∀ k, pair_Align.l3 (k + 1) (gridP X Y n f o) (X.length : Int) (Y.length : Int) T bl row (i : Int) (j : Int) g n f o =
        if D10 + g < D11 + W then (if D01 + g < D10 + g then pair_Align.l3 k (gridP X Y n f o) (X.length : Int) (Y.length : Int) (setT (setT (setT T i j 1) i j 2) i j 3) bl (row.set j (D01 + g)) (i : Int) (wrap64 ((j : Int) - 1)) g n f o
            else pair_Align.l3 k (gridP X Y n f o) (X.length : Int) (Y.length : Int) (setT (setT T i j 1) i j 2) bl (row.set j (D10 + g)) (i : Int) (wrap64 ((j : Int) - 1)) g n f o)
          else (if D01 + g < D11 + W then pair_Align.l3 k (gridP X Y n f o) (X.length : Int) (Y.length : Int) (setT (setT T i j 1) i j 3) bl (row.set j (D01 + g)) (i : Int) (wrap64 ((j : Int) - 1)) g n f o
            else pair_Align.l3 k (gridP X Y n f o) (X.length : Int) (Y.length : Int) (setT T i j 1) bl (row.set j (D11 + W)) (i : Int) (wrap64 ((j : Int) - 1)) g n f o) := by
      intro k
      have s1 : T.set i ((rd_L12 T (i : Int)).set j 1) = setT T i j 1 := rfl
      have s2 : (setT T i j 1).set i ((rd_L12 (setT T i j 1) (i : Int)).set j 2) = setT (setT T i j 1) i j 2 := rfl
      have s3 : (setT (setT T i j 1) i j 2).set i ((rd_L12 (setT (setT T i j 1) i j 2) (i : Int)).set j 3) = setT (setT (setT T i j 1) i j 2) i j 3 := rfl
      have s4 : (setT T i j 1).set i ((rd_L12 (setT T i j 1) (i : Int)).set j 3) = setT (setT T i j 1) i j 3 := rfl
      rw [pair_Align.l3, if_pos (by omega), if_pos (by omega), if_pos (by omega), wsucc j (by omega), if_pos (by omega), if_pos (by omega), if_pos (by omega), if_pos (by omega), if_pos (by omega), if_pos (by omega), Option.bind_some, if_pos (by omega), Option.bind_some, if_pos (by omega)]
      simp only [Int.toNat_natCast]
      rw [e1, e2, e3, ws (D11 + W) (by omega) (by omega), ws (D10 + g) (by omega) (by omega), s1, rowh, rowv]
      by_cases hA : D10 + g < D11 + W
      · rw [if_pos hA, if_pos hA, Option.bind_some, if_pos (by omega), Option.bind_some, if_pos (by omega), List.set_set, rowh, rowv, ws (D01 + g) (by omega) (by omega), s2]
        by_cases hB : D01 + g < D10 + g
        · rw [if_pos hB, if_pos hB, if_pos (by omega), s3, List.set_set]
        · rw [if_neg hB, if_neg hB]
      · rw [if_neg hA, if_neg hA, if_pos (by omega), ws (D01 + g) (by omega) (by omega)]
        by_cases hB : D01 + g < D11 + W
        · rw [if_pos hB, if_pos hB, if_pos (by omega), s4, List.set_set]
        · rw [if_neg hB, if_neg hB]
    by_cases hA : D10 + g < D11 + W
    · by_cases hB : D01 + g < D10 + g
      · refine Ev.step (fun k => by rw [body k, if_pos hA, if_pos hB]) (fin _ _ 3 ((v1.trans v2).trans v3) ?_ (by omega))
        rw [hC, if_neg (by omega), if_neg (by omega)]
      · refine Ev.step (fun k => by rw [body k, if_pos hA, if_neg hB]) (fin _ _ 2 (v1.trans v2) ?_ (by omega))
        rw [hC, if_neg (by omega), if_pos (by omega)]
    · by_cases hB : D01 + g < D11 + W
      · refine Ev.step (fun k => by rw [body k, if_neg hA, if_pos hB]) (fin _ _ 3 (v1.trans v4) ?_ (by omega))
        rw [hC, if_neg (by omega), if_neg (by omega)]
      · refine Ev.step (fun k => by rw [body k, if_neg hA, if_neg hB]) (fin _ _ 1 v1 ?_ (by omega))
        rw [hC, if_pos (by omega)]
theorem al_l2 : ∀ (I : Nat) (T : List (List Int)) (bl row : List Int) (x : Int), I ≤ X.length → x = (I : Int) - 1 → okW X Y g n f o T I 0 → bl.length = Y.length + 1 → row.length = Y.length + 1 → (∀ q, q ≤ Y.length → bl.getD q 0 = dR (wO n f o) g X Y I q) →
    Ev (fun k => pair_Align.l2 k (gridP X Y n f o) (X.length : Int) (Y.length : Int) T bl row x g n f o) (pL (wO n f o) g X Y 0 0, dL (wO n f o) g X Y, 0) := by
  intro I
  induction I with
  | zero =>
    intro T bl row x hI hx hT hbl hr hb
    have e : rd bl 0 = dL (wO n f o) g X Y := by
      have := hb 0 (Nat.zero_le _)
      unfold dR at this
      exact this
    refine Ev.step (fun k => by rw [pair_Align.l2, if_neg (by omega), if_pos (by omega), e]) ?_
    have := al_walk X Y g n f o hX hY T hT (dL (wO n f o) g X Y) (X.length + Y.length) 0 0 [] (by omega) (by omega) (by omega) (by simp only [List.length_nil]; omega)
    exact this
  | succ i IH =>
    intro T bl row x hI hx hT hbl hr hb
    obtain rfl : x = (i : Int) := by omega
    have hgw : ∀ x y, 0 ≤ wO n f o x y := fun x y => (wO_range n f o hn.1 hf x y).1
    have he := dR_endr (wO n f o) g X Y i (by omega)
    have hr1 := dR_range (wO n f o) g ⟨by omega, hg.2⟩ hgw X Y hX hY i Y.length
    refine Ev.step (f := fun k => pair_Align.l3 k (gridP X Y n f o) (X.length : Int) (Y.length : Int) T bl (row.set Y.length (dR (wO n f o) g X Y i Y.length)) (i : Int) (wrap64 ((Y.length : Int) - 1)) g n f o) (fun k => by
      rw [pair_Align.l2, if_pos (by omega), if_pos (by omega), if_pos (by omega), Int.toNat_natCast, ws ((X.length : Int) - (i : Int)) (by omega) (by omega), ← he, ws _ (by omega) (by omega)]) ?_
    refine al_l3 X Y g n f o hg hn hf hX hY i (by omega) bl hbl hb _ (fun T' row' h1 h2 h3 => IH T' row' bl _ (by omega) (ws _ (by omega) (by omega)) h1 h2 hbl h3) Y.length T _ _ (Nat.le_refl _) (ws _ (by omega) (by omega)) ⟨hT.len, hT.lens, hT.right, hT.below, fun p q hp hq h => hT.here p q hp hq (by omega)⟩ (by rw [List.length_set]; exact hr) (fun q h1 h2 => ?_)
    obtain rfl : q = Y.length := by omega
    rw [getD_set_same _ _ (by omega)]
theorem al_l1 : ∀ (d j : Nat) (T : List (List Int)) (bl : List Int), j + d = Y.length → T.length = X.length + 1 → (∀ p, p ≤ X.length → (T.getD p []).length = Y.length + 1) → (∀ p, p < X.length → at2 T p Y.length = 2) → (∀ q, q < j → at2 T X.length q = 3) →
    bl.length = Y.length + 1 → (∀ q, q < j → bl.getD q 0 = dR (wO n f o) g X Y X.length q) → bl.getD Y.length 0 = 0 →
    Ev (fun k => pair_Align.l1 k (gridP X Y n f o) (X.length : Int) (Y.length : Int) T bl (List.replicate (Y.length + 1) 0) (Y.length : Int) (j : Int) g n f o) (pL (wO n f o) g X Y 0 0, dL (wO n f o) g X Y, 0) := by
  intro d
  induction d with
  | zero =>
    intro j T bl hd h1 h2 h3 h4 h5 h6 h7
    obtain rfl : j = Y.length := by omega
    refine Ev.step (fun k => by rw [pair_Align.l1, if_neg (by omega)]) (al_l2 X Y g n f o hg hn hf hX hY X.length T bl _ _ (Nat.le_refl _) (ws _ (by omega) (by omega)) ⟨h1, h2, h3, h4, fun p q hp hq h => by omega⟩ h5 (by rw [List.length_replicate]) (fun q hq => ?_))
    by_cases e : q = Y.length
    · subst e
      rw [h7, dR_endl _ _ _ _ _ (Nat.le_refl _)]
      simp
    · exact h6 q (by omega)
  | succ d IH =>
    intro j T bl hd h1 h2 h3 h4 h5 h6 h7
    have hj : j < Y.length := by omega
    have hgw : ∀ x y, 0 ≤ wO n f o x y := fun x y => (wO_range n f o hn.1 hf x y).1
    have he := dR_endl (wO n f o) g X Y j (by omega)
    have hr1 := dR_range (wO n f o) g ⟨by omega, hg.2⟩ hgw X Y hX hY X.length j
    have eL : (rd_L12 T (X.length : Int)).length = Y.length + 1 := h2 X.length (Nat.le_refl _)
    have s1 : T.set X.length ((rd_L12 T (X.length : Int)).set j 3) = setT T X.length j 3 := rfl
    have u := upd_set T X.length j 3 (by omega) (by have := h2 X.length (Nat.le_refl _); omega)
    refine Ev.step (f := fun k => pair_Align.l1 k (gridP X Y n f o) (X.length : Int) (Y.length : Int) (setT T X.length j 3) (bl.set j (dR (wO n f o) g X Y X.length j)) (List.replicate (Y.length + 1) 0) (Y.length : Int) ((j + 1 : Nat) : Int) g n f o) (fun k => by
      rw [pair_Align.l1, if_pos (by omega), if_pos (by omega), if_pos (by omega), if_pos (by omega), if_pos (by omega), if_pos (by omega), wsucc j (by omega), ws ((Y.length : Int) - (j : Int)) (by omega) (by omega), ← he, ws _ (by omega) (by omega)]
      simp only [Int.toNat_natCast]
      rw [s1]) ?_
    refine IH (j + 1) _ _ (by omega) (u.len.trans h1) (fun p hp => (u.lens p).trans (h2 p hp)) (fun p hp => ?_) (fun q hq => ?_) (by rw [List.length_set]; exact h5) (fun q hq => ?_) (by rw [getD_set_ne _ _ _ (by omega)]; exact h7)
    · rw [u.else_ _ _ (by omega)]; exact h3 p hp
    · by_cases e : q = j
      · subst e; exact u.here
      · rw [u.else_ _ _ (by omega)]; exact h4 q (by omega)
    · by_cases e : j = q
      · subst e; rw [getD_set_same _ _ (by omega)]
      · rw [getD_set_ne _ _ _ e]; exact h6 q (by omega)
theorem al_l0 : ∀ (d i : Nat) (T : List (List Int)), i + d = X.length + 1 → T.length = X.length + 1 → (∀ p, p < i → (T.getD p []).length = Y.length + 1) → (∀ p, p < i → at2 T p Y.length = 2) →
    Ev (fun k => pair_Align.l0 k (gridP X Y n f o) (X.length : Int) (Y.length : Int) T ((X.length + 1 : Nat) : Int) (i : Int) g n f o) (pL (wO n f o) g X Y 0 0, dL (wO n f o) g X Y, 0) := by
  intro d
  induction d with
  | zero =>
    intro i T hd h1 h2 h3
    refine Ev.step (fun k => by rw [pair_Align.l0, if_neg (by omega), wsucc Y.length (by omega), if_pos (by omega), if_pos (by omega), Int.toNat_natCast]) ?_
    refine al_l1 X Y g n f o hg hn hf hX hY Y.length 0 T _ (by omega) h1 (fun p hp => h2 p (by omega)) (fun p hp => h3 p (by omega)) (fun q hq => by omega) (by rw [List.length_replicate]) (fun q hq => by omega) ?_
    rw [getD_get _ _ (by rw [List.length_replicate]; omega), List.getElem_replicate]
  | succ d IH =>
    intro i T hd h1 h2 h3
    have eL : (rd_L12 (T.set i (List.replicate (Y.length + 1) 0)) (i : Int)).length = Y.length + 1 := by
      show ((T.set i (List.replicate (Y.length + 1) 0)).getD i []).length = _
      rw [getD_set_same _ _ (by omega), List.length_replicate]
    have s1 : (T.set i (List.replicate (Y.length + 1) 0)).set i ((rd_L12 (T.set i (List.replicate (Y.length + 1) 0)) (i : Int)).set Y.length 2) = setT (T.set i (List.replicate (Y.length + 1) 0)) i Y.length 2 := rfl
    have u := upd_set (T.set i (List.replicate (Y.length + 1) 0)) i Y.length 2 (by rw [List.length_set]; omega) (by have := eL; exact Nat.lt_of_lt_of_eq (Nat.lt_succ_self _) this.symm)
    refine Ev.step (f := fun k => pair_Align.l0 k (gridP X Y n f o) (X.length : Int) (Y.length : Int) (setT (T.set i (List.replicate (Y.length + 1) 0)) i Y.length 2) ((X.length + 1 : Nat) : Int) ((i + 1 : Nat) : Int) g n f o) (fun k => by
      rw [pair_Align.l0, if_pos (by omega), wsucc Y.length (by omega), if_pos (by omega), if_pos (by omega), if_pos (by omega), if_pos (by omega), Option.bind_some]
      simp only [Int.toNat_natCast]
      rw [if_pos (by omega), if_pos (by omega), wsucc i (by omega), s1]) ?_
    refine IH (i + 1) _ (by omega) (u.len.trans (by rw [List.length_set]; exact h1)) (fun p hp => ?_) (fun p hp => ?_)
    · rw [u.lens p]
      by_cases e : i = p
      · subst e; rw [getD_set_same _ _ (by omega), List.length_replicate]
      · rw [getD_set_ne _ _ _ e]; exact h2 p (by omega)
    · by_cases e : p = i
      · subst e; exact u.here
      · rw [u.else_ _ _ (by omega)]
        unfold at2
        rw [getD_set_ne _ _ _ (fun h => e h.symm)]
        exact h3 p (by omega)
end
def alignR (X Y : List ByteArray) (g n f o : Int) : List S61 × Int × Int := if (gridR X Y g n f o).2 = 0 then (pL (wO n f o) g X Y 0 0, dL (wO n f o) g X Y, 0) else ([], 0, (gridR X Y g n f o).2)
theorem align_eq (X Y : List ByteArray) (hX : smallL X) (hY : smallL Y) (g n f o : Int) : Ev (fun k => pair_Align.f k X Y g n f o) (alignR X Y g n f o) := by
  unfold alignR
  refine ev_bind (grid_eq X Y hX hY g n f o) ?_
  by_cases h : (gridR X Y g n f o).2 = 0
  · obtain ⟨e, hs, l1, l2⟩ := gridR_ok h
    unfold scaleOk at hs
    rw [if_pos h, e]
    refine Ev.congr (f := fun k => pair_Align.l0 k (gridP X Y n f o) (X.length : Int) (Y.length : Int) (List.replicate (X.length + 1) []) ((X.length + 1 : Nat) : Int) ((0 : Nat) : Int) g n f o) (fun k => by
      rw [if_pos rfl, wsucc X.length (by omega), if_pos (by omega), if_pos (by omega), Option.bind_some, Int.toNat_natCast, List.length_replicate]; rfl) ?_
    exact al_l0 X Y g n f o hs.1 hs.2.1 hs.2.2.1 l1 l2 (X.length + 1) 0 _ (by omega) (by rw [List.length_replicate]) (fun p hp => by omega) (fun p hp => by omega)
  · rw [if_neg h]
    exact Ev.congr (fun k => by rw [if_neg h]) (Ev.now _)
end Go.Proofs.YtcpbalnbgmjhjaaDoor.Pure
/-
  What a rune becomes, becomes itself; so a valid text that is folded is folded already.
-/
namespace Go.Proofs.YtcpbalnbgmjhjaaDoor.Pure
open Go.RowKit Go.Proofs.YtcpbalnbgmjhjaaDoor.Q Go.Proofs.YtcpbalnbgmjhjaaDoorW.PrintWords Go.Proofs.YtcpbalnbgmjhjaaDoorW.PrintLast Go.Proofs.YtcpbalnbgmjhjaaDoorW.PrintMore
/-! a rune's bytes are read as that rune -/
def okR (r : Nat) : Prop := r < 55296 ∨ (57343 < r ∧ r ≤ 1114111)
/-! what a rune becomes -/
theorem step_eq (o x : Int) : stepI o x = (let a := if fOn o 1 = true then lowerI x else x; let b := if fOn o 2 = true then unmarkedI a else a; if fOn o 8 = true then letterI b else b) := by
  unfold stepI stepsL
  cases fOn o 1 <;> cases fOn o 2 <;> cases fOn o 8 <;> simp [stepN]
def outR (o x : Int) : List Int := if foldDrop o x = true then [] else (foldS o x).map (stepI o)
theorem foldR_out (o x : Int) : foldR o x = (outR o x).flatMap fun y => Lib.encodeRune y := by
  unfold foldR outR foldB
  by_cases h : foldDrop o x = true
  · rw [if_pos h, if_pos h]; rfl
  · rw [if_neg h, if_neg h]
    rw [List.flatMap_map]
    exact congrArg (fun g => List.flatMap g (foldS o x)) (funext fun y => Utf.encode_list _)
def oddL : List Nat := [376, 338, 339, 383, 306, 307, 64256, 64257, 64258, 64259, 64260, 64261, 64262]
def midQ (x : Nat) : Bool :=
  let y := lowerI (x : Int)
  decide (y = (x : Int)) || (decide (256 ≤ y) && decide (y < 8000) && decide (lowerI y = y) && decide (kindI y ≠ 4) && decide (kindI y ≠ 2) && decide (ligI y = none))
theorem lower_big (x : Int) (h : 8100 ≤ x) : lowerI x = x := by
  have hj7 : ∀ k, fold_lower.j7 (k + 1) x false = some x := fun k => by rw [fold_lower.j7, if_neg (by decide), if_pos (by omega), if_neg (by omega)]
  have hj6 : ∀ k, fold_lower.j6 (k + 2) x false = some x := fun k => by rw [fold_lower.j6, if_neg (by decide), if_pos (by omega), decide_eq_false (by omega), hj7]
  have hj5 : ∀ k, fold_lower.j5 (k + 3) x false = some x := fun k => by rw [fold_lower.j5, if_neg (by decide), if_pos (by omega), decide_eq_false (by omega), hj6]
  have hj4 : ∀ k, fold_lower.j4 (k + 4) x false = some x := fun k => by rw [fold_lower.j4, if_neg (by decide), if_pos (by omega), decide_eq_false (by omega), hj5]
  have hj3 : ∀ k, fold_lower.j3 (k + 5) x false = some x := fun k => by rw [fold_lower.j3, if_neg (by decide), if_neg (by omega), if_neg (by omega), if_pos (by omega), decide_eq_false (by omega), hj4]
  have hj2 : ∀ k, fold_lower.j2 (k + 6) x false = some x := fun k => by rw [fold_lower.j2, if_neg (by decide), if_pos (by omega), decide_eq_false (by omega), hj3]
  have hj1 : ∀ k, fold_lower.j1 (k + 7) x false = some x := fun k => by rw [fold_lower.j1, if_neg (by decide), if_pos (by omega), if_neg (by omega), if_pos (by omega), decide_eq_false (by omega), hj2]
  have hj0 : ∀ k, fold_lower.j0 (k + 8) x false = some x := fun k => by rw [fold_lower.j0, if_neg (by decide), if_pos (by omega), if_neg (by omega), hj1]
  have hf : fold_lower.f 12 x = some x := by rw [fold_lower.f, if_pos (by omega), decide_eq_false (by omega), hj0 4]
  unfold lowerI
  rw [hf]
  rfl
end Go.Proofs.YtcpbalnbgmjhjaaDoor.Pure
