import Derived.Test.YtcpbalnbgmjhjaaDoorV518
import Derived.Test.YtcpbalnbgmjhjaaDoorV56
import Derived.Test.YtcpbalnbgmjhjaaDoorV57
import Derived.Test.YtcpbalnbgmjhjaaDoorV55
import Derived.Test.YtcpbalnbgmjhjaaDoorV59
import Derived.Test.YtcpbalnbgmjhjaaDoorV510
import Derived.Lib.MapLaws
import Derived.Test.YtcpbalnbgmjhjaaDoorV517
/-
  What words cost, in plain numbers: a text folded; which are too long; what two words cost.
-/
namespace Go.Proofs.YtcpbalnbgmjhjaaDoor.Pure
open Go.RowKit Go.Proofs.YtcpbalnbgmjhjaaDoor.G Go.Proofs.YtcpbalnbgmjhjaaDoorW.PrintWords Go.Proofs.YtcpbalnbgmjhjaaDoorW.PrintLast Go.Proofs.YtcpbalnbgmjhjaaDoorW.PrintMore
/-- A text folded. -/
def fd (s : ByteArray) (o : Int) : ByteArray := ⟨(foldT o (gCells s s.size 0)).toArray⟩
theorem fd_size (s : ByteArray) (o : Int) : (fd s o).size ≤ 12 * s.size := by
  have h1 := foldT_len o (gCells s s.size 0)
  have h2 := Pl.cells_le s
  show (foldT o (gCells s s.size 0)).toArray.size ≤ _
  simp
  omega
theorem fold_eq (s : ByteArray) (o : Int) (hs : s.size ≤ 1048576) (ho : 0 ≤ o ∧ o ≤ 31) : fold_Text.f s o = some (fd s o, 0) := by
  have h2 := Pl.cells_le s
  unfold fold_Text.f glyph_Cells.f
  rw [if_pos ho, if_pos (by omega), Option.bind_some, if_pos ⟨fun c hc => Pl.cells_byte s s.size 0 c hc, by omega⟩]
  rfl
theorem count_eq (t : ByteArray) (ht : t.size ≤ 4294967296) : glyph_Count.f t = some (((cb t).length : Nat) : Int) := by
  unfold glyph_Count.f
  rw [if_pos ht, cb_len, Pl.cells_length]
def longW (s : ByteArray) (o : Int) : Bool := decide (256 < (cb (fd s o)).length)
def wordOf (o : Int) (s : ByteArray) : S73 := ⟨s, fd s o⟩
theorem rdW_nat (l : List S73) (i : Nat) (h : i < l.length) : rd_T73 l (i : Int) = l[i] := by
  unfold rd_T73
  rw [Int.toNat_natCast, List.getD_eq_getElem?_getD, List.getElem?_eq_getElem h]
  rfl
theorem folded_loop (L : List ByteArray) (hL : ∀ s ∈ L, s.size ≤ 1048576) (hl : L.length ≤ 1024) (g n f o : Int) (ho : 0 ≤ o ∧ o ≤ 31) : ∀ (d i k : Nat) (acc : List S73), i + d = L.length → acc.length = i → d + 1 ≤ k →
    cost_folded.l0 k acc L (L.length : Int) (i : Int) g n f o = some (if (L.drop i).any (fun s => longW s o) = true then ([], 1) else (acc ++ (L.drop i).map (wordOf o), 0))
  | 0, i, k, acc, hd, ha, hk => by
    obtain ⟨k, rfl⟩ : ∃ m, k = m + 1 := ⟨k - 1, by omega⟩
    rw [cost_folded.l0, if_neg (by omega), List.drop_of_length_le (by omega)]
    simp
  | d + 1, i, k, acc, hd, ha, hk => by
    obtain ⟨k, rfl⟩ : ∃ m, k = m + 1 := ⟨k - 1, by omega⟩
    have hi : i < L.length := by omega
    have hs := hL _ (List.getElem_mem hi)
    have hz := fd_size L[i] o
    have e2 : ((i + 1 : Nat) : Int) = (i : Int) + 1 := by omega
    rw [cost_folded.l0, if_pos (by omega), if_pos (by omega), if_pos (by omega), rdOf_nat L i hi, fold_eq _ _ hs ho, Option.bind_some]
    dsimp only
    rw [count_eq _ (by omega), Option.bind_some, List.drop_eq_getElem_cons hi, List.any_cons]
    by_cases hlg : 256 < (cb (fd L[i] o)).length
    · rw [if_pos (by omega)]
      have : longW L[i] o = true := decide_eq_true hlg
      rw [this]
      simp
    · have hf : longW L[i] o = false := decide_eq_false hlg
      rw [if_neg (by omega), if_pos (by omega), ws ((i : Int) + 1) (by omega) (by omega), ← e2, folded_loop L hL hl g n f o ho d (i + 1) k _ (by omega) (by simp; omega) (by omega), hf, List.map_cons]
      simp [wordOf]
def foldedP (L : List ByteArray) (o : Int) : List S73 × Int := if 1024 < L.length then ([], 1) else if L.any (fun s => longW s o) = true then ([], 1) else (L.map (wordOf o), 0)
theorem folded_eq (L : List ByteArray) (hL : ∀ s ∈ L, s.size ≤ 1048576) (g n f o : Int) (ho : 0 ≤ o ∧ o ≤ 31) (k : Nat) (hk : 1025 ≤ k) : cost_folded.f k L g n f o = some (foldedP L o) := by
  unfold cost_folded.f foldedP
  by_cases h : 1024 < L.length
  · rw [if_pos (by omega), if_pos h]
  · rw [if_neg (by omega), if_neg h]
    have := folded_loop L hL (by omega) g n f o ho L.length 0 k [] (by omega) rfl (by omega)
    simpa using this
def lostB : List UInt8 := [226, 151, 140]
/-- What two words cost. -/
def twoP (a ka b kb : ByteArray) (n f : Int) : Int := if ka.data.toList = kb.data.toList then 0 else if a.data.toList = lostB ∨ b.data.toList = lostB then min n f else min f (((Lv.lev (cb ka) (cb kb) : Nat) : Int) * n)
theorem lev_256 (x y : ByteArray) (hx : (cb x).length ≤ 256) (hy : (cb y).length ≤ 256) : Lv.lev (cb x) (cb y) ≤ 256 := by
  have := Lv.lev_max (cb x) (cb y)
  omega
theorem two_eq (a ka b kb : ByteArray) (g n f o : Int) (hn : 1 ≤ n ∧ n ≤ 1000) (h1 : ka.size ≤ 12582912) (h2 : kb.size ≤ 12582912) (l1 : (cb ka).length ≤ 256) (l2 : (cb kb).length ≤ 256) (k : Nat) (hk : 30000000 ≤ k) :
    cost_two.f k a ka b kb g n f o = some (twoP a ka b kb n f) := by
  unfold cost_two.f twoP lostB
  simp only [toList_data]
  by_cases e1 : ka.data.toList = kb.data.toList
  · rw [if_pos e1, if_pos e1]
  · rw [if_neg e1, if_neg e1]
    by_cases e2 : a.data.toList = [226, 151, 140]
    · rw [if_pos e2, if_pos (Or.inl e2), mn_eq]
    · rw [if_neg e2]
      by_cases e3 : b.data.toList = [226, 151, 140]
      · rw [if_pos e3, if_pos (Or.inr e3), mn_eq]
      · have hlv := lev_256 ka kb l1 l2
        have hb1 : 0 ≤ ((Lv.lev (cb ka) (cb kb) : Nat) : Int) * n := Int.mul_nonneg (by omega) (by omega)
        have hb2 : ((Lv.lev (cb ka) (cb kb) : Nat) : Int) * n ≤ 256 * 1000 := Int.mul_le_mul (by omega) (by omega) (by omega) (by omega)
        rw [if_neg e3, if_neg (fun h => h.elim e2 e3), of_eq ka kb (by omega) (by omega) k (by unfold kOf; omega), Option.bind_some]
        unfold dOf
        rw [if_pos ⟨l1, l2⟩]
        dsimp only
        rw [ws _ (by omega) (by omega), mn_eq]
/-- What two words cost, by a scale; or the error. -/
def wP (a b : ByteArray) (g n f o : Int) : Int × Int := if scaleOk g n f o then (if longW a o = true ∨ longW b o = true then (0, 1) else (twoP a (fd a o) b (fd b o) n f, 0)) else (0, 90)
theorem short_of (s : ByteArray) (o : Int) (h : ¬ longW s o = true) : (cb (fd s o)).length ≤ 256 := by
  unfold longW at h
  simpa using h
theorem check_eq (g n f o : Int) : cost_Check.f g n f o = some (if scaleOk g n f o then 0 else 90) := rfl
theorem words_eq (a b : ByteArray) (ha : a.size ≤ 1048576) (hb : b.size ≤ 1048576) (g n f o : Int) (k : Nat) (hk : 30000000 ≤ k) : cost_Words.f k a b g n f o = some (wP a b g n f o) := by
  unfold cost_Words.f wP
  rw [check_eq, Option.bind_some]
  by_cases hs : scaleOk g n f o
  · have hs' := hs
    unfold scaleOk at hs'
    obtain ⟨_, hn, _, ho⟩ := hs'
    have z1 := fd_size a o
    have z2 := fd_size b o
    rw [if_pos hs, if_pos rfl, if_pos hs, folded_eq [a, b] (by intro s h; simp at h; rcases h with rfl | rfl <;> assumption) g n f o ho k (by omega), Option.bind_some]
    have hF : foldedP [a, b] o = if longW a o = true ∨ longW b o = true then ([], 1) else ([wordOf o a, wordOf o b], 0) := by
      unfold foldedP
      rw [if_neg (show ¬ 1024 < [a, b].length by simp)]
      simp
    rw [hF]
    by_cases hl : longW a o = true ∨ longW b o = true
    · rw [if_pos hl, if_pos hl, if_neg (by decide)]
    · rw [if_neg hl, if_neg hl, if_pos rfl, if_pos (by simp), if_pos (by simp)]
      have r0 : rd_T73 [wordOf o a, wordOf o b] 0 = wordOf o a := rfl
      have r1 : rd_T73 [wordOf o a, wordOf o b] 1 = wordOf o b := rfl
      rw [r0, r1]
      show ((cost_two.f k a (fd a o) b (fd b o) g n f o).bind fun t => some (t, 0)) = _
      rw [two_eq a (fd a o) b (fd b o) g n f o hn (by omega) (by omega) (short_of a o (fun h => hl (Or.inl h))) (short_of b o (fun h => hl (Or.inr h))) k hk, Option.bind_some]
  · rw [if_neg hs, if_neg hs]
    rw [if_neg (by decide)]
end Go.Proofs.YtcpbalnbgmjhjaaDoor.Pure
namespace Go.Proofs.YtcpbalnbgmjhjaaDoor.G
open Go.RowKit Go.Proofs.YtcpbalnbgmjhjaaDoorW.PrintWords Go.Proofs.YtcpbalnbgmjhjaaDoorW.PrintLast Go.Proofs.YtcpbalnbgmjhjaaDoorW.PrintMore
attribute [local go_sem] min2_int min_two min_three   -- for this text's walks alone
set_option linter.unusedVariables false
set_option linter.unusedSimpArgs false
/-! ### fold_Same: function 20 -/
def fold_Same.f (a0 : ByteArray) (a1 : ByteArray) (a2 : Int) : Option (Bool × Int) := (fold_Text.f a0 a2).bind fun bt20101 => (if bt20101.2 = 0 then ((fold_Text.f a1 a2).bind fun bt20103 => (some ((bt20101.1.toList == bt20103.1.toList), 0))) else (some (false, bt20101.2)))
end Go.Proofs.YtcpbalnbgmjhjaaDoor.G
namespace Go.Proofs.YtcpbalnbgmjhjaaDoor.G
open Go.RowKit Go.Proofs.YtcpbalnbgmjhjaaDoorW.PrintWords Go.Proofs.YtcpbalnbgmjhjaaDoorW.PrintLast Go.Proofs.YtcpbalnbgmjhjaaDoorW.PrintMore
attribute [local go_sem] min2_int min_two min_three   -- for this text's walks alone
set_option linter.unusedVariables false
set_option linter.unusedSimpArgs false
/-! ### siglumlaw09_CostEven: function 5 -/
def siglumlaw09_CostEven.f (k : Nat) (a0 : ByteArray) (a1 : ByteArray) (a2_0 : Int) (a2_1 : Int) (a2_2 : Int) (a2_3 : Int) : Option (Bool) := (siglumlaw09_awake.f k).bind fun t5102 => (if t5102 = true then ((cost_Words.f k a0 a1 a2_0 a2_1 a2_2 a2_3).bind fun bt5103 => ((cost_Words.f k a1 a0 a2_0 a2_1 a2_2 a2_3).bind fun bt5105 => (if bt5103.2 = 0 then ((fold_Same.f a0 a1 a2_3).bind fun bt5107 => (if bt5105.2 = 0 then (if bt5107.2 = 0 then (if bt5103.1 = bt5105.1 then (if bt5103.1 ≥ 0 then (if bt5103.1 ≤ a2_2 then (some ((bt5103.1 == 0) == bt5107.1)) else (some false)) else (some false)) else (some false)) else (some false)) else (some false))) else (if bt5105.2 = bt5103.2 then (if bt5103.1 = 0 then (if bt5105.1 = 0 then (if bt5103.2 = 90 then (some true) else (some (bt5103.2 == 1))) else (some false)) else (some false)) else (some false))))) else (some false))
end Go.Proofs.YtcpbalnbgmjhjaaDoor.G
/-
  The same both ways, at most Far, 0 just for the same.
-/
namespace Go.Proofs.YtcpbalnbgmjhjaaDoor.Pure
open Go.RowKit Go.Proofs.YtcpbalnbgmjhjaaDoor.G Go.Proofs.YtcpbalnbgmjhjaaDoorW.PrintWords Go.Proofs.YtcpbalnbgmjhjaaDoorW.PrintLast Go.Proofs.YtcpbalnbgmjhjaaDoorW.PrintMore
theorem aw9a : wP ⟨#[67, 97, 116]⟩ ⟨#[114, 97, 116]⟩ 2 1 3 31 = (1, 0) := by decide +kernel
theorem aw9b : wP ⟨#[99, 97, 116]⟩ ⟨#[100, 111, 103, 115]⟩ 2 1 3 31 = (3, 0) := by decide +kernel
theorem awake9 (k : Nat) (hk : 30000000 ≤ k) : siglumlaw09_awake.f k = some true := by
  unfold siglumlaw09_awake.f
  rw [words_eq _ _ (by decide) (by decide) _ _ _ _ k hk, Option.bind_some, words_eq _ _ (by decide) (by decide) _ _ _ _ k hk, Option.bind_some, aw9a, aw9b, check_eq]
  rfl
end Go.Proofs.YtcpbalnbgmjhjaaDoor.Pure
/-
  Two lists of words, in plain numbers: their grid; the least price of what is left of both; the alignment that is walked.
-/
namespace Go.Proofs.YtcpbalnbgmjhjaaDoor.Pure
open Go.RowKit Go.Proofs.YtcpbalnbgmjhjaaDoor.G Go.Proofs.YtcpbalnbgmjhjaaDoorW.PrintWords Go.Proofs.YtcpbalnbgmjhjaaDoorW.PrintLast Go.Proofs.YtcpbalnbgmjhjaaDoorW.PrintMore
theorem ev_at {α : Type} {g : Nat → Option α} {r : α} (K : Nat) (h : ∀ k, K ≤ k → g k = some r) : Ev g r := ⟨K, h⟩
theorem ev_bind {α β : Type} {g : Nat → Option α} {f : Nat → α → Option β} {a : α} {r : β} (h : Ev g a) (k : Ev (fun n => f n a) r) : Ev (fun n => (g n).bind (f n)) r := Ev.bind h k
theorem wsucc (i : Nat) (h : i < 4611686018427387904) : wrap64 ((i : Int) + 1) = ((i + 1 : Nat) : Int) := by rw [ws _ (by omega) (by omega)]; omega
/-! two lists -/
/-- The least price of two lists. -/
def dL {α : Type} (w : α → α → Int) (gap : Int) : List α → List α → Int
  | [], ys => (ys.length : Int) * gap
  | _ :: xs, [] => ((xs.length + 1 : Nat) : Int) * gap
  | x :: xs, y :: ys => min (min (dL w gap xs ys + w x y) (dL w gap xs (y :: ys) + gap)) (dL w gap (x :: xs) ys + gap)
termination_by xs ys => xs.length + ys.length
section
variable {α : Type} (w : α → α → Int) (gap : Int)
/-- The least price of what is left from two places on. -/
def dR (X Y : List α) (i j : Nat) : Int := dL w gap (X.drop i) (Y.drop j)
end
/-! tables -/
def at2 (T : List (List Int)) (i j : Nat) : Int := (T.getD i []).getD j 0
def setT (T : List (List Int)) (i j : Nat) (v : Int) : List (List Int) := T.set i ((T.getD i []).set j v)
theorem getD_set_same {β : Type} (l : List β) (i : Nat) (h : i < l.length) (v d : β) : (l.set i v).getD i d = v := by
  rw [List.getD_eq_getElem?_getD, List.getElem?_set, if_pos rfl, if_pos h]; rfl
theorem getD_set_ne {β : Type} (l : List β) (i j : Nat) (h : i ≠ j) (v d : β) : (l.set i v).getD j d = l.getD j d := by
  rw [List.getD_eq_getElem?_getD, List.getElem?_set, if_neg h, ← List.getD_eq_getElem?_getD]
theorem getD_get {β : Type} (l : List β) (i : Nat) (h : i < l.length) (d : β) : l.getD i d = l[i] := by
  rw [List.getD_eq_getElem?_getD, List.getElem?_eq_getElem h]; rfl
/-- T' is T but for one place. -/
structure Upd (T T' : List (List Int)) (i j : Nat) (v : Int) : Prop where
  len : T'.length = T.length
  lens : ∀ p, (T'.getD p []).length = (T.getD p []).length
  here : at2 T' i j = v
  else_ : ∀ p q, ¬ (p = i ∧ q = j) → at2 T' p q = at2 T p q
theorem upd_set (T : List (List Int)) (i j : Nat) (v : Int) (hi : i < T.length) (hj : j < (T.getD i []).length) : Upd T (setT T i j v) i j v := by
  refine ⟨by unfold setT; rw [List.length_set], fun p => ?_, ?_, fun p q h => ?_⟩
  · unfold setT
    by_cases e : i = p
    · subst e; rw [getD_set_same _ _ hi, List.length_set]
    · rw [getD_set_ne _ _ _ e]
  · unfold at2 setT
    rw [getD_set_same _ _ hi, getD_set_same _ _ hj]
  · unfold at2 setT
    by_cases e : i = p
    · subst e
      rw [getD_set_same _ _ hi, getD_set_ne _ _ _ (fun e => h ⟨rfl, e.symm⟩)]
    · rw [getD_set_ne _ _ _ e]
theorem Upd.trans {T T' T'' : List (List Int)} {i j : Nat} {a b : Int} (h : Upd T T' i j a) (g : Upd T' T'' i j b) : Upd T T'' i j b :=
  ⟨g.len.trans h.len, fun p => (g.lens p).trans (h.lens p), g.here, fun p q e => (g.else_ p q e).trans (h.else_ p q e)⟩
/-! the grid -/
/-- What two words cost, by a scale. -/
def wO (n f o : Int) (x y : ByteArray) : Int := twoP x (fd x o) y (fd y o) n f
def gridP (X Y : List ByteArray) (n f o : Int) : List (List Int) := X.map fun x => Y.map fun y => wO n f o x y
theorem grid_len (X Y : List ByteArray) (n f o : Int) : (gridP X Y n f o).length = X.length := by unfold gridP; rw [List.length_map]
theorem grid_row (X Y : List ByteArray) (n f o : Int) (i : Nat) (h : i < X.length) : (gridP X Y n f o).getD i [] = Y.map fun y => wO n f o X[i] y := by
  rw [getD_get _ _ (by rw [grid_len]; exact h)]
  unfold gridP
  rw [List.getElem_map]
theorem grid_rlen (X Y : List ByteArray) (n f o : Int) (i : Nat) (h : i < X.length) : ((gridP X Y n f o).getD i []).length = Y.length := by rw [grid_row _ _ _ _ _ _ h, List.length_map]
theorem grid_at (X Y : List ByteArray) (n f o : Int) (i j : Nat) (h : i < X.length) (hj : j < Y.length) : at2 (gridP X Y n f o) i j = wO n f o X[i] Y[j] := by
  unfold at2
  rw [grid_row _ _ _ _ _ _ h, getD_get _ _ (by rw [List.length_map]; exact hj), List.getElem_map]
def longL (L : List ByteArray) (o : Int) : Prop := 1024 < L.length ∨ L.any (fun s => longW s o) = true
instance (L : List ByteArray) (o : Int) : Decidable (longL L o) := by unfold longL; infer_instance
theorem folded_long (L : List ByteArray) (o : Int) : foldedP L o = if longL L o then ([], 1) else (L.map (wordOf o), 0) := by
  unfold foldedP
  by_cases h : 1024 < L.length
  · rw [if_pos h, if_pos (show longL L o from Or.inl h)]
  · by_cases h2 : L.any (fun s => longW s o) = true
    · rw [if_neg h, if_pos h2, if_pos (show longL L o from Or.inr h2)]
    · rw [if_neg h, if_neg h2, if_neg (fun e : longL L o => Or.elim e h h2)]
theorem not_long {L : List ByteArray} {o : Int} (h : ¬ longL L o) : L.length ≤ 1024 ∧ ∀ s ∈ L, ¬ longW s o = true := by
  unfold longL at h
  refine ⟨by omega, fun s hs e => h (Or.inr (List.any_eq_true.2 ⟨s, hs, e⟩))⟩
/-- A grid, or the error. -/
def gridR (X Y : List ByteArray) (g n f o : Int) : List (List Int) × Int := if scaleOk g n f o then (if longL X o ∨ longL Y o then ([], 1) else (gridP X Y n f o, 0)) else ([], 90)
def smallL (L : List ByteArray) : Prop := ∀ s ∈ L, s.size ≤ 1048576
section
variable (X Y : List ByteArray) (g n f o : Int) (hn : 1 ≤ n ∧ n ≤ 1000) (hX : smallL X) (hY : smallL Y) (lX : ¬ longL X o) (lY : ¬ longL Y o)
include hn hX hY lX lY
theorem grid_two (i j : Nat) (hi : i < X.length) (hj : j < Y.length) : Ev (fun k => cost_two.f k X[i] (fd X[i] o) Y[j] (fd Y[j] o) g n f o) (wO n f o X[i] Y[j]) := by
  have z1 := fd_size X[i] o
  have z2 := fd_size Y[j] o
  have s1 := hX _ (List.getElem_mem hi)
  have s2 := hY _ (List.getElem_mem hj)
  exact ev_at 30000000 fun k hk => two_eq X[i] (fd X[i] o) Y[j] (fd Y[j] o) g n f o hn (by omega) (by omega) (short_of _ _ ((not_long lX).2 _ (List.getElem_mem hi))) (short_of _ _ ((not_long lY).2 _ (List.getElem_mem hj))) k hk
theorem grid_l1 (i : Nat) (hi : i < X.length) (R : List (List Int) × Int)
    (ih : ∀ T : List (List Int), T.length = X.length → (∀ p, p < i + 1 → T.getD p [] = (gridP X Y n f o).getD p []) → Ev (fun k => cost_Grid.l0 k (Y.map (wordOf o)) T (X.map (wordOf o)) (X.length : Int) ((i + 1 : Nat) : Int) g n f o) R) :
    ∀ (d j : Nat) (T : List (List Int)), j + d = Y.length → T.length = X.length → (∀ p, p < i → T.getD p [] = (gridP X Y n f o).getD p []) → (T.getD i []).length = Y.length → (∀ q, q < j → at2 T i q = at2 (gridP X Y n f o) i q) →
    Ev (fun k => cost_Grid.l1 k (Y.map (wordOf o)) T (i : Int) (X.map (wordOf o)) (X.length : Int) (i : Int) (Y.map (wordOf o)) (Y.length : Int) (j : Int) g n f o X[i] (fd X[i] o)) R
  | 0, j, T, hd, hT, hp, hr, hq => by
    have l1 := (not_long lX).1
    refine Ev.step (fun k => by rw [cost_Grid.l1, if_neg (by omega), wsucc i (by omega)]) (ih T hT fun p hp' => ?_)
    by_cases e : p = i
    · subst e
      refine List.ext_getElem (by rw [hr, grid_rlen _ _ _ _ _ _ hi]) fun q h1 h2 => ?_
      have := hq q (by omega)
      unfold at2 at this
      rwa [getD_get _ _ h1, getD_get _ _ h2] at this
    · exact hp p (by omega)
  | d + 1, j, T, hd, hT, hp, hr, hq => by
    have l2 := (not_long lY).1
    have hj : j < Y.length := by omega
    have hjm : j < (Y.map (wordOf o)).length := by rw [List.length_map]; exact hj
    refine Ev.step (fun k => by
      rw [cost_Grid.l1, if_pos (by omega), if_pos (by omega), if_pos (by rw [List.length_map]; omega), if_pos (by omega), if_pos (by omega), rdW_nat _ j hjm, List.getElem_map]; rfl) (ev_bind (f := fun k t => if (j : Int) < ((rd_L11 T (i : Int)).length : Int) then cost_Grid.l1 k (Y.map (wordOf o)) (T.set (i : Int).toNat ((rd_L11 T (i : Int)).set (j : Int).toNat t)) (i : Int) (X.map (wordOf o)) (X.length : Int) (i : Int) (Y.map (wordOf o)) (Y.length : Int) (wrap64 ((j : Int) + 1)) g n f o X[i] (fd X[i] o) else none) (grid_two X Y g n f o hn hX hY lX lY i j hi hj) ?_)
    have hr' : (rd_L11 T (i : Int)).length = Y.length := hr
    have u := upd_set T i j (wO n f o X[i] Y[j]) (by omega) (by omega)
    refine Ev.congr (fun k => by rw [if_pos (by omega), wsucc j (by omega)]; rfl) (grid_l1 i hi R ih d (j + 1) (setT T i j (wO n f o X[i] Y[j])) (by omega) (u.len.trans hT) (fun p hp' => ?_) ((u.lens i).trans hr) (fun q hq' => ?_))
    · rw [← hp p hp']
      unfold setT
      rw [getD_set_ne _ _ _ (by omega)]
    · by_cases e : q = j
      · subst e; rw [u.here, grid_at _ _ _ _ _ _ _ hi hj]
      · rw [u.else_ i q (fun h => e h.2), hq q (by omega)]
theorem grid_l0 : ∀ (d i : Nat) (T : List (List Int)), i + d = X.length → T.length = X.length → (∀ p, p < i → T.getD p [] = (gridP X Y n f o).getD p []) →
    Ev (fun k => cost_Grid.l0 k (Y.map (wordOf o)) T (X.map (wordOf o)) (X.length : Int) (i : Int) g n f o) (gridP X Y n f o, 0)
  | 0, i, T, hd, hT, hp => by
    have e : T = gridP X Y n f o := by
      refine List.ext_getElem (by rw [hT, grid_len]) fun p h1 h2 => ?_
      have := hp p (by omega)
      rwa [getD_get _ _ h1, getD_get _ _ h2] at this
    exact Ev.step (f := fun _ => some (gridP X Y n f o, 0)) (fun k => by rw [cost_Grid.l0, if_neg (by omega), e]) (Ev.now _)
  | d + 1, i, T, hd, hT, hp => by
    have l2 := (not_long lY).1
    have hi : i < X.length := by omega
    have him : i < (X.map (wordOf o)).length := by rw [List.length_map]; exact hi
    refine Ev.step (fun k => by
      rw [cost_Grid.l0, if_pos (by omega), if_pos (by omega), if_pos (by rw [List.length_map]; omega), if_pos (by omega), if_pos (by rw [List.length_map]; omega), if_pos (by omega), rdW_nat _ i him, List.getElem_map, Int.toNat_natCast, Int.toNat_natCast]) ?_
    have e : (Y.map (wordOf o)).length = Y.length := List.length_map _
    refine Ev.congr (fun k => by rw [e]; rfl) (grid_l1 X Y g n f o hn hX hY lX lY i hi _ (fun T' h1 h2 => grid_l0 d (i + 1) T' (by omega) h1 h2) Y.length 0 (T.set i (List.replicate Y.length 0)) (by omega) (by rw [List.length_set]; exact hT) (fun p hp' => ?_) ?_ (fun q hq => by omega))
    · rw [getD_set_ne _ _ _ (by omega)]; exact hp p hp'
    · rw [getD_set_same _ _ (by omega), List.length_replicate]
end
theorem grid_eq (X Y : List ByteArray) (hX : smallL X) (hY : smallL Y) (g n f o : Int) : Ev (fun k => cost_Grid.f k X Y g n f o) (gridR X Y g n f o) := by
  unfold gridR
  by_cases hs : scaleOk g n f o
  · have hs' := hs
    unfold scaleOk at hs'
    obtain ⟨_, hn, _, ho⟩ := hs'
    rw [if_pos hs]
    have e : ∀ k, cost_Grid.f k X Y g n f o = _ := fun k => by unfold cost_Grid.f; rw [check_eq, if_pos hs, Option.bind_some, if_pos rfl]
    refine Ev.congr e (ev_bind (ev_at 1025 fun k hk => folded_eq X hX g n f o ho k hk) ?_)
    rw [folded_long]
    by_cases lX : longL X o
    · rw [if_pos lX, if_pos (Or.inl lX)]
      exact Ev.congr (fun k => by rw [if_neg (by decide)]) (Ev.now _)
    · rw [if_neg lX]
      refine Ev.congr (fun k => by rw [if_pos rfl]) (ev_bind (ev_at 1025 fun k hk => folded_eq Y hY g n f o ho k hk) ?_)
      rw [folded_long]
      by_cases lY : longL Y o
      · rw [if_pos lY, if_pos (Or.inr lY)]
        exact Ev.congr (fun k => by rw [if_neg (by decide)]) (Ev.now _)
      · rw [if_neg lY, if_neg (fun h => h.elim lX lY)]
        have l1 := (not_long lX).1
        have em : (X.map (wordOf o)).length = X.length := List.length_map _
        refine Ev.congr (f := fun k => cost_Grid.l0 k (Y.map (wordOf o)) (List.replicate X.length []) (X.map (wordOf o)) (X.length : Int) ((0 : Nat) : Int) g n f o) (fun k => by rw [if_pos rfl]; dsimp only; rw [em, if_pos (by omega), if_pos (by omega), Int.toNat_natCast]; rfl) ?_
        exact grid_l0 X Y g n f o hn hX hY lX lY X.length 0 (List.replicate X.length []) (by omega) (by rw [List.length_replicate]) (fun p hp => by omega)
  · rw [if_neg hs]
    exact Ev.congr (fun k => by unfold cost_Grid.f; rw [check_eq, if_neg hs, Option.bind_some, if_neg (by decide)]) (Ev.now _)
theorem gridR_ok {X Y : List ByteArray} {g n f o : Int} (h : (gridR X Y g n f o).2 = 0) : gridR X Y g n f o = (gridP X Y n f o, 0) ∧ scaleOk g n f o ∧ X.length ≤ 1024 ∧ Y.length ≤ 1024 := by
  unfold gridR at h ⊢
  by_cases hs : scaleOk g n f o
  · rw [if_pos hs] at h ⊢
    by_cases hl : longL X o ∨ longL Y o
    · rw [if_pos hl] at h; cases h
    · rw [if_neg hl]
      exact ⟨rfl, hs, (not_long (fun e => hl (Or.inl e))).1, (not_long (fun e => hl (Or.inr e))).1⟩
  · rw [if_neg hs] at h; cases h
end Go.Proofs.YtcpbalnbgmjhjaaDoor.Pure
/-
  What a rune becomes, becomes itself; so a valid text that is folded is folded already.
-/
namespace Go.Proofs.YtcpbalnbgmjhjaaDoor.Pure
open Go.RowKit Go.Proofs.YtcpbalnbgmjhjaaDoor.G Go.Proofs.YtcpbalnbgmjhjaaDoorW.PrintWords Go.Proofs.YtcpbalnbgmjhjaaDoorW.PrintLast Go.Proofs.YtcpbalnbgmjhjaaDoorW.PrintMore
/-! a rune's bytes are read as that rune -/
def okR (r : Nat) : Prop := r < 55296 ∨ (57343 < r ∧ r ≤ 1114111)
/-! what a rune becomes -/
theorem step_eq (o x : Int) : stepI o x = (let a := if fOn o 1 = true then lowerI x else x; let b := if fOn o 2 = true then unmarkedI a else a; if fOn o 8 = true then letterI b else b) := by
  unfold stepI stepsL
  cases fOn o 1 <;> cases fOn o 2 <;> cases fOn o 8 <;> simp [stepN]
def outR (o x : Int) : List Int := if foldDrop o x = true then [] else (foldS o x).map (stepI o)
theorem foldR_out (o x : Int) : foldR o x = (outR o x).flatMap fun y => Lib.encodeRune y := by
  unfold foldR outR foldB
  by_cases h : foldDrop o x = true
  · rw [if_pos h, if_pos h]; rfl
  · rw [if_neg h, if_neg h]
    rw [List.flatMap_map]
    exact congrArg (fun g => List.flatMap g (foldS o x)) (funext fun y => Utf.encode_list _)
def oddL : List Nat := [376, 338, 339, 383, 306, 307, 64256, 64257, 64258, 64259, 64260, 64261, 64262]
/-- What lower makes of a rune of the middle. -/
def midQ (x : Nat) : Bool :=
  let y := lowerI (x : Int)
  decide (y = (x : Int)) || (decide (256 ≤ y) && decide (y < 8000) && decide (lowerI y = y) && decide (kindI y ≠ 4) && decide (kindI y ≠ 2) && decide (ligI y = none))
theorem lower_big (x : Int) (h : 8100 ≤ x) : lowerI x = x := by
  have hj7 : ∀ k, fold_lower.j7 (k + 1) x false = some x := fun k => by rw [fold_lower.j7, if_neg (by decide), if_pos (by omega), if_neg (by omega)]
  have hj6 : ∀ k, fold_lower.j6 (k + 2) x false = some x := fun k => by rw [fold_lower.j6, if_neg (by decide), if_pos (by omega), decide_eq_false (by omega), hj7]
  have hj5 : ∀ k, fold_lower.j5 (k + 3) x false = some x := fun k => by rw [fold_lower.j5, if_neg (by decide), if_pos (by omega), decide_eq_false (by omega), hj6]
  have hj4 : ∀ k, fold_lower.j4 (k + 4) x false = some x := fun k => by rw [fold_lower.j4, if_neg (by decide), if_pos (by omega), decide_eq_false (by omega), hj5]
  have hj3 : ∀ k, fold_lower.j3 (k + 5) x false = some x := fun k => by rw [fold_lower.j3, if_neg (by decide), if_neg (by omega), if_neg (by omega), if_pos (by omega), decide_eq_false (by omega), hj4]
  have hj2 : ∀ k, fold_lower.j2 (k + 6) x false = some x := fun k => by rw [fold_lower.j2, if_neg (by decide), if_pos (by omega), decide_eq_false (by omega), hj3]
  have hj1 : ∀ k, fold_lower.j1 (k + 7) x false = some x := fun k => by rw [fold_lower.j1, if_neg (by decide), if_pos (by omega), if_neg (by omega), if_pos (by omega), decide_eq_false (by omega), hj2]
  have hj0 : ∀ k, fold_lower.j0 (k + 8) x false = some x := fun k => by rw [fold_lower.j0, if_neg (by decide), if_pos (by omega), if_neg (by omega), hj1]
  have hf : fold_lower.f 12 x = some x := by rw [fold_lower.f, if_pos (by omega), decide_eq_false (by omega), hj0 4]
  unfold lowerI
  rw [hf]
  rfl
end Go.Proofs.YtcpbalnbgmjhjaaDoor.Pure
