import Derived.Test.YtcpbalnbgmjhjaaDoorV117
import Derived.Test.YtcpbalnbgmjhjaaDoorV17
import Derived.Test.YtcpbalnbgmjhjaaDoorV18
import Derived.Test.YtcpbalnbgmjhjaaDoorV15
import Derived.Test.YtcpbalnbgmjhjaaDoorV110
import Derived.Lib.MapLaws
import Derived.Test.YtcpbalnbgmjhjaaDoorV116
/-
  What words cost, in plain numbers: a text folded; which are too long; what two words cost.
-/
namespace Go.Proofs.YtcpbalnbgmjhjaaDoor.Pure
open Go.RowKit Go.Proofs.YtcpbalnbgmjhjaaDoor.G Go.Proofs.YtcpbalnbgmjhjaaDoorW.PrintWords Go.Proofs.YtcpbalnbgmjhjaaDoorW.PrintLast Go.Proofs.YtcpbalnbgmjhjaaDoorW.PrintMore
/-- A text folded. -/
def fd (s : ByteArray) (o : Int) : ByteArray := ⟨(foldT o (gCells s s.size 0)).toArray⟩
theorem fd_size (s : ByteArray) (o : Int) : (fd s o).size ≤ 12 * s.size := by
  have h1 := foldT_len o (gCells s s.size 0)
  have h2 := Pl.cells_le s
  show (foldT o (gCells s s.size 0)).toArray.size ≤ _
  simp
  omega
theorem fold_eq (s : ByteArray) (o : Int) (hs : s.size ≤ 1048576) (ho : 0 ≤ o ∧ o ≤ 31) : fold_Text.f s o = some (fd s o, 0) := by
  have h2 := Pl.cells_le s
  unfold fold_Text.f glyph_Cells.f
  rw [if_pos ho, if_pos (by omega), Option.bind_some, if_pos ⟨fun c hc => Pl.cells_byte s s.size 0 c hc, by omega⟩]
  rfl
theorem count_eq (t : ByteArray) (ht : t.size ≤ 4294967296) : glyph_Count.f t = some (((cb t).length : Nat) : Int) := by
  unfold glyph_Count.f
  rw [if_pos ht, cb_len, Pl.cells_length]
def longW (s : ByteArray) (o : Int) : Bool := decide (256 < (cb (fd s o)).length)
def wordOf (o : Int) (s : ByteArray) : S73 := ⟨s, fd s o⟩
theorem folded_loop (L : List ByteArray) (hL : ∀ s ∈ L, s.size ≤ 1048576) (hl : L.length ≤ 1024) (g n f o : Int) (ho : 0 ≤ o ∧ o ≤ 31) : ∀ (d i k : Nat) (acc : List S73), i + d = L.length → acc.length = i → d + 1 ≤ k →
    cost_folded.l0 k acc L (L.length : Int) (i : Int) g n f o = some (if (L.drop i).any (fun s => longW s o) = true then ([], 1) else (acc ++ (L.drop i).map (wordOf o), 0))
  | 0, i, k, acc, hd, ha, hk => by
    obtain ⟨k, rfl⟩ : ∃ m, k = m + 1 := ⟨k - 1, by omega⟩
    rw [cost_folded.l0, if_neg (by omega), List.drop_of_length_le (by omega)]
    simp
  | d + 1, i, k, acc, hd, ha, hk => by
    obtain ⟨k, rfl⟩ : ∃ m, k = m + 1 := ⟨k - 1, by omega⟩
    have hi : i < L.length := by omega
    have hs := hL _ (List.getElem_mem hi)
    have hz := fd_size L[i] o
    have e2 : ((i + 1 : Nat) : Int) = (i : Int) + 1 := by omega
    rw [cost_folded.l0, if_pos (by omega), if_pos (by omega), if_pos (by omega), rdOf_nat L i hi, fold_eq _ _ hs ho, Option.bind_some]
    dsimp only
    rw [count_eq _ (by omega), Option.bind_some, List.drop_eq_getElem_cons hi, List.any_cons]
    by_cases hlg : 256 < (cb (fd L[i] o)).length
    · rw [if_pos (by omega)]
      have : longW L[i] o = true := decide_eq_true hlg
      rw [this]
      simp
    · have hf : longW L[i] o = false := decide_eq_false hlg
      rw [if_neg (by omega), if_pos (by omega), ws ((i : Int) + 1) (by omega) (by omega), ← e2, folded_loop L hL hl g n f o ho d (i + 1) k _ (by omega) (by simp; omega) (by omega), hf, List.map_cons]
      simp [wordOf]
def foldedP (L : List ByteArray) (o : Int) : List S73 × Int := if 1024 < L.length then ([], 1) else if L.any (fun s => longW s o) = true then ([], 1) else (L.map (wordOf o), 0)
theorem folded_eq (L : List ByteArray) (hL : ∀ s ∈ L, s.size ≤ 1048576) (g n f o : Int) (ho : 0 ≤ o ∧ o ≤ 31) (k : Nat) (hk : 1025 ≤ k) : cost_folded.f k L g n f o = some (foldedP L o) := by
  unfold cost_folded.f foldedP
  by_cases h : 1024 < L.length
  · rw [if_pos (by omega), if_pos h]
  · rw [if_neg (by omega), if_neg h]
    have := folded_loop L hL (by omega) g n f o ho L.length 0 k [] (by omega) rfl (by omega)
    simpa using this
def lostB : List UInt8 := [226, 151, 140]
/-- What two words cost. -/
def twoP (a ka b kb : ByteArray) (n f : Int) : Int := if ka.data.toList = kb.data.toList then 0 else if a.data.toList = lostB ∨ b.data.toList = lostB then min n f else min f (((Lv.lev (cb ka) (cb kb) : Nat) : Int) * n)
theorem lev_256 (x y : ByteArray) (hx : (cb x).length ≤ 256) (hy : (cb y).length ≤ 256) : Lv.lev (cb x) (cb y) ≤ 256 := by
  have := Lv.lev_max (cb x) (cb y)
  omega
theorem two_eq (a ka b kb : ByteArray) (g n f o : Int) (hn : 1 ≤ n ∧ n ≤ 1000) (h1 : ka.size ≤ 12582912) (h2 : kb.size ≤ 12582912) (l1 : (cb ka).length ≤ 256) (l2 : (cb kb).length ≤ 256) (k : Nat) (hk : 30000000 ≤ k) :
    cost_two.f k a ka b kb g n f o = some (twoP a ka b kb n f) := by
  unfold cost_two.f twoP lostB
  simp only [toList_data]
  by_cases e1 : ka.data.toList = kb.data.toList
  · rw [if_pos e1, if_pos e1]
  · rw [if_neg e1, if_neg e1]
    by_cases e2 : a.data.toList = [226, 151, 140]
    · rw [if_pos e2, if_pos (Or.inl e2), mn_eq]
    · rw [if_neg e2]
      by_cases e3 : b.data.toList = [226, 151, 140]
      · rw [if_pos e3, if_pos (Or.inr e3), mn_eq]
      · have hlv := lev_256 ka kb l1 l2
        have hb1 : 0 ≤ ((Lv.lev (cb ka) (cb kb) : Nat) : Int) * n := Int.mul_nonneg (by omega) (by omega)
        have hb2 : ((Lv.lev (cb ka) (cb kb) : Nat) : Int) * n ≤ 256 * 1000 := Int.mul_le_mul (by omega) (by omega) (by omega) (by omega)
        rw [if_neg e3, if_neg (fun h => h.elim e2 e3), of_eq ka kb (by omega) (by omega) k (by unfold kOf; omega), Option.bind_some]
        unfold dOf
        rw [if_pos ⟨l1, l2⟩]
        dsimp only
        rw [ws _ (by omega) (by omega), mn_eq]
/-- What two words cost, by a scale; or the error. -/
def wP (a b : ByteArray) (g n f o : Int) : Int × Int := if scaleOk g n f o then (if longW a o = true ∨ longW b o = true then (0, 1) else (twoP a (fd a o) b (fd b o) n f, 0)) else (0, 90)
theorem short_of (s : ByteArray) (o : Int) (h : ¬ longW s o = true) : (cb (fd s o)).length ≤ 256 := by
  unfold longW at h
  simpa using h
theorem check_eq (g n f o : Int) : cost_Check.f g n f o = some (if scaleOk g n f o then 0 else 90) := rfl
theorem words_eq (a b : ByteArray) (ha : a.size ≤ 1048576) (hb : b.size ≤ 1048576) (g n f o : Int) (k : Nat) (hk : 30000000 ≤ k) : cost_Words.f k a b g n f o = some (wP a b g n f o) := by
  unfold cost_Words.f wP
  rw [check_eq, Option.bind_some]
  by_cases hs : scaleOk g n f o
  · have hs' := hs
    unfold scaleOk at hs'
    obtain ⟨_, hn, _, ho⟩ := hs'
    have z1 := fd_size a o
    have z2 := fd_size b o
    rw [if_pos hs, if_pos rfl, if_pos hs, folded_eq [a, b] (by intro s h; simp at h; rcases h with rfl | rfl <;> assumption) g n f o ho k (by omega), Option.bind_some]
    have hF : foldedP [a, b] o = if longW a o = true ∨ longW b o = true then ([], 1) else ([wordOf o a, wordOf o b], 0) := by
      unfold foldedP
      rw [if_neg (show ¬ 1024 < [a, b].length by simp)]
      simp
    rw [hF]
    by_cases hl : longW a o = true ∨ longW b o = true
    · rw [if_pos hl, if_pos hl, if_neg (by decide)]
    · rw [if_neg hl, if_neg hl, if_pos rfl, if_pos (by simp), if_pos (by simp)]
      have r0 : rd_T73 [wordOf o a, wordOf o b] 0 = wordOf o a := rfl
      have r1 : rd_T73 [wordOf o a, wordOf o b] 1 = wordOf o b := rfl
      rw [r0, r1]
      show ((cost_two.f k a (fd a o) b (fd b o) g n f o).bind fun t => some (t, 0)) = _
      rw [two_eq a (fd a o) b (fd b o) g n f o hn (by omega) (by omega) (short_of a o (fun h => hl (Or.inl h))) (short_of b o (fun h => hl (Or.inr h))) k hk, Option.bind_some]
  · rw [if_neg hs, if_neg hs]
    rw [if_neg (by decide)]
end Go.Proofs.YtcpbalnbgmjhjaaDoor.Pure
namespace Go.Proofs.YtcpbalnbgmjhjaaDoor.G
open Go.RowKit Go.Proofs.YtcpbalnbgmjhjaaDoorW.PrintWords Go.Proofs.YtcpbalnbgmjhjaaDoorW.PrintLast Go.Proofs.YtcpbalnbgmjhjaaDoorW.PrintMore
attribute [local go_sem] min2_int min_two min_three   -- for this text's walks alone
set_option linter.unusedVariables false
set_option linter.unusedSimpArgs false
/-! ### fold_Same: function 20 -/
def fold_Same.f (a0 : ByteArray) (a1 : ByteArray) (a2 : Int) : Option (Bool × Int) := (fold_Text.f a0 a2).bind fun bt20101 => (if bt20101.2 = 0 then ((fold_Text.f a1 a2).bind fun bt20103 => (some ((bt20101.1.toList == bt20103.1.toList), 0))) else (some (false, bt20101.2)))
end Go.Proofs.YtcpbalnbgmjhjaaDoor.G
namespace Go.Proofs.YtcpbalnbgmjhjaaDoor.G
open Go.RowKit Go.Proofs.YtcpbalnbgmjhjaaDoorW.PrintWords Go.Proofs.YtcpbalnbgmjhjaaDoorW.PrintLast Go.Proofs.YtcpbalnbgmjhjaaDoorW.PrintMore
attribute [local go_sem] min2_int min_two min_three   -- for this text's walks alone
set_option linter.unusedVariables false
set_option linter.unusedSimpArgs false
/-! ### siglumlaw09_CostEven: function 5 -/
def siglumlaw09_CostEven.f (k : Nat) (a0 : ByteArray) (a1 : ByteArray) (a2_0 : Int) (a2_1 : Int) (a2_2 : Int) (a2_3 : Int) : Option (Bool) := (siglumlaw09_awake.f k).bind fun t5102 => (if t5102 = true then ((cost_Words.f k a0 a1 a2_0 a2_1 a2_2 a2_3).bind fun bt5103 => ((cost_Words.f k a1 a0 a2_0 a2_1 a2_2 a2_3).bind fun bt5105 => (if bt5103.2 = 0 then ((fold_Same.f a0 a1 a2_3).bind fun bt5107 => (if bt5105.2 = 0 then (if bt5107.2 = 0 then (if bt5103.1 = bt5105.1 then (if bt5103.1 ≥ 0 then (if bt5103.1 ≤ a2_2 then (some ((bt5103.1 == 0) == bt5107.1)) else (some false)) else (some false)) else (some false)) else (some false)) else (some false))) else (if bt5105.2 = bt5103.2 then (if bt5103.1 = 0 then (if bt5105.1 = 0 then (if bt5103.2 = 90 then (some true) else (some (bt5103.2 == 1))) else (some false)) else (some false)) else (some false))))) else (some false))
end Go.Proofs.YtcpbalnbgmjhjaaDoor.G
/-
  The same both ways, at most Far, 0 just for the same.
-/
namespace Go.Proofs.YtcpbalnbgmjhjaaDoor.Pure
open Go.RowKit Go.Proofs.YtcpbalnbgmjhjaaDoor.G Go.Proofs.YtcpbalnbgmjhjaaDoorW.PrintWords Go.Proofs.YtcpbalnbgmjhjaaDoorW.PrintLast Go.Proofs.YtcpbalnbgmjhjaaDoorW.PrintMore
theorem aw9a : wP ⟨#[67, 97, 116]⟩ ⟨#[114, 97, 116]⟩ 2 1 3 31 = (1, 0) := by decide +kernel
theorem aw9b : wP ⟨#[99, 97, 116]⟩ ⟨#[100, 111, 103, 115]⟩ 2 1 3 31 = (3, 0) := by decide +kernel
theorem awake9 (k : Nat) (hk : 30000000 ≤ k) : siglumlaw09_awake.f k = some true := by
  unfold siglumlaw09_awake.f
  rw [words_eq _ _ (by decide) (by decide) _ _ _ _ k hk, Option.bind_some, words_eq _ _ (by decide) (by decide) _ _ _ _ k hk, Option.bind_some, aw9a, aw9b, check_eq]
  rfl
end Go.Proofs.YtcpbalnbgmjhjaaDoor.Pure
/-
  What a rune becomes, becomes itself; so a valid text that is folded is folded already.
-/
namespace Go.Proofs.YtcpbalnbgmjhjaaDoor.Pure
open Go.RowKit Go.Proofs.YtcpbalnbgmjhjaaDoor.G Go.Proofs.YtcpbalnbgmjhjaaDoorW.PrintWords Go.Proofs.YtcpbalnbgmjhjaaDoorW.PrintLast Go.Proofs.YtcpbalnbgmjhjaaDoorW.PrintMore
/-! a rune's bytes are read as that rune -/
def okR (r : Nat) : Prop := r < 55296 ∨ (57343 < r ∧ r ≤ 1114111)
/-! what a rune becomes -/
theorem step_eq (o x : Int) : stepI o x = (let a := if fOn o 1 = true then lowerI x else x; let b := if fOn o 2 = true then unmarkedI a else a; if fOn o 8 = true then letterI b else b) := by
  unfold stepI stepsL
  cases fOn o 1 <;> cases fOn o 2 <;> cases fOn o 8 <;> simp [stepN]
def outR (o x : Int) : List Int := if foldDrop o x = true then [] else (foldS o x).map (stepI o)
theorem foldR_out (o x : Int) : foldR o x = (outR o x).flatMap fun y => Lib.encodeRune y := by
  unfold foldR outR foldB
  by_cases h : foldDrop o x = true
  · rw [if_pos h, if_pos h]; rfl
  · rw [if_neg h, if_neg h]
    rw [List.flatMap_map]
    exact congrArg (fun g => List.flatMap g (foldS o x)) (funext fun y => Utf.encode_list _)
def oddL : List Nat := [376, 338, 339, 383, 306, 307, 64256, 64257, 64258, 64259, 64260, 64261, 64262]
/-- What lower makes of a rune of the middle. -/
def midQ (x : Nat) : Bool :=
  let y := lowerI (x : Int)
  decide (y = (x : Int)) || (decide (256 ≤ y) && decide (y < 8000) && decide (lowerI y = y) && decide (kindI y ≠ 4) && decide (kindI y ≠ 2) && decide (ligI y = none))
theorem lower_big (x : Int) (h : 8100 ≤ x) : lowerI x = x := by
  have hj7 : ∀ k, fold_lower.j7 (k + 1) x false = some x := fun k => by rw [fold_lower.j7, if_neg (by decide), if_pos (by omega), if_neg (by omega)]
  have hj6 : ∀ k, fold_lower.j6 (k + 2) x false = some x := fun k => by rw [fold_lower.j6, if_neg (by decide), if_pos (by omega), decide_eq_false (by omega), hj7]
  have hj5 : ∀ k, fold_lower.j5 (k + 3) x false = some x := fun k => by rw [fold_lower.j5, if_neg (by decide), if_pos (by omega), decide_eq_false (by omega), hj6]
  have hj4 : ∀ k, fold_lower.j4 (k + 4) x false = some x := fun k => by rw [fold_lower.j4, if_neg (by decide), if_pos (by omega), decide_eq_false (by omega), hj5]
  have hj3 : ∀ k, fold_lower.j3 (k + 5) x false = some x := fun k => by rw [fold_lower.j3, if_neg (by decide), if_neg (by omega), if_neg (by omega), if_pos (by omega), decide_eq_false (by omega), hj4]
  have hj2 : ∀ k, fold_lower.j2 (k + 6) x false = some x := fun k => by rw [fold_lower.j2, if_neg (by decide), if_pos (by omega), decide_eq_false (by omega), hj3]
  have hj1 : ∀ k, fold_lower.j1 (k + 7) x false = some x := fun k => by rw [fold_lower.j1, if_neg (by decide), if_pos (by omega), if_neg (by omega), if_pos (by omega), decide_eq_false (by omega), hj2]
  have hj0 : ∀ k, fold_lower.j0 (k + 8) x false = some x := fun k => by rw [fold_lower.j0, if_neg (by decide), if_pos (by omega), if_neg (by omega), hj1]
  have hf : fold_lower.f 12 x = some x := by rw [fold_lower.f, if_pos (by omega), decide_eq_false (by omega), hj0 4]
  unfold lowerI
  rw [hf]
  rfl
end Go.Proofs.YtcpbalnbgmjhjaaDoor.Pure
