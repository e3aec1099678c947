/-
  What a rune becomes, becomes itself; so a valid text that is folded is folded already.
-/
import Derived.Test.YtcpbalnbgmjhjaaDoorPureCost
import Derived.Test.YtcpbalnbgmjhjaaDoorEx3
import Derived.Test.YtcpbalnbgmjhjaaDoorEx4
import Derived.Lib.MapLaws
import Derived.Test.YtcpbalnbgmjhjaaDoorEnc
namespace Go.Proofs.YtcpbalnbgmjhjaaDoor.Pure
open Go.RowKit Go.Proofs.YtcpbalnbgmjhjaaDoor.E Go.Proofs.YtcpbalnbgmjhjaaDoorW.PrintWords Go.Proofs.YtcpbalnbgmjhjaaDoorW.PrintLast Go.Proofs.YtcpbalnbgmjhjaaDoorW.PrintMore
/-! a rune's bytes are read as that rune -/
theorem toB (z : Int) (n : Nat) (h : z = (n : Int)) (h2 : n < 256) : (z.toNat.toUInt8).toNat = n := by
  subst h
  rw [Int.toNat_natCast]
  simp [Nat.toUInt8]
  omega
def okR (r : Nat) : Prop := r < 55296 ∨ (57343 < r ∧ r ≤ 1114111)
theorem dec_enc (r : Nat) (hr : okR r) (rest : List UInt8) : Lib.decodeL (Lib.encodeRune (r : Int) ++ rest) = (r, (Lib.encodeRune (r : Int)).length) := by
  unfold okR at hr
  rw [Lib.decodeL_N]
  by_cases h1 : r < 128
  · have e : Lib.encodeRune (r : Int) = [((r : Int)).toNat.toUInt8] := by unfold Lib.encodeRune; rw [Lib.encodeRuneZ_one (by omega) (by omega)]; rfl
    rw [e]
    simp only [List.cons_append, List.nil_append, List.getD_cons_zero, List.length_cons, List.length_nil]
    rw [toB _ r rfl (by omega)]
    unfold Lib.decodeN
    rw [if_pos h1]
  · by_cases h2 : r < 2048
    · have e : Lib.encodeRune (r : Int) = [(192 + (r : Int) / 64).toNat.toUInt8, (128 + (r : Int) % 64).toNat.toUInt8] := by unfold Lib.encodeRune; rw [Lib.encodeRuneZ_two (by omega) (by omega)]; rfl
      rw [e]
      simp only [List.cons_append, List.nil_append, List.getD_cons_zero, List.getD_cons_succ, List.length_cons, List.length_nil]
      rw [toB _ (192 + r / 64) (by omega) (by omega), toB _ (128 + r % 64) (by omega) (by omega)]
      unfold Lib.decodeN
      rw [if_neg (by omega), if_pos (by omega), if_pos (by omega)]
      exact Prod.ext (by dsimp only; omega) rfl
    · by_cases h3 : r < 65536
      · have e : Lib.encodeRune (r : Int) = [(224 + (r : Int) / 4096).toNat.toUInt8, (128 + (r : Int) / 64 % 64).toNat.toUInt8, (128 + (r : Int) % 64).toNat.toUInt8] := by unfold Lib.encodeRune; rw [Lib.encodeRuneZ_three (by omega)]; rfl
        rw [e]
        simp only [List.cons_append, List.nil_append, List.getD_cons_zero, List.getD_cons_succ, List.length_cons, List.length_nil]
        rw [toB _ (224 + r / 4096) (by omega) (by omega), toB _ (128 + r / 64 % 64) (by omega) (by omega), toB _ (128 + r % 64) (by omega) (by omega)]
        unfold Lib.decodeN
        rw [if_neg (by omega), if_neg (by omega), if_pos (by omega), if_pos (by omega)]
        exact Prod.ext (by dsimp only; omega) rfl
      · have e : Lib.encodeRune (r : Int) = [(240 + (r : Int) / 262144).toNat.toUInt8, (128 + (r : Int) / 4096 % 64).toNat.toUInt8, (128 + (r : Int) / 64 % 64).toNat.toUInt8, (128 + (r : Int) % 64).toNat.toUInt8] := by unfold Lib.encodeRune; rw [Lib.encodeRuneZ_four (by omega) (by omega)]; rfl
        rw [e]
        simp only [List.cons_append, List.nil_append, List.getD_cons_zero, List.getD_cons_succ, List.length_cons, List.length_nil]
        rw [toB _ (240 + r / 262144) (by omega) (by omega), toB _ (128 + r / 4096 % 64) (by omega) (by omega), toB _ (128 + r / 64 % 64) (by omega) (by omega), toB _ (128 + r % 64) (by omega) (by omega)]
        unfold Lib.decodeN
        rw [if_neg (by omega), if_neg (by omega), if_neg (by omega), if_pos (by omega), if_pos (by omega)]
        exact Prod.ext (by dsimp only; omega) rfl
theorem get_drop (s : ByteArray) (i j : Nat) : s.get! (i + j) = (s.data.toList.drop i).getD j 0 := by
  rw [List.getD_eq_getElem?_getD, List.getElem?_drop]
  by_cases h : i + j < s.size
  · rw [Utf.get_lt s _ h, List.getElem?_eq_getElem (by rw [Array.length_toList]; exact h)]
    simp
    rfl
  · rw [Utf.get_ge s _ (by omega), List.getElem?_eq_none (by rw [Array.length_toList]; exact Nat.le_of_not_lt h)]
    rfl
theorem decode_drop (s : ByteArray) (i : Nat) : Utf8.decode s i = Lib.decodeL (s.data.toList.drop i) := by
  rw [Lib.decode_at, Lib.decodeL_N, ← get_drop, ← get_drop, ← get_drop, ← get_drop, List.length_drop, Array.length_toList]
  rfl
theorem enc_len (r : Int) : 1 ≤ (Lib.encodeRune r).length ∧ (Lib.encodeRune r).length ≤ 4 := Utf.encode_size r
theorem enc_cells (s : ByteArray) : ∀ (L : List Nat) (f i : Nat), (∀ r ∈ L, okR r) → s.data.toList.drop i = L.flatMap (fun r : Nat => Lib.encodeRune (r : Int)) → i ≤ s.size → s.size ≤ i + f →
    (gCells s f i).map (fun c => (c.f2, c.f3)) = L.map (fun r : Nat => ((r : Int), false))
  | [], f, i, _, hd, hi, hf => by
    have : s.data.toList.length - i = 0 := by rw [← List.length_drop, hd]; rfl
    rw [Array.length_toList] at this
    have h2 : s.size - i = 0 := this
    rw [gCells_end s f i (by omega)]
    rfl
  | r :: L, f, i, hL, hd, hi, hf => by
    have hr := hL r List.mem_cons_self
    rw [List.flatMap_cons] at hd
    have hlen : s.size - i = (Lib.encodeRune (r : Int)).length + (L.flatMap (fun r : Nat => Lib.encodeRune (r : Int))).length := by
      have := congrArg List.length hd
      rw [List.length_drop, Array.length_toList, List.length_append] at this
      exact this
    have he := enc_len (r : Int)
    have hlt : i < s.size := by omega
    obtain ⟨f, rfl⟩ : ∃ m, f = m + 1 := ⟨f - 1, by omega⟩
    have hdec : Utf8.decode s i = (r, (Lib.encodeRune (r : Int)).length) := by rw [decode_drop, hd, dec_enc r hr]
    have hbad : Utf.bad s i = false := by
      cases hb : Utf.bad s i with
      | false => rfl
      | true =>
        obtain ⟨b1, b2⟩ := (Utf.bad_iff s i).1 hb
        rw [hdec] at b1 b2
        dsimp only at b1 b2
        subst b1
        revert b2
        decide
    rw [gCells_step s f i hlt, List.map_cons, List.map_cons, hdec]
    have ih := enc_cells s L f (i + (Lib.encodeRune (r : Int)).length) (fun q hq => hL q (List.mem_cons_of_mem _ hq)) (by
      rw [← List.drop_drop, hd, List.drop_left]) (by omega) (by omega)
    dsimp only
    rw [ih]
    unfold gCell
    rw [hbad, hdec]
/-! what a rune becomes -/
theorem step_eq (o x : Int) : stepI o x = (let a := if fOn o 1 = true then lowerI x else x; let b := if fOn o 2 = true then unmarkedI a else a; if fOn o 8 = true then letterI b else b) := by
  unfold stepI stepsL
  cases fOn o 1 <;> cases fOn o 2 <;> cases fOn o 8 <;> simp [stepN]
def outR (o x : Int) : List Int := if foldDrop o x = true then [] else (foldS o x).map (stepI o)
theorem foldR_out (o x : Int) : foldR o x = (outR o x).flatMap fun y => Lib.encodeRune y := by
  unfold foldR outR foldB
  by_cases h : foldDrop o x = true
  · rw [if_pos h, if_pos h]; rfl
  · rw [if_neg h, if_neg h]
    rw [List.flatMap_map]
    exact congrArg (fun g => List.flatMap g (foldS o x)) (funext fun y => Utf.encode_list _)
theorem out_low : ∀ x : Fin 256, ∀ o : Fin 32, ((outR (o.val : Int) (x.val : Int)).all fun y => (outR (o.val : Int) y == [y]) && decide (0 ≤ y) && decide (y < 256)) = true := by decide +kernel
def oddL : List Nat := [376, 338, 339, 383, 306, 307, 64256, 64257, 64258, 64259, 64260, 64261, 64262]
theorem out_odd : ∀ x ∈ oddL, ∀ o : Fin 32, ((outR (o.val : Int) (x : Int)).all fun y => (outR (o.val : Int) y == [y]) && decide (0 ≤ y) && decide (y < 55296 ∨ y = (x : Int))) = true := by decide +kernel
/-- What lower makes of a rune of the middle. -/
def midQ (x : Nat) : Bool :=
  let y := lowerI (x : Int)
  decide (y = (x : Int)) || (decide (256 ≤ y) && decide (y < 8000) && decide (lowerI y = y) && decide (kindI y ≠ 4) && decide (kindI y ≠ 2) && decide (ligI y = none))
theorem mid_tab : ∀ a b : Fin 90, let x := a.val * 90 + b.val; (decide (x < 256) || oddL.contains x || midQ x) = true := by decide +kernel
theorem mid (x : Nat) (h1 : 256 ≤ x) (h2 : x < 8100) (h3 : x ∉ oddL) : midQ x = true := by
  have := mid_tab ⟨x / 90, by omega⟩ ⟨x % 90, by omega⟩
  have e : x / 90 * 90 + x % 90 = x := by omega
  dsimp only at this
  rw [e] at this
  have a1 : decide (x < 256) = false := decide_eq_false (by omega)
  have a2 : oddL.contains x = false := by simpa using h3
  rw [a1, a2] at this
  simpa using this
theorem lower_big (x : Int) (h : 8100 ≤ x) : lowerI x = x := by
  have hj7 : ∀ k, fold_lower.j7 (k + 1) x false = some x := fun k => by rw [fold_lower.j7, if_neg (by decide), if_pos (by omega), if_neg (by omega)]
  have hj6 : ∀ k, fold_lower.j6 (k + 2) x false = some x := fun k => by rw [fold_lower.j6, if_neg (by decide), if_pos (by omega), decide_eq_false (by omega), hj7]
  have hj5 : ∀ k, fold_lower.j5 (k + 3) x false = some x := fun k => by rw [fold_lower.j5, if_neg (by decide), if_pos (by omega), decide_eq_false (by omega), hj6]
  have hj4 : ∀ k, fold_lower.j4 (k + 4) x false = some x := fun k => by rw [fold_lower.j4, if_neg (by decide), if_pos (by omega), decide_eq_false (by omega), hj5]
  have hj3 : ∀ k, fold_lower.j3 (k + 5) x false = some x := fun k => by rw [fold_lower.j3, if_neg (by decide), if_neg (by omega), if_neg (by omega), if_pos (by omega), decide_eq_false (by omega), hj4]
  have hj2 : ∀ k, fold_lower.j2 (k + 6) x false = some x := fun k => by rw [fold_lower.j2, if_neg (by decide), if_pos (by omega), decide_eq_false (by omega), hj3]
  have hj1 : ∀ k, fold_lower.j1 (k + 7) x false = some x := fun k => by rw [fold_lower.j1, if_neg (by decide), if_pos (by omega), if_neg (by omega), if_pos (by omega), decide_eq_false (by omega), hj2]
  have hj0 : ∀ k, fold_lower.j0 (k + 8) x false = some x := fun k => by rw [fold_lower.j0, if_neg (by decide), if_pos (by omega), if_neg (by omega), hj1]
  have hf : fold_lower.f 12 x = some x := by rw [fold_lower.f, if_pos (by omega), decide_eq_false (by omega), hj0 4]
  unfold lowerI
  rw [hf]
  rfl
theorem lig_none (x : Nat) (h1 : 256 ≤ x) (h : x ∉ oddL) : ligI (x : Int) = none := by
  simp only [oddL, List.mem_cons, List.not_mem_nil, or_false, not_or] at h
  obtain ⟨_, a1, a2, a3, a4, a5, a6, a7, a8, a9, a10, a11, a12⟩ := h
  unfold ligI
  rw [if_neg (by omega), if_neg (by omega), if_neg (by omega), if_neg (by omega), if_neg (by omega), if_neg (by omega), if_neg (by omega), if_neg (by omega), if_neg (by omega), if_neg (by omega), if_neg (by omega), if_neg (by omega), if_neg (by omega), if_neg (by omega), if_neg (by omega)]
theorem step_mid (o x : Int) (y : Int) (hy : (if fOn o 1 = true then lowerI x else x) = y) (h : 256 ≤ y) : stepI o x = y := by
  have hu : unmarkedI y = y := by unfold unmarkedI; rw [if_neg (by omega)]
  have hl : letterI y = y := by
    have : fold_letter.f y = some y := by
      unfold fold_letter.f
      repeat' split
      all_goals first | rfl | (exfalso; omega)
    unfold letterI
    rw [this]
    rfl
  rw [step_eq, hy]
  dsimp only
  rw [hu]
  cases fOn o 2 <;> cases fOn o 8 <;> simp [hl]
theorem foldS_none (o x : Int) (h : ligI x = none) : foldS o x = [x] := by
  unfold foldS
  cases fOn o 4 <;> simp [h]
theorem out_mid (o : Int) (x : Nat) (h1 : 256 ≤ x) (h3 : x ∉ oddL) : ∀ y ∈ outR o (x : Int), outR o y = [y] ∧ (y = (x : Int) ∨ (0 ≤ y ∧ y < 55296)) := by
  intro y hy
  have hln := lig_none x h1 h3
  have hS := foldS_none o (x : Int) hln
  by_cases hd : foldDrop o (x : Int) = true
  · unfold outR at hy
    rw [if_pos hd] at hy
    cases hy
  · have hout : outR o (x : Int) = [stepI o (x : Int)] := by unfold outR; rw [if_neg hd, hS]; rfl
    rw [hout, List.mem_singleton] at hy
    have key : (if fOn o 1 = true then lowerI (x : Int) else (x : Int)) = (x : Int) ∨ (fOn o 1 = true ∧ lowerI (x : Int) ≠ (x : Int) ∧ x < 8100) := by
      by_cases hc : fOn o 1 = true
      · rw [if_pos hc]
        by_cases h8 : x < 8100
        · by_cases he : lowerI (x : Int) = (x : Int)
          · exact Or.inl he
          · exact Or.inr ⟨hc, he, h8⟩
        · exact Or.inl (lower_big _ (by omega))
      · rw [if_neg hc]; exact Or.inl rfl
    rcases key with hk | ⟨hc, hne, h8⟩
    · have hst := step_mid o (x : Int) (x : Int) hk (by omega)
      rw [hst] at hy hout
      rw [hy]
      exact ⟨hout, Or.inl rfl⟩
    · have hm := mid x h1 h8 h3
      unfold midQ at hm
      dsimp only at hm
      rw [decide_eq_false hne, Bool.false_or] at hm
      simp only [Bool.and_eq_true, decide_eq_true_eq] at hm
      obtain ⟨⟨⟨⟨⟨m1, m2⟩, m3⟩, m4⟩, m5⟩, m6⟩ := hm
      have hst := step_mid o (x : Int) (lowerI (x : Int)) (if_pos hc) m1
      rw [hst] at hy
      rw [hy]
      have hd2 : ¬ foldDrop o (lowerI (x : Int)) = true := by
        unfold foldDrop
        rw [decide_eq_false m4, decide_eq_false m5]
        simp
      refine ⟨?_, Or.inr ⟨by omega, by omega⟩⟩
      unfold outR
      rw [if_neg hd2, foldS_none o _ m6]
      show [stepI o (lowerI (x : Int))] = _
      rw [step_mid o (lowerI (x : Int)) (lowerI (x : Int)) (by rw [if_pos hc, m3]) m1]
theorem out_fix (o : Int) (ho : 0 ≤ o ∧ o ≤ 31) (x : Nat) (hx : okR x) : ∀ y ∈ outR o (x : Int), outR o y = [y] ∧ ∃ r : Nat, y = (r : Int) ∧ okR r := by
  intro y hy
  obtain ⟨q, rfl⟩ : ∃ q : Nat, o = (q : Int) := ⟨o.toNat, by omega⟩
  by_cases h1 : x < 256
  · have := out_low ⟨x, h1⟩ ⟨q, by omega⟩
    have := List.all_eq_true.1 this y hy
    simp only [Bool.and_eq_true, beq_iff_eq, decide_eq_true_eq] at this
    exact ⟨this.1.1, y.toNat, by omega, Or.inl (by omega)⟩
  · by_cases h3 : x ∈ oddL
    · have := out_odd x h3 ⟨q, by omega⟩
      have := List.all_eq_true.1 this y hy
      simp only [Bool.and_eq_true, beq_iff_eq, decide_eq_true_eq] at this
      refine ⟨this.1.1, ?_⟩
      rcases this.2 with h | h
      · exact ⟨y.toNat, by omega, Or.inl (by omega)⟩
      · exact ⟨x, h, hx⟩
    · obtain ⟨e, hv⟩ := out_mid (q : Int) x (by omega) h3 y hy
      refine ⟨e, ?_⟩
      rcases hv with h | h
      · exact ⟨x, h, hx⟩
      · exact ⟨y.toNat, by omega, Or.inl (by omega)⟩
end Go.Proofs.YtcpbalnbgmjhjaaDoor.Pure
