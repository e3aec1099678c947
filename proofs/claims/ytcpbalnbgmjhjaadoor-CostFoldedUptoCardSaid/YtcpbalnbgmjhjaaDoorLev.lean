/-
  The edit distance of two lists: the least number of edits; what holds of it (no program in sight).
-/
namespace Go.Proofs.YtcpbalnbgmjhjaaDoor.Lv
/-- A way of n edits from one list to another. -/
inductive Ed {α : Type} : Nat → List α → List α → Prop
  | nil : Ed 0 [] []
  | keep {n xs ys} (x : α) : Ed n xs ys → Ed n (x :: xs) (x :: ys)
  | swap {n xs ys} (x y : α) : Ed n xs ys → Ed (n + 1) (x :: xs) (y :: ys)
  | cut {n xs ys} (x : α) : Ed n xs ys → Ed (n + 1) (x :: xs) ys
  | put {n xs ys} (y : α) : Ed n xs ys → Ed (n + 1) xs (y :: ys)
/-- A row of distances: of x ahead of n more, by the row of those. -/
def levGo {α : Type} [DecidableEq α] (x : α) (n : Nat) (f : List α → Nat) : List α → Nat
  | [] => n + 1
  | y :: ys => min (f ys + if x = y then 0 else 1) (min (f (y :: ys) + 1) (levGo x n f ys + 1))
/-- The distance of two lists: of all three ways on the least. -/
def lev {α : Type} [DecidableEq α] : List α → List α → Nat
  | [], ys => ys.length
  | x :: xs, ys => levGo x xs.length (lev xs) ys
theorem lev_nil {α : Type} [DecidableEq α] (ys : List α) : lev [] ys = ys.length := rfl
theorem lev_nil' {α : Type} [DecidableEq α] (xs : List α) : lev xs [] = xs.length := by cases xs <;> rfl
theorem lev_cons {α : Type} [DecidableEq α] (x y : α) (xs ys : List α) : lev (x :: xs) (y :: ys) = min (lev xs ys + if x = y then 0 else 1) (min (lev xs (y :: ys) + 1) (lev (x :: xs) ys + 1)) := rfl
theorem Ed.cuts {α : Type} : ∀ xs : List α, Ed xs.length xs []
  | [] => .nil
  | x :: xs => .cut x (Ed.cuts xs)
theorem Ed.puts {α : Type} : ∀ ys : List α, Ed ys.length [] ys
  | [] => .nil
  | y :: ys => .put y (Ed.puts ys)
theorem ed_lev {α : Type} [DecidableEq α] : ∀ xs ys : List α, Ed (lev xs ys) xs ys
  | [], ys => by rw [lev_nil]; exact Ed.puts ys
  | x :: xs, [] => by rw [lev_nil']; exact Ed.cuts _
  | x :: xs, y :: ys => by
    have h1 := ed_lev xs ys
    have h2 := ed_lev xs (y :: ys)
    have h3 := ed_lev (x :: xs) ys
    rw [lev_cons]
    generalize lev xs ys = a at *
    generalize lev xs (y :: ys) = b at *
    generalize lev (x :: xs) ys = c at *
    rcases Nat.le_total (a + if x = y then 0 else 1) (min (b + 1) (c + 1)) with h | h
    · rw [Nat.min_eq_left h]
      by_cases e : x = y
      · subst e; rw [if_pos rfl]; exact .keep x h1
      · rw [if_neg e]; exact .swap x y h1
    · rw [Nat.min_eq_right h]
      rcases Nat.le_total (b + 1) (c + 1) with h' | h'
      · rw [Nat.min_eq_left h']; exact .cut x h2
      · rw [Nat.min_eq_right h']; exact .put y h3
termination_by xs ys => xs.length + ys.length
theorem lev_tail_le {α : Type} [DecidableEq α] (x : α) (xs ys : List α) : lev (x :: xs) ys ≤ lev xs ys + 1 := by
  cases ys with
  | nil => rw [lev_nil', lev_nil']; simp
  | cons y ys => rw [lev_cons]; omega
theorem lev_put_le {α : Type} [DecidableEq α] (y : α) (xs ys : List α) : lev xs (y :: ys) ≤ lev xs ys + 1 := by
  cases xs with
  | nil => rw [lev_nil, lev_nil]; simp
  | cons x xs => rw [lev_cons]; omega
theorem lev_le {α : Type} [DecidableEq α] {n : Nat} {xs ys : List α} (h : Ed n xs ys) : lev xs ys ≤ n := by
  induction h with
  | nil => rw [lev_nil]; simp
  | keep x _ ih => rw [lev_cons, if_pos rfl]; omega
  | swap x y _ ih => rw [lev_cons]; split <;> omega
  | @cut _ xs ys x _ ih => have := lev_tail_le x xs ys; omega
  | @put _ xs ys y _ ih => have := lev_put_le y xs ys; omega
theorem Ed.symm {α : Type} {n : Nat} {xs ys : List α} (h : Ed n xs ys) : Ed n ys xs := by
  induction h with
  | nil => exact .nil
  | keep x _ ih => exact .keep x ih
  | swap x y _ ih => exact .swap y x ih
  | cut x _ ih => exact .put x ih
  | put y _ ih => exact .cut y ih
theorem lev_symm {α : Type} [DecidableEq α] (xs ys : List α) : lev xs ys = lev ys xs :=
  Nat.le_antisymm (lev_le (ed_lev ys xs).symm) (lev_le (ed_lev xs ys).symm)
theorem Ed.append {α : Type} {n m : Nat} {xs ys us vs : List α} (h : Ed n xs ys) (g : Ed m us vs) : Ed (n + m) (xs ++ us) (ys ++ vs) := by
  induction h with
  | nil => simpa using g
  | keep x _ ih => exact .keep x ih
  | @swap n xs ys x y _ ih => have := Ed.swap x y ih; rwa [show n + m + 1 = n + 1 + m by omega] at this
  | @cut n xs ys x _ ih => have := Ed.cut x ih; rwa [show n + m + 1 = n + 1 + m by omega] at this
  | @put n xs ys y _ ih => have := Ed.put y ih; rwa [show n + m + 1 = n + 1 + m by omega] at this
theorem Ed.same {α : Type} : ∀ xs : List α, Ed 0 xs xs
  | [] => .nil
  | x :: xs => .keep x (Ed.same xs)
theorem Ed.rev {α : Type} {n : Nat} {xs ys : List α} (h : Ed n xs ys) : Ed n xs.reverse ys.reverse := by
  induction h with
  | nil => exact .nil
  | keep x _ ih => have := ih.append (Ed.same [x]); simpa using this
  | swap x y _ ih => have := ih.append (Ed.swap x y .nil); simpa using this
  | cut x _ ih => have := ih.append (Ed.cut x .nil); simpa using this
  | put y _ ih => have := ih.append (Ed.put y .nil); simpa using this
theorem lev_rev_le {α : Type} [DecidableEq α] (xs ys : List α) : lev xs.reverse ys.reverse ≤ lev xs ys := lev_le (ed_lev xs ys).rev
theorem lev_rev {α : Type} [DecidableEq α] (xs ys : List α) : lev xs.reverse ys.reverse = lev xs ys :=
  Nat.le_antisymm (lev_rev_le xs ys) (by have := lev_rev_le xs.reverse ys.reverse; simpa using this)
/-- The last cells: what the program's rows reckon by. -/
theorem lev_snoc {α : Type} [DecidableEq α] (x y : α) (xs ys : List α) : lev (xs ++ [x]) (ys ++ [y]) = min (lev xs ys + if x = y then 0 else 1) (min (lev xs (ys ++ [y]) + 1) (lev (xs ++ [x]) ys + 1)) := by
  rw [← lev_rev xs ys, ← lev_rev (xs ++ [x]) (ys ++ [y]), ← lev_rev xs (ys ++ [y]), ← lev_rev (xs ++ [x]) ys]
  simp only [List.reverse_append, List.reverse_cons, List.reverse_nil, List.nil_append, List.singleton_append]
  exact lev_cons x y _ _
theorem lev_self {α : Type} [DecidableEq α] (xs : List α) : lev xs xs = 0 := Nat.le_zero.1 (lev_le (Ed.same xs))
theorem ed_zero {α : Type} {n : Nat} {xs ys : List α} (h : Ed n xs ys) (hn : n = 0) : xs = ys := by
  induction h with
  | nil => rfl
  | keep x _ ih => rw [ih hn]
  | swap x y _ ih => cases hn
  | cut x _ ih => cases hn
  | put y _ ih => cases hn
theorem lev_zero {α : Type} [DecidableEq α] {xs ys : List α} : lev xs ys = 0 ↔ xs = ys :=
  ⟨fun h => ed_zero (ed_lev xs ys) h, fun h => by subst h; exact lev_self xs⟩
theorem ed_trans {α : Type} : ∀ (s : Nat) {n m : Nat} {xs ys zs : List α}, Ed n xs ys → Ed m ys zs → xs.length + ys.length + zs.length ≤ s → ∃ k, k ≤ n + m ∧ Ed k xs zs := by
  intro s
  induction s with
  | zero =>
    intro n m xs ys zs h g hs
    obtain rfl : xs = [] := List.eq_nil_of_length_eq_zero (by omega)
    obtain rfl : zs = [] := List.eq_nil_of_length_eq_zero (by omega)
    exact ⟨0, by omega, .nil⟩
  | succ s ih =>
    intro n m xs ys zs h g hs
    cases h with
    | nil => exact ⟨m, by omega, g⟩
    | @cut n xs _ x h =>
      obtain ⟨k, hk, e⟩ := ih h g (by simp at hs; omega)
      exact ⟨k + 1, by omega, .cut x e⟩
    | @keep n xs ys x h =>
      cases g with
      | @keep m _ zs _ g => obtain ⟨k, hk, e⟩ := ih h g (by simp at hs; omega); exact ⟨k, hk, .keep x e⟩
      | @swap m _ zs _ y g => obtain ⟨k, hk, e⟩ := ih h g (by simp at hs; omega); exact ⟨k + 1, by omega, .swap x y e⟩
      | @cut m _ _ _ g => obtain ⟨k, hk, e⟩ := ih h g (by simp at hs; omega); exact ⟨k + 1, by omega, .cut x e⟩
      | @put m _ zs z g => obtain ⟨k, hk, e⟩ := ih (Ed.keep x h) g (by simp at hs ⊢; omega); exact ⟨k + 1, by omega, .put z e⟩
    | @swap n xs ys x y h =>
      cases g with
      | @keep m _ zs _ g => obtain ⟨k, hk, e⟩ := ih h g (by simp at hs; omega); exact ⟨k + 1, by omega, .swap x y e⟩
      | @swap m _ zs _ z g => obtain ⟨k, hk, e⟩ := ih h g (by simp at hs; omega); exact ⟨k + 1, by omega, .swap x z e⟩
      | @cut m _ _ _ g => obtain ⟨k, hk, e⟩ := ih h g (by simp at hs; omega); exact ⟨k + 1, by omega, .cut x e⟩
      | @put m _ zs z g => obtain ⟨k, hk, e⟩ := ih (Ed.swap x y h) g (by simp at hs ⊢; omega); exact ⟨k + 1, by omega, .put z e⟩
    | @put n _ ys y h =>
      cases g with
      | @keep m _ zs _ g => obtain ⟨k, hk, e⟩ := ih h g (by simp at hs; omega); exact ⟨k + 1, by omega, .put y e⟩
      | @swap m _ zs _ z g => obtain ⟨k, hk, e⟩ := ih h g (by simp at hs; omega); exact ⟨k + 1, by omega, .put z e⟩
      | @cut m _ _ _ g => obtain ⟨k, hk, e⟩ := ih h g (by simp at hs; omega); exact ⟨k, by omega, e⟩
      | @put m _ zs z g => obtain ⟨k, hk, e⟩ := ih (Ed.put y h) g (by simp at hs ⊢; omega); exact ⟨k + 1, by omega, .put z e⟩
theorem lev_trans {α : Type} [DecidableEq α] (xs ys zs : List α) : lev xs zs ≤ lev xs ys + lev ys zs := by
  obtain ⟨k, hk, e⟩ := ed_trans _ (ed_lev xs ys) (ed_lev ys zs) (Nat.le_refl _)
  exact Nat.le_trans (lev_le e) hk
theorem lev_append_le {α : Type} [DecidableEq α] (xs ys us : List α) : lev (xs ++ us) (ys ++ us) ≤ lev xs ys := lev_le ((ed_lev xs ys).append (Ed.same us))
theorem ed_len {α : Type} {n : Nat} {xs ys : List α} (h : Ed n xs ys) : xs.length ≤ ys.length + n ∧ ys.length ≤ xs.length + n := by
  induction h with
  | nil => simp
  | keep x _ ih => simp; omega
  | swap x y _ ih => simp; omega
  | cut x _ ih => simp; omega
  | put y _ ih => simp; omega
theorem lev_len {α : Type} [DecidableEq α] (xs ys : List α) : xs.length ≤ ys.length + lev xs ys ∧ ys.length ≤ xs.length + lev xs ys := ed_len (ed_lev xs ys)
theorem lev_max {α : Type} [DecidableEq α] : ∀ xs ys : List α, lev xs ys ≤ max xs.length ys.length
  | [], ys => by rw [lev_nil]; simp
  | x :: xs, [] => by rw [lev_nil']; simp
  | x :: xs, y :: ys => by
    have := lev_max xs ys
    rw [lev_cons]; simp only [List.length_cons]; split <;> omega
/-- Equal heads are kept: no way is cheaper. -/
theorem lev_keep {α : Type} [DecidableEq α] (x : α) (xs ys : List α) : lev (x :: xs) (x :: ys) = lev xs ys := by
  have h1 : lev xs ys ≤ lev xs (x :: ys) + 1 := lev_le (by
    have := ed_trans _ (ed_lev xs (x :: ys)) (Ed.cut x (Ed.same ys)) (Nat.le_refl _)
    exact (ed_lev xs ys)) |> fun _ => by
      obtain ⟨k, hk, e⟩ := ed_trans _ (ed_lev xs (x :: ys)) (Ed.cut x (Ed.same ys)) (Nat.le_refl _)
      exact Nat.le_trans (lev_le e) hk
  have h2 : lev xs ys ≤ lev (x :: xs) ys + 1 := by
    obtain ⟨k, hk, e⟩ := ed_trans _ (Ed.put x (Ed.same xs)) (ed_lev (x :: xs) ys) (Nat.le_refl _)
    have := lev_le e
    omega
  rw [lev_cons, if_pos rfl]; omega
theorem lev_swap {α : Type} [DecidableEq α] (x y : α) (h : x ≠ y) (xs ys : List α) : lev (x :: xs) (y :: ys) = 1 + min (lev xs (y :: ys)) (min (lev (x :: xs) ys) (lev xs ys)) := by
  rw [lev_cons, if_neg h]; omega
end Go.Proofs.YtcpbalnbgmjhjaaDoor.Lv
