/-
  What kind.Of and the document's table answer, as one function on integers: both are constant between the same few places, at which they are compared.
-/
import Derived.Test.YtalogampkkjcdaaDoorFx4
import Derived.Test.YtalogampkkjcdaaDoorFx5
namespace Go.Proofs.YtalogampkkjcdaaDoor.F
open Go.RowKit Go.Proofs.YtalogampkkjcdaaDoorW.PrintWords Go.Proofs.YtalogampkkjcdaaDoorW.PrintLast
namespace Pl

/-- Is r in one of these ranges? -/
def inl : List (Int × Int) → Int → Bool
  | [], _ => false
  | p :: l, r => (decide (p.1 ≤ r) && decide (r ≤ p.2)) || inl l r
/-- The first group that r is in. -/
def grp : List (Int × List (Int × Int)) → Int → Int
  | [], _ => 0
  | g :: l, r => if inl g.2 r = true then g.1 else grp l r
/-- The greatest of B up to r (one below all of them, where there is none). -/
def near (B : List Int) (m r : Int) : Int := (B.filter fun b => decide (b ≤ r)).foldl max m
theorem foldl_max (l : List Int) : ∀ m : Int, m ≤ l.foldl max m ∧ (∀ x ∈ l, x ≤ l.foldl max m) ∧ (l.foldl max m = m ∨ l.foldl max m ∈ l) := by
  induction l with
  | nil => intro m; simp
  | cons a l ih =>
    intro m
    obtain ⟨h1, h2, h3⟩ := ih (max m a)
    rw [List.foldl_cons]
    refine ⟨by omega, fun x hx => ?_, ?_⟩
    · rcases List.mem_cons.1 hx with rfl | hx
      · omega
      · exact h2 x hx
    · rcases h3 with h3 | h3
      · rcases Int.le_total a m with h | h
        · left; rw [h3]; omega
        · right; rw [h3]; exact List.mem_cons.2 (.inl (by omega))
      · exact .inr (List.mem_cons.2 (.inr h3))
theorem near_mem (B : List Int) (m r : Int) : near B m r = m ∨ near B m r ∈ B := by
  rcases (foldl_max (B.filter fun b => decide (b ≤ r)) m).2.2 with h | h
  · exact .inl h
  · exact .inr (List.mem_filter.1 h).1
theorem near_iff (B : List Int) (m r : Int) (hm : ∀ b ∈ B, m < b) (b : Int) (hb : b ∈ B) : b ≤ r ↔ b ≤ near B m r := by
  obtain ⟨h1, h2, h3⟩ := foldl_max (B.filter fun b => decide (b ≤ r)) m
  constructor
  · intro h
    exact h2 b (List.mem_filter.2 ⟨hb, decide_eq_true h⟩)
  · intro h
    have h4 : b ≤ (B.filter fun b => decide (b ≤ r)).foldl max m := h
    rcases h3 with h3 | h3
    · have := hm b hb
      omega
    · have := of_decide_eq_true (List.mem_filter.1 h3).2
      omega
theorem inl_near (B : List Int) (m r : Int) (hm : ∀ b ∈ B, m < b) : ∀ l : List (Int × Int), (∀ p ∈ l, p.1 ∈ B ∧ p.2 + 1 ∈ B) → inl l r = inl l (near B m r)
  | [], _ => rfl
  | p :: l, h => by
    have ih := inl_near B m r hm l (fun q hq => h q (List.mem_cons_of_mem _ hq))
    obtain ⟨h1, h2⟩ := h p List.mem_cons_self
    have e1 := near_iff B m r hm _ h1
    have e2 := near_iff B m r hm _ h2
    have a1 : decide (p.1 ≤ r) = decide (p.1 ≤ near B m r) := decide_eq_decide.2 e1
    have a2 : decide (r ≤ p.2) = decide (near B m r ≤ p.2) := decide_eq_decide.2 (by omega)
    unfold inl
    rw [a1, a2, ih]
theorem grp_near (B : List Int) (m r : Int) (hm : ∀ b ∈ B, m < b) : ∀ l : List (Int × List (Int × Int)), (∀ g ∈ l, ∀ p ∈ g.2, p.1 ∈ B ∧ p.2 + 1 ∈ B) → grp l r = grp l (near B m r)
  | [], _ => rfl
  | g :: l, h => by
    have ih := grp_near B m r hm l (fun q hq => h q (List.mem_cons_of_mem _ hq))
    have e := inl_near B m r hm g.2 (h g List.mem_cons_self)
    unfold grp
    rw [← e, ih]
/-- Two tables that answer alike at all their places, and one below, answer alike. -/
theorem grp_eq (B : List Int) (m : Int) (hm : ∀ b ∈ B, m < b) (l l' : List (Int × List (Int × Int))) (h : ∀ g ∈ l, ∀ p ∈ g.2, p.1 ∈ B ∧ p.2 + 1 ∈ B) (h' : ∀ g ∈ l', ∀ p ∈ g.2, p.1 ∈ B ∧ p.2 + 1 ∈ B)
    (he : ∀ b ∈ m :: B, grp l b = grp l' b) (r : Int) : grp l r = grp l' r := by
  rw [grp_near B m r hm l h, grp_near B m r hm l' h']
  refine he _ ?_
  rcases near_mem B m r with e | e
  · rw [e]; exact List.mem_cons_self
  · exact List.mem_cons_of_mem _ e

def tabA : List (Int × List (Int × Int)) := [(4, [(39, 39), (45, 45), (173, 173), (8204, 8204), (8205, 8205), (8217, 8217)]), (6, [(10, 10), (13, 13), (133, 133), (8232, 8232), (8233, 8233)]),
  (5, [(9, 9), (11, 11), (12, 12), (32, 32), (160, 160), (8239, 8239), (12288, 12288)]), (1, [(170, 170), (181, 181), (186, 186), (9676, 9676)]), (0, [(215, 215), (247, 247)]), (0, [(894, 894)]), (7, [(903, 903)]),
  (3, [(48, 57), (1632, 1641)]), (1, [(65, 90), (97, 122), (192, 687), (880, 1153), (1162, 1327), (7680, 8191), (64256, 64262)]), (2, [(768, 879), (1155, 1161), (7616, 7679), (8400, 8447)]),
  (5, [(8194, 8202)]), (7, [(33, 126)]), (7, [(161, 191)]), (7, [(8208, 8231)]), (7, [(8240, 8286)])]
def tabB : List (Int × List (Int × Int)) := [(4, [(39, 39), (45, 45), (173, 173), (8204, 8205), (8217, 8217)]), (3, [(48, 57), (1632, 1641)]),
  (1, [(65, 90), (97, 122), (170, 170), (181, 181), (186, 186), (192, 214), (216, 246), (248, 687), (880, 893), (895, 902), (904, 1153), (1162, 1327), (7680, 8191), (64256, 64262), (9676, 9676)]),
  (2, [(768, 879), (1155, 1161), (7616, 7679), (8400, 8447)]), (6, [(10, 10), (13, 13), (133, 133), (8232, 8233)]), (5, [(9, 9), (11, 12), (32, 32), (160, 160), (8194, 8202), (8239, 8239), (12288, 12288)]),
  (7, [(33, 126), (161, 191), (903, 903), (8208, 8231), (8240, 8286)])]
def cuts (l : List (Int × List (Int × Int))) : List Int := l.flatMap fun g => g.2.flatMap fun p => [p.1, p.2 + 1]
def kindOf (r : Int) : Int := grp tabA r
set_option maxRecDepth 100000 in
theorem tabs_eq (r : Int) : grp tabA r = grp tabB r :=
  grp_eq (cuts tabA ++ cuts tabB) 0 (by decide +kernel) tabA tabB (by decide +kernel) (by decide +kernel) (by decide +kernel) r

theorem in_some (x lo hi : Int) : kind_in.f x lo hi = some (decide (lo ≤ x) && decide (x ≤ hi)) := by
  unfold kind_in.f
  by_cases h : lo ≤ x <;> simp [h]
theorem eq_in (x a : Int) : (x == a) = (decide (a ≤ x) && decide (x ≤ a)) := by
  rw [Bool.eq_iff_iff]
  simp
  omega
theorem if_in {α : Type} (x a : Int) (F : Bool → α) (Y : α) : (if x = a then F (x == a) else Y) = if (decide (a ≤ x) && decide (x ≤ a)) = true then F true else Y := by
  rw [← eq_in]
  by_cases h : x = a
  · subst h; simp
  · simp [h]
theorem if_or {α : Type} (a b : Bool) (X Y : α) : (if a = true then X else if b = true then X else Y) = if (a || b) = true then X else Y := by
  cases a <;> cases b <;> rfl
theorem last_in {α : Type} (b : Bool) (F : Bool → α) (X Y : α) (ht : F true = X) (hf : F false = Y) : F b = if b = true then X else Y := by
  cases b
  · exact hf
  · exact ht
def t7 : List (Int × List (Int × Int)) := [(5, [(8194, 8202)]), (7, [(33, 126)]), (7, [(161, 191)]), (7, [(8208, 8231)]), (7, [(8240, 8286)])]
def t6 : List (Int × List (Int × Int)) := (2, [(768, 879), (1155, 1161), (7616, 7679), (8400, 8447)]) :: t7
def t5 : List (Int × List (Int × Int)) := (1, [(65, 90), (97, 122), (192, 687), (880, 1153), (1162, 1327), (7680, 8191), (64256, 64262)]) :: t6
def t4 : List (Int × List (Int × Int)) := (3, [(48, 57), (1632, 1641)]) :: t5
def tab4 : List (Int × List (Int × Int)) := (0, [(894, 894)]) :: (7, [(903, 903)]) :: t4
theorem j7_eq (k : Nat) (x : Int) (b : Bool) : kind_Of.j7 (k + 1) x b = some (if b = true then 2 else grp t7 x) := by
  rw [kind_Of.j7]
  simp only [in_some, Option.bind_some, grp, inl, t7, Bool.or_false, apply_ite some]
theorem j6_eq (k : Nat) (x : Int) (b : Bool) : kind_Of.j6 (k + 2) x b = some (if b = true then 1 else grp t6 x) := by
  rw [kind_Of.j6, show grp t6 x = if inl [(768, 879), (1155, 1161), (7616, 7679), (8400, 8447)] x = true then 2 else grp t7 x from rfl]
  simp only [in_some, Option.bind_some, j7_eq, apply_ite some]
  simp only [inl, Bool.or_false]
  generalize grp _ x = g
  generalize (decide ((768 : Int) ≤ x) && decide (x ≤ 879)) = b1
  generalize (decide ((1155 : Int) ≤ x) && decide (x ≤ 1161)) = b2
  generalize (decide ((7616 : Int) ≤ x) && decide (x ≤ 7679)) = b3
  generalize (decide ((8400 : Int) ≤ x) && decide (x ≤ 8447)) = b4
  cases b1 <;> cases b2 <;> cases b3 <;> cases b4 <;> rfl
theorem j5_eq (k : Nat) (x : Int) (b : Bool) : kind_Of.j5 (k + 3) x b = some (if b = true then 3 else grp t5 x) := by
  rw [kind_Of.j5, show grp t5 x = if inl [(65, 90), (97, 122), (192, 687), (880, 1153), (1162, 1327), (7680, 8191), (64256, 64262)] x = true then 1 else grp t6 x from rfl]
  simp only [in_some, Option.bind_some, j6_eq, apply_ite some]
  simp only [inl, Bool.or_false]
  generalize grp _ x = g
  generalize (decide ((65 : Int) ≤ x) && decide (x ≤ 90)) = b1
  generalize (decide ((97 : Int) ≤ x) && decide (x ≤ 122)) = b2
  generalize (decide ((192 : Int) ≤ x) && decide (x ≤ 687)) = b3
  generalize (decide ((880 : Int) ≤ x) && decide (x ≤ 1153)) = b4
  generalize (decide ((1162 : Int) ≤ x) && decide (x ≤ 1327)) = b5
  generalize (decide ((7680 : Int) ≤ x) && decide (x ≤ 8191)) = b6
  generalize (decide ((64256 : Int) ≤ x) && decide (x ≤ 64262)) = b7
  cases b1 <;> cases b2 <;> cases b3 <;> cases b4 <;> cases b5 <;> cases b6 <;> cases b7 <;> rfl
theorem one_in (x a : Int) : inl [(a, a)] x = (x == a) := by rw [eq_in]; simp [inl]
theorem j4_eq (k : Nat) (x : Int) (b : Bool) : kind_Of.j4 (k + 4) x x b = some (if b = true then 0 else grp tab4 x) := by
  rw [kind_Of.j4, show grp tab4 x = if inl [(894, 894)] x = true then 0 else if inl [(903, 903)] x = true then 7 else if inl [(48, 57), (1632, 1641)] x = true then 3 else grp t5 x from rfl]
  simp only [in_some, Option.bind_some, j5_eq]
  rw [one_in, one_in]
  simp only [inl, Bool.or_false]
  generalize grp _ x = g
  generalize (decide ((48 : Int) ≤ x) && decide (x ≤ 57)) = b1
  generalize (decide ((1632 : Int) ≤ x) && decide (x ≤ 1641)) = b2
  by_cases h1 : x = 894
  · subst h1; cases b <;> rfl
  · by_cases h2 : x = 903
    · subst h2; cases b <;> rfl
    · simp only [h1, h2, if_false, beq_iff_eq]
      cases b <;> cases b1 <;> cases b2 <;> rfl
/-- A chain of tests for numbers, the last one handed on as it is. -/
theorem chain {α : Type} (x : Int) (F : Bool → α) : ∀ l : List Int, ∀ a, (l.foldr (fun b Y => if x = b then F (x == b) else Y) (F (x == a))) = F (inl ((l ++ [a]).map fun b => (b, b)) x)
  | [], a => by
    show F (x == a) = F (inl [(a, a)] x)
    rw [one_in]
  | b :: l, a => by
    have ih := chain x F l a
    rw [List.foldr_cons, ih]
    show _ = F (inl ((b, b) :: (l ++ [a]).map fun b => (b, b)) x)
    rw [inl, ← eq_in]
    by_cases h : x = b
    · subst h; simp
    · rw [if_neg h, beq_eq_false_iff_ne.2 h, Bool.false_or]
theorem j3_eq (k : Nat) (x : Int) (b : Bool) : kind_Of.j3 (k + 5) x x b = some (if b = true then 1 else grp ((0, [(215, 215), (247, 247)]) :: tab4) x) := by
  have e := chain x (fun b => kind_Of.j4 (k + 4) x x b) [215] 247
  simp only [List.foldr_cons, List.foldr_nil] at e
  rw [kind_Of.j3, e, j4_eq]
  cases b
  · rfl
  · rfl
theorem j2_eq (k : Nat) (x : Int) (b : Bool) : kind_Of.j2 (k + 6) x x b = some (if b = true then 5 else grp ((1, [(170, 170), (181, 181), (186, 186), (9676, 9676)]) :: (0, [(215, 215), (247, 247)]) :: tab4) x) := by
  have e := chain x (fun b => kind_Of.j3 (k + 5) x x b) [170, 181, 186] 9676
  simp only [List.foldr_cons, List.foldr_nil] at e
  rw [kind_Of.j2, e, j3_eq]
  cases b
  · rfl
  · rfl
theorem j1_eq (k : Nat) (x : Int) (b : Bool) : kind_Of.j1 (k + 7) x x b = some (if b = true then 6 else grp ((5, [(9, 9), (11, 11), (12, 12), (32, 32), (160, 160), (8239, 8239), (12288, 12288)]) :: (1, [(170, 170), (181, 181), (186, 186), (9676, 9676)]) :: (0, [(215, 215), (247, 247)]) :: tab4) x) := by
  have e := chain x (fun b => kind_Of.j2 (k + 6) x x b) [9, 11, 12, 32, 160, 8239] 12288
  simp only [List.foldr_cons, List.foldr_nil] at e
  rw [kind_Of.j1, e, j2_eq]
  cases b
  · rfl
  · rfl
theorem j0_eq (k : Nat) (x : Int) (b : Bool) : kind_Of.j0 (k + 8) x x b = some (if b = true then 4 else grp ((6, [(10, 10), (13, 13), (133, 133), (8232, 8232), (8233, 8233)]) :: (5, [(9, 9), (11, 11), (12, 12), (32, 32), (160, 160), (8239, 8239), (12288, 12288)]) :: (1, [(170, 170), (181, 181), (186, 186), (9676, 9676)]) :: (0, [(215, 215), (247, 247)]) :: tab4) x) := by
  have e := chain x (fun b => kind_Of.j1 (k + 7) x x b) [10, 13, 133, 8232] 8233
  simp only [List.foldr_cons, List.foldr_nil] at e
  rw [kind_Of.j0, e, j1_eq]
  cases b
  · rfl
  · rfl
/-- kind.Of, every number. -/
theorem of_eq (k : Nat) (x : Int) : kind_Of.f (k + 8) x = some (kindOf x) := by
  have e := chain x (fun b => kind_Of.j0 (k + 8) x x b) [39, 45, 173, 8204, 8205] 8217
  simp only [List.foldr_cons, List.foldr_nil] at e
  rw [kind_Of.f, e, j0_eq]
  rfl
theorem of_ge (k : Nat) (x : Int) (h : 8 ≤ k) : kind_Of.f k x = some (kindOf x) := by
  obtain ⟨m, rfl⟩ : ∃ m, k = m + 8 := ⟨k - 8, by omega⟩
  exact of_eq m x
theorem cell_ge (k : Nat) (a b c : Int) (d : Bool) (e : Int) (h : 8 ≤ k) : kind_Cell.f k a b c d e = some (if d = true then 1 else kindOf c) := by
  unfold kind_Cell.f
  rw [of_ge k c h]
  cases d <;> rfl
theorem kindOf_range (x : Int) : 0 ≤ kindOf x ∧ kindOf x ≤ 7 := by
  have : ∀ (l : List (Int × List (Int × Int))), (∀ g ∈ l, 0 ≤ g.1 ∧ g.1 ≤ 7) → 0 ≤ grp l x ∧ grp l x ≤ 7 := by
    intro l
    induction l with
    | nil => intro _; simp [grp]
    | cons g l ih =>
      intro h
      unfold grp
      split
      · exact h g List.mem_cons_self
      · exact ih fun q hq => h q (List.mem_cons_of_mem _ hq)
  exact this tabA (by decide)

/-- The document's list of ranges: pairs, one behind the other. -/
def flatP (l : List (Int × Int)) : List Int := l.flatMap fun p => [p.1, p.2]
theorem flatP_length (l : List (Int × Int)) : (flatP l).length = 2 * l.length := by
  induction l with
  | nil => rfl
  | cons p l ih => simp [flatP] at ih ⊢; omega
theorem flatP_drop (l : List (Int × Int)) : ∀ j, j < l.length → (flatP l)[2 * j]? = some (l.getD j (0, 0)).1 ∧ (flatP l)[2 * j + 1]? = some (l.getD j (0, 0)).2 := by
  induction l with
  | nil => intro j h; simp at h
  | cons p l ih =>
    intro j h
    cases j with
    | zero => simp [flatP]
    | succ j =>
      have := ih j (by simpa using h)
      simp only [flatP, List.flatMap_cons, List.getD_cons_succ] at this ⊢
      rw [show 2 * (j + 1) = 2 * j + 2 from by omega, show 2 * j + 2 + 1 = 2 * j + 1 + 2 from by omega]
      simpa using this
theorem wrap_id (x : Int) (h : 0 ≤ x) (h2 : x < 9223372036854775808) : wrap64 x = x := by
  unfold wrap64
  omega
end Pl
end Go.Proofs.YtalogampkkjcdaaDoor.F
