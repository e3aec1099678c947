import Derived.Test.YtcpbalnbgmjhjaaDoorV65
import Derived.Test.YtcpbalnbgmjhjaaDoorV613
import Derived.Test.YtcpbalnbgmjhjaaDoorV619
import Derived.Test.YtcpbalnbgmjhjaaDoorV620
import Derived.Test.YtcpbalnbgmjhjaaDoorV616
import Derived.Test.YtcpbalnbgmjhjaaDoorV614
import Derived.Test.YtcpbalnbgmjhjaaDoorV612
import Derived.Test.YtcpbalnbgmjhjaaDoorRows
import Derived.Test.YtcpbalnbgmjhjaaDoorV61
import Derived.ProofKit
import Derived.Deep.Slices
import Derived.Deep.Fields
import Derived.ChangeSame
import Derived.SizedLaws
import Derived.Test.YtcpbalnbgmjhjaaDoorV64
import Derived.Lib.LaidIn
import Derived.Lib.LaidTab
import Derived.Lib.LaidU8T
import Derived.PinnedBridge
/-
  What kind.Of and the document's table answer, as one function on integers: both are constant between the same few places, at which they are compared.
-/
namespace Go.Proofs.YtcpbalnbgmjhjaaDoor.Q
open Go.RowKit Go.Proofs.YtcpbalnbgmjhjaaDoorW.PrintWords Go.Proofs.YtcpbalnbgmjhjaaDoorW.PrintLast
namespace Pl
def inl : List (Int × Int) → Int → Bool
  | [], _ => false
  | p :: l, r => (decide (p.1 ≤ r) && decide (r ≤ p.2)) || inl l r
def grp : List (Int × List (Int × Int)) → Int → Int
  | [], _ => 0
  | g :: l, r => if inl g.2 r = true then g.1 else grp l r
def near (B : List Int) (m r : Int) : Int := (B.filter fun b => decide (b ≤ r)).foldl max m
theorem foldl_max (l : List Int) : ∀ m : Int, m ≤ l.foldl max m ∧ (∀ x ∈ l, x ≤ l.foldl max m) ∧ (l.foldl max m = m ∨ l.foldl max m ∈ l) := by
  induction l with
  | nil => intro m; simp
  | cons a l ih =>
    intro m
    obtain ⟨h1, h2, h3⟩ := ih (max m a)
    rw [List.foldl_cons]
    refine ⟨by omega, fun x hx => ?_, ?_⟩
    · rcases List.mem_cons.1 hx with rfl | hx
      · omega
      · exact h2 x hx
    · rcases h3 with h3 | h3
      · rcases Int.le_total a m with h | h
        · left; rw [h3]; omega
        · right; rw [h3]; exact List.mem_cons.2 (.inl (by omega))
      · exact .inr (List.mem_cons.2 (.inr h3))
theorem near_mem (B : List Int) (m r : Int) : near B m r = m ∨ near B m r ∈ B := by
  rcases (foldl_max (B.filter fun b => decide (b ≤ r)) m).2.2 with h | h
  · exact .inl h
  · exact .inr (List.mem_filter.1 h).1
theorem near_iff (B : List Int) (m r : Int) (hm : ∀ b ∈ B, m < b) (b : Int) (hb : b ∈ B) : b ≤ r ↔ b ≤ near B m r := by
  obtain ⟨h1, h2, h3⟩ := foldl_max (B.filter fun b => decide (b ≤ r)) m
  constructor
  · intro h
    exact h2 b (List.mem_filter.2 ⟨hb, decide_eq_true h⟩)
  · intro h
    have h4 : b ≤ (B.filter fun b => decide (b ≤ r)).foldl max m := h
    rcases h3 with h3 | h3
    · have := hm b hb
      omega
    · have := of_decide_eq_true (List.mem_filter.1 h3).2
      omega
theorem inl_near (B : List Int) (m r : Int) (hm : ∀ b ∈ B, m < b) : ∀ l : List (Int × Int), (∀ p ∈ l, p.1 ∈ B ∧ p.2 + 1 ∈ B) → inl l r = inl l (near B m r)
  | [], _ => rfl
  | p :: l, h => by
    have ih := inl_near B m r hm l (fun q hq => h q (List.mem_cons_of_mem _ hq))
    obtain ⟨h1, h2⟩ := h p List.mem_cons_self
    have e1 := near_iff B m r hm _ h1
    have e2 := near_iff B m r hm _ h2
    have a1 : decide (p.1 ≤ r) = decide (p.1 ≤ near B m r) := decide_eq_decide.2 e1
    have a2 : decide (r ≤ p.2) = decide (near B m r ≤ p.2) := decide_eq_decide.2 (by omega)
    unfold inl
    rw [a1, a2, ih]
theorem grp_near (B : List Int) (m r : Int) (hm : ∀ b ∈ B, m < b) : ∀ l : List (Int × List (Int × Int)), (∀ g ∈ l, ∀ p ∈ g.2, p.1 ∈ B ∧ p.2 + 1 ∈ B) → grp l r = grp l (near B m r)
  | [], _ => rfl
  | g :: l, h => by
    have ih := grp_near B m r hm l (fun q hq => h q (List.mem_cons_of_mem _ hq))
    have e := inl_near B m r hm g.2 (h g List.mem_cons_self)
    unfold grp
    rw [← e, ih]
theorem grp_eq (B : List Int) (m : Int) (hm : ∀ b ∈ B, m < b) (l l' : List (Int × List (Int × Int))) (h : ∀ g ∈ l, ∀ p ∈ g.2, p.1 ∈ B ∧ p.2 + 1 ∈ B) (h' : ∀ g ∈ l', ∀ p ∈ g.2, p.1 ∈ B ∧ p.2 + 1 ∈ B)
    (he : ∀ b ∈ m :: B, grp l b = grp l' b) (r : Int) : grp l r = grp l' r := by
  rw [grp_near B m r hm l h, grp_near B m r hm l' h']
  refine he _ ?_
  rcases near_mem B m r with e | e
  · rw [e]; exact List.mem_cons_self
  · exact List.mem_cons_of_mem _ e
def tabA : List (Int × List (Int × Int)) := [(4, [(39, 39), (45, 45), (173, 173), (8204, 8204), (8205, 8205), (8217, 8217)]), (6, [(10, 10), (13, 13), (133, 133), (8232, 8232), (8233, 8233)]),
  (5, [(9, 9), (11, 11), (12, 12), (32, 32), (160, 160), (8239, 8239), (12288, 12288)]), (1, [(170, 170), (181, 181), (186, 186), (9676, 9676)]), (0, [(215, 215), (247, 247)]), (0, [(894, 894)]), (7, [(903, 903)]),
  (3, [(48, 57), (1632, 1641)]), (1, [(65, 90), (97, 122), (192, 687), (880, 1153), (1162, 1327), (7680, 8191), (64256, 64262)]), (2, [(768, 879), (1155, 1161), (7616, 7679), (8400, 8447)]),
  (5, [(8194, 8202)]), (7, [(33, 126)]), (7, [(161, 191)]), (7, [(8208, 8231)]), (7, [(8240, 8286)])]
def tabB : List (Int × List (Int × Int)) := [(4, [(39, 39), (45, 45), (173, 173), (8204, 8205), (8217, 8217)]), (3, [(48, 57), (1632, 1641)]),
  (1, [(65, 90), (97, 122), (170, 170), (181, 181), (186, 186), (192, 214), (216, 246), (248, 687), (880, 893), (895, 902), (904, 1153), (1162, 1327), (7680, 8191), (64256, 64262), (9676, 9676)]),
  (2, [(768, 879), (1155, 1161), (7616, 7679), (8400, 8447)]), (6, [(10, 10), (13, 13), (133, 133), (8232, 8233)]), (5, [(9, 9), (11, 12), (32, 32), (160, 160), (8194, 8202), (8239, 8239), (12288, 12288)]),
  (7, [(33, 126), (161, 191), (903, 903), (8208, 8231), (8240, 8286)])]
def cuts (l : List (Int × List (Int × Int))) : List Int := l.flatMap fun g => g.2.flatMap fun p => [p.1, p.2 + 1]
def kindOf (r : Int) : Int := grp tabA r
set_option maxRecDepth 100000 in
theorem tabs_eq (r : Int) : grp tabA r = grp tabB r :=
  grp_eq (cuts tabA ++ cuts tabB) 0 (by decide +kernel) tabA tabB (by decide +kernel) (by decide +kernel) (by decide +kernel) r
theorem in_some (x lo hi : Int) : kind_in.f x lo hi = some (decide (lo ≤ x) && decide (x ≤ hi)) := by
  unfold kind_in.f
  by_cases h : lo ≤ x <;> simp [h]
theorem eq_in (x a : Int) : (x == a) = (decide (a ≤ x) && decide (x ≤ a)) := by
  rw [Bool.eq_iff_iff]
  simp
  omega
def t7 : List (Int × List (Int × Int)) := [(5, [(8194, 8202)]), (7, [(33, 126)]), (7, [(161, 191)]), (7, [(8208, 8231)]), (7, [(8240, 8286)])]
def t6 : List (Int × List (Int × Int)) := (2, [(768, 879), (1155, 1161), (7616, 7679), (8400, 8447)]) :: t7
def t5 : List (Int × List (Int × Int)) := (1, [(65, 90), (97, 122), (192, 687), (880, 1153), (1162, 1327), (7680, 8191), (64256, 64262)]) :: t6
def t4 : List (Int × List (Int × Int)) := (3, [(48, 57), (1632, 1641)]) :: t5
def tab4 : List (Int × List (Int × Int)) := (0, [(894, 894)]) :: (7, [(903, 903)]) :: t4
theorem j7_eq (k : Nat) (x : Int) (b : Bool) : kind_Of.j7 (k + 1) x b = some (if b = true then 2 else grp t7 x) := by
  rw [kind_Of.j7]
  simp only [in_some, Option.bind_some, grp, inl, t7, Bool.or_false, apply_ite some]
theorem j6_eq (k : Nat) (x : Int) (b : Bool) : kind_Of.j6 (k + 2) x b = some (if b = true then 1 else grp t6 x) := by
  rw [kind_Of.j6, show grp t6 x = if inl [(768, 879), (1155, 1161), (7616, 7679), (8400, 8447)] x = true then 2 else grp t7 x from rfl]
  simp only [in_some, Option.bind_some, j7_eq, apply_ite some]
  simp only [inl, Bool.or_false]
  generalize grp _ x = g
  generalize (decide ((768 : Int) ≤ x) && decide (x ≤ 879)) = b1
  generalize (decide ((1155 : Int) ≤ x) && decide (x ≤ 1161)) = b2
  generalize (decide ((7616 : Int) ≤ x) && decide (x ≤ 7679)) = b3
  generalize (decide ((8400 : Int) ≤ x) && decide (x ≤ 8447)) = b4
  cases b1 <;> cases b2 <;> cases b3 <;> cases b4 <;> rfl
theorem j5_eq (k : Nat) (x : Int) (b : Bool) : kind_Of.j5 (k + 3) x b = some (if b = true then 3 else grp t5 x) := by
  rw [kind_Of.j5, show grp t5 x = if inl [(65, 90), (97, 122), (192, 687), (880, 1153), (1162, 1327), (7680, 8191), (64256, 64262)] x = true then 1 else grp t6 x from rfl]
  simp only [in_some, Option.bind_some, j6_eq, apply_ite some]
  simp only [inl, Bool.or_false]
  generalize grp _ x = g
  generalize (decide ((65 : Int) ≤ x) && decide (x ≤ 90)) = b1
  generalize (decide ((97 : Int) ≤ x) && decide (x ≤ 122)) = b2
  generalize (decide ((192 : Int) ≤ x) && decide (x ≤ 687)) = b3
  generalize (decide ((880 : Int) ≤ x) && decide (x ≤ 1153)) = b4
  generalize (decide ((1162 : Int) ≤ x) && decide (x ≤ 1327)) = b5
  generalize (decide ((7680 : Int) ≤ x) && decide (x ≤ 8191)) = b6
  generalize (decide ((64256 : Int) ≤ x) && decide (x ≤ 64262)) = b7
  cases b1 <;> cases b2 <;> cases b3 <;> cases b4 <;> cases b5 <;> cases b6 <;> cases b7 <;> rfl
theorem one_in (x a : Int) : inl [(a, a)] x = (x == a) := by rw [eq_in]; simp [inl]
theorem j4_eq (k : Nat) (x : Int) (b : Bool) : kind_Of.j4 (k + 4) x x b = some (if b = true then 0 else grp tab4 x) := by
  rw [kind_Of.j4, show grp tab4 x = if inl [(894, 894)] x = true then 0 else if inl [(903, 903)] x = true then 7 else if inl [(48, 57), (1632, 1641)] x = true then 3 else grp t5 x from rfl]
  simp only [in_some, Option.bind_some, j5_eq]
  rw [one_in, one_in]
  simp only [inl, Bool.or_false]
  generalize grp _ x = g
  generalize (decide ((48 : Int) ≤ x) && decide (x ≤ 57)) = b1
  generalize (decide ((1632 : Int) ≤ x) && decide (x ≤ 1641)) = b2
  by_cases h1 : x = 894
  · subst h1; cases b <;> rfl
  · by_cases h2 : x = 903
    · subst h2; cases b <;> rfl
    · simp only [h1, h2, if_false, beq_iff_eq]
      cases b <;> cases b1 <;> cases b2 <;> rfl
theorem chain {α : Type} (x : Int) (F : Bool → α) : ∀ l : List Int, ∀ a, (l.foldr (fun b Y => if x = b then F (x == b) else Y) (F (x == a))) = F (inl ((l ++ [a]).map fun b => (b, b)) x)
  | [], a => by
    show F (x == a) = F (inl [(a, a)] x)
    rw [one_in]
  | b :: l, a => by
    have ih := chain x F l a
    rw [List.foldr_cons, ih]
    show _ = F (inl ((b, b) :: (l ++ [a]).map fun b => (b, b)) x)
    rw [inl, ← eq_in]
    by_cases h : x = b
    · subst h; simp
    · rw [if_neg h, beq_eq_false_iff_ne.2 h, Bool.false_or]
theorem j3_eq (k : Nat) (x : Int) (b : Bool) : kind_Of.j3 (k + 5) x x b = some (if b = true then 1 else grp ((0, [(215, 215), (247, 247)]) :: tab4) x) := by
  have e := chain x (fun b => kind_Of.j4 (k + 4) x x b) [215] 247
  simp only [List.foldr_cons, List.foldr_nil] at e
  rw [kind_Of.j3, e, j4_eq]
  cases b
  · rfl
  · rfl
theorem j2_eq (k : Nat) (x : Int) (b : Bool) : kind_Of.j2 (k + 6) x x b = some (if b = true then 5 else grp ((1, [(170, 170), (181, 181), (186, 186), (9676, 9676)]) :: (0, [(215, 215), (247, 247)]) :: tab4) x) := by
  have e := chain x (fun b => kind_Of.j3 (k + 5) x x b) [170, 181, 186] 9676
  simp only [List.foldr_cons, List.foldr_nil] at e
  rw [kind_Of.j2, e, j3_eq]
  cases b
  · rfl
  · rfl
theorem j1_eq (k : Nat) (x : Int) (b : Bool) : kind_Of.j1 (k + 7) x x b = some (if b = true then 6 else grp ((5, [(9, 9), (11, 11), (12, 12), (32, 32), (160, 160), (8239, 8239), (12288, 12288)]) :: (1, [(170, 170), (181, 181), (186, 186), (9676, 9676)]) :: (0, [(215, 215), (247, 247)]) :: tab4) x) := by
  have e := chain x (fun b => kind_Of.j2 (k + 6) x x b) [9, 11, 12, 32, 160, 8239] 12288
  simp only [List.foldr_cons, List.foldr_nil] at e
  rw [kind_Of.j1, e, j2_eq]
  cases b
  · rfl
  · rfl
theorem j0_eq (k : Nat) (x : Int) (b : Bool) : kind_Of.j0 (k + 8) x x b = some (if b = true then 4 else grp ((6, [(10, 10), (13, 13), (133, 133), (8232, 8232), (8233, 8233)]) :: (5, [(9, 9), (11, 11), (12, 12), (32, 32), (160, 160), (8239, 8239), (12288, 12288)]) :: (1, [(170, 170), (181, 181), (186, 186), (9676, 9676)]) :: (0, [(215, 215), (247, 247)]) :: tab4) x) := by
  have e := chain x (fun b => kind_Of.j1 (k + 7) x x b) [10, 13, 133, 8232] 8233
  simp only [List.foldr_cons, List.foldr_nil] at e
  rw [kind_Of.j0, e, j1_eq]
  cases b
  · rfl
  · rfl
theorem of_eq (k : Nat) (x : Int) : kind_Of.f (k + 8) x = some (kindOf x) := by
  have e := chain x (fun b => kind_Of.j0 (k + 8) x x b) [39, 45, 173, 8204, 8205] 8217
  simp only [List.foldr_cons, List.foldr_nil] at e
  rw [kind_Of.f, e, j0_eq]
  rfl
theorem of_ge (k : Nat) (x : Int) (h : 8 ≤ k) : kind_Of.f k x = some (kindOf x) := by
  obtain ⟨m, rfl⟩ : ∃ m, k = m + 8 := ⟨k - 8, by omega⟩
  exact of_eq m x
def flatP (l : List (Int × Int)) : List Int := l.flatMap fun p => [p.1, p.2]
theorem flatP_length (l : List (Int × Int)) : (flatP l).length = 2 * l.length := by
  induction l with
  | nil => rfl
  | cons p l ih => simp [flatP] at ih ⊢; omega
theorem flatP_drop (l : List (Int × Int)) : ∀ j, j < l.length → (flatP l)[2 * j]? = some (l.getD j (0, 0)).1 ∧ (flatP l)[2 * j + 1]? = some (l.getD j (0, 0)).2 := by
  induction l with
  | nil => intro j h; simp at h
  | cons p l ih =>
    intro j h
    cases j with
    | zero => simp [flatP]
    | succ j =>
      have := ih j (by simpa using h)
      simp only [flatP, List.flatMap_cons, List.getD_cons_succ] at this ⊢
      rw [show 2 * (j + 1) = 2 * j + 2 from by omega, show 2 * j + 2 + 1 = 2 * j + 1 + 2 from by omega]
      simpa using this
theorem wrap_id (x : Int) (h : 0 ≤ x) (h2 : x < 9223372036854775808) : wrap64 x = x := by
  unfold wrap64
  omega
theorem holds_from (l : List (Int × Int)) (r : Int) (hl : l.length < 1000) : ∀ d j k, l.length = j + d → d < k → siglumref02_holds.l0 k (flatP l) r ((2 * j : Nat) : Int) = some (inl (l.drop j) r)
  | 0, j, k, hd, hk => by
    obtain ⟨k, rfl⟩ : ∃ m, k = m + 1 := ⟨k - 1, by omega⟩
    rw [siglumref02_holds.l0, wrap_id _ (by omega) (by omega), flatP_length, if_neg (by omega), List.drop_of_length_le (by omega)]
    rfl
  | d + 1, j, k, hd, hk => by
    obtain ⟨k, rfl⟩ : ∃ m, k = m + 1 := ⟨k - 1, by omega⟩
    have hj : j < l.length := by omega
    obtain ⟨h1, h2⟩ := flatP_drop l j hj
    have e1 : rd (flatP l) ((2 * j : Nat) : Int) = (l.getD j (0, 0)).1 := by
      unfold rd
      rw [Int.toNat_natCast, List.getD_eq_getElem?_getD, h1]; rfl
    have e2 : rd (flatP l) (((2 * j : Nat) : Int) + 1) = (l.getD j (0, 0)).2 := by
      unfold rd
      rw [show (((2 * j : Nat) : Int) + 1).toNat = 2 * j + 1 from by omega, List.getD_eq_getElem?_getD, h2]; rfl
    have ih := holds_from l r hl d (j + 1) k (by omega) (by omega)
    have e3 : ((2 * (j + 1) : Nat) : Int) = ((2 * j : Nat) : Int) + 2 := by omega
    rw [e3] at ih
    rw [siglumref02_holds.l0, wrap_id (((2 * j : Nat) : Int) + 1) (by omega) (by omega), wrap_id (((2 * j : Nat) : Int) + 2) (by omega) (by omega), flatP_length, e1, e2, ih, List.drop_eq_getElem_cons hj, if_pos (by omega), if_pos (by omega), if_pos (by omega), if_pos (show (0 : Int) ≤ ((2 * j : Nat) : Int) + 1 by omega)]
    have e4 : l.getD j (0, 0) = l[j] := by rw [List.getD_eq_getElem?_getD, List.getElem?_eq_getElem hj]; rfl
    rw [e4, inl]
    by_cases c1 : (l[j]).1 ≤ r
    · rw [if_pos c1]
      by_cases c2 : r ≤ (l[j]).2
      · rw [if_pos c2]; simp [c1, c2]
      · rw [if_neg c2]; simp [c2]
    · rw [if_neg c1]; simp [c1]
theorem holds_eq (l : List (Int × Int)) (r : Int) (hl : l.length < 1000) (k : Nat) (hk : l.length < k) : siglumref02_holds.f k (flatP l) r = some (inl l r) := by
  have := holds_from l r hl l.length 0 k (by omega) hk
  simpa [siglumref02_holds.f] using this
theorem ref_ge (k : Nat) (x : Int) (h : 16 ≤ k) : siglumref02_Of.f k x = some (kindOf x) := by
  rw [show kindOf x = grp tabB x from tabs_eq x]
  unfold siglumref02_Of.f
  have e1 := holds_eq [(39, 39), (45, 45), (173, 173), (8204, 8205), (8217, 8217)] x (by decide) k (by simp; omega)
  have e2 := holds_eq [(48, 57), (1632, 1641)] x (by decide) k (by simp; omega)
  have e3 := holds_eq [(65, 90), (97, 122), (170, 170), (181, 181), (186, 186), (192, 214), (216, 246), (248, 687), (880, 893), (895, 902), (904, 1153), (1162, 1327), (7680, 8191), (64256, 64262), (9676, 9676)] x (by decide) k (by simp; omega)
  have e4 := holds_eq [(768, 879), (1155, 1161), (7616, 7679), (8400, 8447)] x (by decide) k (by simp; omega)
  have e5 := holds_eq [(10, 10), (13, 13), (133, 133), (8232, 8233)] x (by decide) k (by simp; omega)
  have e6 := holds_eq [(9, 9), (11, 12), (32, 32), (160, 160), (8194, 8202), (8239, 8239), (12288, 12288)] x (by decide) k (by simp; omega)
  have e7 := holds_eq [(33, 126), (161, 191), (903, 903), (8208, 8231), (8240, 8286)] x (by decide) k (by simp; omega)
  simp only [flatP, List.flatMap_cons, List.flatMap_nil, List.cons_append, List.nil_append] at e1 e2 e3 e4 e5 e6 e7
  rw [e1, e2, e3, e4, e5, e6, e7]
  simp only [Option.bind_some, tabB]
  simp only [grp, apply_ite some]
end Pl
end Go.Proofs.YtcpbalnbgmjhjaaDoor.Q
/-
  What every two words cost: by the document's steps the same. (UNFINISHED: see NOTES.)
-/
namespace Go.Proofs.YtcpbalnbgmjhjaaDoor.Pure
open Go.RowKit Go.Proofs.YtcpbalnbgmjhjaaDoor.Q Go.Proofs.YtcpbalnbgmjhjaaDoorW.PrintWords Go.Proofs.YtcpbalnbgmjhjaaDoorW.PrintLast Go.Proofs.YtcpbalnbgmjhjaaDoorW.PrintMore
/-! a rune's small form -/
theorem small_tab : ∀ a b : Fin 90, siglumref03_small.f 12 ((a.val * 90 + b.val : Nat) : Int) = some (lowerI ((a.val * 90 + b.val : Nat) : Int)) := by decide +kernel
theorem small_big (x : Int) (h : 8100 ≤ x) : siglumref03_small.f 12 x = some x := by
  have h5 : ∀ k, siglumref03_small.j5 (k + 1) x false = some x := fun k => by rw [siglumref03_small.j5, if_neg (by decide), if_neg (by omega), if_neg (by omega)]
  have h4 : ∀ k e, siglumref03_small.j4 (k + 2) x e false = some x := fun k e => by
    cases e with
    | true => rw [siglumref03_small.j4, if_neg (by decide), if_pos rfl, h5]
    | false => rw [siglumref03_small.j4, if_neg (by decide), if_neg (by decide), if_pos (by omega), if_neg (by omega), if_pos (by omega), decide_eq_false (by omega), h5]
  have h3 : ∀ k e, siglumref03_small.j3 (k + 3) x e false = some x := fun k e => by
    cases e with
    | true => rw [siglumref03_small.j3, if_neg (by decide), if_pos rfl, if_pos (by omega), if_neg (by omega), if_pos (by omega), if_neg (by omega), if_pos (by omega), decide_eq_false (by omega), h4]
    | false => rw [siglumref03_small.j3, if_neg (by decide), if_neg (by decide), h4]
  have h2 : ∀ k e, siglumref03_small.j2 (k + 4) x e false = some x := fun k e => by rw [siglumref03_small.j2, if_neg (by decide), if_pos (by omega), decide_eq_false (by omega), h3]
  have h1 : ∀ k e, siglumref03_small.j1 (k + 5) x e false = some x := fun k e => by rw [siglumref03_small.j1, if_neg (by decide), if_pos (by omega), if_neg (by omega), if_pos (by omega), decide_eq_false (by omega), h2]
  have h0 : ∀ k e, siglumref03_small.j0 (k + 6) x e false = some x := fun k e => by rw [siglumref03_small.j0, if_neg (by decide), if_pos (by omega), if_neg (by omega), h1]
  rw [siglumref03_small.f, if_pos (by omega), decide_eq_false (by omega), h0 6]
theorem small_eq (x : Nat) (k : Nat) (hk : 12 ≤ k) : siglumref03_small.f k (x : Int) = some (lowerI (x : Int)) := by
  refine at_rounds (g := fun k => siglumref03_small.f k (x : Int)) (fun k => siglumref03_small.mono _ k) hk ?_
  by_cases h : x < 8100
  · have := small_tab ⟨x / 90, by omega⟩ ⟨x % 90, by omega⟩
    dsimp only at this
    rw [show x / 90 * 90 + x % 90 = x by omega] at this
    exact this
  · rw [lower_big _ (by omega)]
    exact small_big _ (by omega)
/-! a rune without its mark -/
theorem latin_tab : (gCells latinB latinB.size 0).map (fun c => c.f2) = latinL.map (fun n : Nat => (n : Int)) := by decide +kernel
theorem bare_eq (x : Int) (k : Nat) (hk : 200 ≤ k) : siglumref03_bare.f k x = some (unmarkedI x) := by
  unfold siglumref03_bare.f unmarkedI
  by_cases h1 : x < 192
  · rw [if_pos h1, if_neg (by omega)]
  · rw [if_neg h1]
    by_cases h2 : x > 255
    · rw [if_pos h2, if_neg (by omega)]
    · have hw : wrap32 (x - 192) = x - 192 := by unfold wrap32; omega
      have hc := Pl.cells_eq k latinB (by decide) (by have : latinB.size ≤ 100 := (by decide +kernel); omega)
      have hlen : (gCells latinB latinB.size 0).length = 64 := by decide +kernel
      have hz : ∀ i : Nat, i < 64 → (rd_T91 (gCells latinB latinB.size 0) (i : Int)).f2 = ((latinL.getD i 0 : Nat) : Int) := by
        intro i hi
        have e := congrArg (fun l => l.getD i 0) latin_tab
        rw [Pl.get_rd _ i (by omega)]
        try dsimp only at e
        rw [List.getD_eq_getElem?_getD, List.getElem?_map, List.getElem?_eq_getElem (by omega), List.getD_eq_getElem?_getD, List.getElem?_map] at e
        have hl : i < latinL.length := by have : latinL.length = 64 := by decide
                                          omega
        rw [List.getElem?_eq_getElem hl] at e
        rw [List.getD_eq_getElem?_getD, List.getElem?_eq_getElem hl]
        exact e
      rw [if_neg h2, if_pos (by omega)]
      show ((siglumref01_Cells.f k latinB).bind fun t => _) = _
      rw [hc, Option.bind_some, hw, if_pos (by omega), hlen, if_pos (by omega)]
      have := hz (x - 192).toNat (by omega)
      rw [show (((x - 192).toNat : Nat) : Int) = x - 192 by omega] at this
      rw [this]
/-! u for v -/
theorem plain_eq (x : Int) : siglumref03_plain.f x = some (letterI x) := by
  have : siglumref03_plain.f x = fold_letter.f x := by
    unfold siglumref03_plain.f fold_letter.f
    repeat' split
    all_goals first | rfl | (exfalso; omega) | (subst_vars; rfl) | (subst_vars; unfold wrap32; rfl) | (subst_vars; unfold wrap32; decide)
  rw [this, letter_some]
/-! kinds -/
theorem kindI_of (x : Int) : kindI x = Pl.kindOf x := by
  have h1 := kind_some x
  rw [Pl.of_ge 12 x (by decide)] at h1
  exact (Option.some.inj h1).symm
theorem kind_ref (x : Int) (k : Nat) (hk : 16 ≤ k) : siglumref02_Of.f k x = some (kindI x) := by rw [Pl.ref_ge k x hk, kindI_of]
/-! what a ligature stands for -/
theorem lig_ref (x : Int) : siglumref03_lig.f x = some ⟨((ligI x).getD []).toArray⟩ := by
  unfold siglumref03_lig.f ligI
  by_cases c1 : x = 198; · subst c1; rfl
  rw [if_neg c1, if_neg c1]
  by_cases c2 : x = 230; · subst c2; rfl
  rw [if_neg c2, if_neg c2]
  by_cases c3 : x = 338; · subst c3; rfl
  rw [if_neg c3, if_neg c3]
  by_cases c4 : x = 339; · subst c4; rfl
  rw [if_neg c4, if_neg c4]
  by_cases c5 : x = 223; · subst c5; rfl
  rw [if_neg c5, if_neg c5]
  by_cases c6 : x = 383; · subst c6; rfl
  rw [if_neg c6, if_neg c6]
  by_cases c7 : x = 306; · subst c7; rfl
  rw [if_neg c7, if_neg c7]
  by_cases c8 : x = 307; · subst c8; rfl
  rw [if_neg c8, if_neg c8]
  by_cases c9 : x = 64256; · subst c9; rfl
  rw [if_neg c9, if_neg c9]
  by_cases d1 : x = 64257; · subst d1; rfl
  rw [if_neg d1, if_neg d1]
  by_cases d2 : x = 64258; · subst d2; rfl
  rw [if_neg d2, if_neg d2]
  by_cases d3 : x = 64259; · subst d3; rfl
  rw [if_neg d3, if_neg d3]
  by_cases d4 : x = 64260; · subst d4; rfl
  rw [if_neg d4, if_neg d4]
  by_cases d5 : x = 64261; · subst d5; rfl
  rw [if_neg d5, if_neg d5]
  by_cases d6 : x = 64262; · subst d6; rfl
  rw [if_neg d6, if_neg d6]
  rfl
/-! the sum's bits -/
theorem bit_tab : ∀ n : Fin 32, (decide (Int.tmod (wrap64 (Int.tdiv (n.val : Int) 16)) 2 = 1) = fOn n.val 16) ∧ (decide (Int.tmod (wrap64 (Int.tdiv (n.val : Int) 2)) 2 = 1) = fOn n.val 2) ∧ (decide (Int.tmod (wrap64 (Int.tdiv (n.val : Int) 4)) 2 = 1) = fOn n.val 4) ∧ (decide (Int.tmod (wrap64 (Int.tdiv (n.val : Int) 8)) 2 = 1) = fOn n.val 8) ∧ (decide (Int.tmod (n.val : Int) 2 = 1) = fOn n.val 1) := by decide +kernel
theorem one_end (x : Int) : ¬ wrap64 (0 + 1) < (([x] : List Int).length : Int) := by
  rw [ws _ (by omega) (by omega), List.length_singleton]
  omega
theorem one_in' (x : Int) : (0 : Int) < (([x] : List Int).length : Int) := by
  rw [List.length_singleton]
  omega
/-! a list of at most one rune without those of a kind -/
theorem drop_nil (kd : Int) (k : Nat) (hk : 1 ≤ k) : siglumref03_drop.f k [] kd = some [] := by
  obtain ⟨k, rfl⟩ : ∃ m, k = m + 1 := ⟨k - 1, by omega⟩
  unfold siglumref03_drop.f
  rw [siglumref03_drop.l0, if_neg (by decide)]
theorem drop_one (x kd : Int) (k : Nat) (hk : 18 ≤ k) : siglumref03_drop.f k [x] kd = some (if kindI x = kd then [] else [x]) := by
  obtain ⟨k, rfl⟩ : ∃ m, k = m + 2 := ⟨k - 2, by omega⟩
  unfold siglumref03_drop.f
  have hend : ∀ acc, siglumref03_drop.l0 (k + 1) [x] kd acc (wrap64 (0 + 1)) = some acc := fun acc => by rw [siglumref03_drop.l0, if_neg (one_end x)]
  have hr : rd [x] 0 = x := rfl
  rw [siglumref03_drop.l0, if_pos (one_in' x), if_pos (by decide), hr, kind_ref x _ (by omega), Option.bind_some]
  by_cases h : kindI x = kd
  · rw [if_pos h, if_pos h, hend]
  · rw [if_neg h, if_neg h, if_pos (by decide), hend]
    rfl
/-! ligatures -/
theorem ligs_nil (k : Nat) (hk : 1 ≤ k) : siglumref03_ligs.f k [] = some [] := by
  obtain ⟨k, rfl⟩ : ∃ m, k = m + 1 := ⟨k - 1, by omega⟩
  unfold siglumref03_ligs.f
  rw [siglumref03_ligs.l0, if_neg (by decide)]
theorem ligs_end (x : Int) (acc : List Int) (k : Nat) (hk : 1 ≤ k) : siglumref03_ligs.l0 k [x] acc (wrap64 (0 + 1)) = some acc := by
  obtain ⟨k, rfl⟩ : ∃ m, k = m + 1 := ⟨k - 1, by omega⟩
  rw [siglumref03_ligs.l0, if_neg (one_end x)]
theorem ligs_in (x : Int) (b : ByteArray) (hb : b.size ≤ 1000) : ∀ (d i k : Nat) (acc : List Int), i + d = b.size → acc.length ≤ i + 1 → d + 2 ≤ k →
    siglumref03_ligs.l1 k [x] acc 0 b (i : Int) = some (acc ++ (b.data.toList.drop i).map fun c => (c.toNat : Int))
  | 0, i, k, acc, hd, ha, hk => by
    obtain ⟨k, rfl⟩ : ∃ m, k = m + 1 := ⟨k - 1, by omega⟩
    rw [siglumref03_ligs.l1, if_neg (by omega), ligs_end x acc k (by omega), List.drop_of_length_le (by rw [Array.length_toList]; exact (show b.size ≤ i by omega))]
    simp
  | d + 1, i, k, acc, hd, ha, hk => by
    obtain ⟨k, rfl⟩ : ∃ m, k = m + 1 := ⟨k - 1, by omega⟩
    have e2 : ((i + 1 : Nat) : Int) = (i : Int) + 1 := by omega
    have hi : i < b.size := by omega
    have hl : i < b.data.toList.length := by rw [Array.length_toList]; exact hi
    have hg : ((b.get! i).toNat : Int) = (b.data.toList[i].toNat : Int) := by
      rw [Utf.get_lt b i hi]
      simp
      rfl
    have hw : wrap32 (bt b (i : Int)) = (b.data.toList[i].toNat : Int) := by
      rw [Pl.bt_nat b i hi, hg]
      have := b.data.toList[i].toNat_lt
      unfold wrap32
      omega
    rw [siglumref03_ligs.l1, if_pos (by omega), if_pos (by omega), if_pos (by omega), ws _ (by omega) (by omega), ← e2, hw, ligs_in x b hb d (i + 1) k _ (by omega) (by simp; omega) (by omega), List.drop_eq_getElem_cons hl]
    simp
theorem lig_ne (x : Int) (l : List UInt8) (h : ligI x = some l) : l ≠ [] ∧ l.length ≤ 3 := by
  refine ⟨?_, lig_len x l h⟩
  rintro rfl
  have e := lig_ref x
  revert h
  unfold ligI
  by_cases c1 : x = 198; · rw [if_pos c1]; intro h; cases h
  rw [if_neg c1]
  by_cases c2 : x = 230; · rw [if_pos c2]; intro h; cases h
  rw [if_neg c2]
  by_cases c3 : x = 338; · rw [if_pos c3]; intro h; cases h
  rw [if_neg c3]
  by_cases c4 : x = 339; · rw [if_pos c4]; intro h; cases h
  rw [if_neg c4]
  by_cases c5 : x = 223; · rw [if_pos c5]; intro h; cases h
  rw [if_neg c5]
  by_cases c6 : x = 383; · rw [if_pos c6]; intro h; cases h
  rw [if_neg c6]
  by_cases c7 : x = 306; · rw [if_pos c7]; intro h; cases h
  rw [if_neg c7]
  by_cases c8 : x = 307; · rw [if_pos c8]; intro h; cases h
  rw [if_neg c8]
  by_cases c9 : x = 64256; · rw [if_pos c9]; intro h; cases h
  rw [if_neg c9]
  by_cases d1 : x = 64257; · rw [if_pos d1]; intro h; cases h
  rw [if_neg d1]
  by_cases d2 : x = 64258; · rw [if_pos d2]; intro h; cases h
  rw [if_neg d2]
  by_cases d3 : x = 64259; · rw [if_pos d3]; intro h; cases h
  rw [if_neg d3]
  by_cases d4 : x = 64260; · rw [if_pos d4]; intro h; cases h
  rw [if_neg d4]
  by_cases d5 : x = 64261; · rw [if_pos d5]; intro h; cases h
  rw [if_neg d5]
  by_cases d6 : x = 64262; · rw [if_pos d6]; intro h; cases h
  rw [if_neg d6]
  intro h; cases h
theorem ligs_one (x : Int) (k : Nat) (hk : 20 ≤ k) : siglumref03_ligs.f k [x] = some (match ligI x with | some l => l.map fun b => (b.toNat : Int) | none => [x]) := by
  obtain ⟨k, rfl⟩ : ∃ m, k = m + 2 := ⟨k - 2, by omega⟩
  unfold siglumref03_ligs.f
  have hr : rd [x] 0 = x := rfl
  rw [siglumref03_ligs.l0, if_pos (one_in' x), if_pos (by decide), hr, lig_ref, Option.bind_some, toList_data]
  cases h : ligI x with
  | none =>
    rw [if_pos (show (⟨((none : Option (List UInt8)).getD []).toArray⟩ : ByteArray).data.toList = [] from rfl), if_pos (by decide), siglumref03_ligs.j1]
    have := ligs_in x ⟨#[]⟩ (by decide) 0 0 k [x] rfl (by simp) (by omega)
    simpa using this
  | some l =>
    obtain ⟨h1, h2⟩ := lig_ne x l h
    have hz : (⟨l.toArray⟩ : ByteArray).size = l.length := by show l.toArray.size = _; simp
    rw [if_neg (by simpa using h1), siglumref03_ligs.j1]
    have := ligs_in x ⟨l.toArray⟩ (by rw [hz]; omega) l.length 0 k [] (by rw [hz]; omega) (by simp) (by omega)
    simpa using this
/-! a list of runes written -/
theorem strOf_flat : ∀ R : List Int, (strOfNums (R.flatMap Lib.encodeRuneZ)).data.toList = R.flatMap fun y => Lib.encodeRune y
  | [] => rfl
  | c :: R => by
    have ih := strOf_flat R
    rw [List.flatMap_cons, List.flatMap_cons, Pl.strOf_append, ih, Pl.strOf_rune, Utf.encode_list]
theorem back_loop (R : List Int) (hl : R.length ≤ 4294967296) : ∀ (d i k : Nat) (acc : List Int), i + d = R.length → acc.length ≤ 4 * i → d + 5 ≤ k →
    siglumref01_Back.l0 k R acc (i : Int) = some (strOfNums (acc ++ (R.drop i).flatMap Lib.encodeRuneZ))
  | 0, i, k, acc, hd, ha, hk => by
    obtain ⟨k, rfl⟩ : ∃ m, k = m + 1 := ⟨k - 1, by omega⟩
    rw [siglumref01_Back.l0, if_neg (by omega), List.drop_of_length_le (by omega)]
    simp
  | d + 1, i, k, acc, hd, ha, hk => by
    obtain ⟨k, rfl⟩ : ∃ m, k = m + 1 := ⟨k - 1, by omega⟩
    have hi : i < R.length := by omega
    have e2 : ((i + 1 : Nat) : Int) = (i : Int) + 1 := by omega
    have hc := (Lib.encodeRuneZ_length R[i]).2
    rw [siglumref01_Back.l0, if_pos (by omega), if_pos (by omega), rd_nat R i hi, Pl.written_ge _ _ (by omega), Pl.wrap_small _ (by omega) (by omega), ← e2, List.drop_eq_getElem_cons hi, List.flatMap_cons]
    simp only [Option.bind_some]
    rw [if_pos (by omega), back_loop R hl d (i + 1) k _ (by omega) (by rw [List.length_append]; omega) (by omega), List.append_assoc]
theorem back_eq (R : List Int) (hl : R.length ≤ 4294967296) (k : Nat) (hk : R.length + 5 ≤ k) : siglumref01_Back.f k R = some ⟨(R.flatMap fun y => Lib.encodeRune y).toArray⟩ := by
  unfold siglumref01_Back.f
  have := back_loop R hl R.length 0 k [] (by omega) (by simp) hk
  rw [List.drop_zero, List.nil_append] at this
  refine Eq.trans this ?_
  congr 1
  apply ByteArray.ext
  apply Array.toList_inj.1
  rw [strOf_flat]
/-! one rune's steps -/
theorem rd_at (pre rest : List Int) (y : Int) : rd (pre ++ y :: rest) (pre.length : Int) = y := by
  rw [rd_nat _ _ (by simp)]
  simp
theorem set_at (pre rest : List Int) (y t : Int) : (pre ++ y :: rest).set ((pre.length : Nat) : Int).toNat t = pre ++ t :: rest := by
  rw [Int.toNat_natCast]
  simp
def tail2 (o y : Int) : Int := let b := if fOn o 2 = true then unmarkedI y else y; if fOn o 8 = true then letterI b else b
theorem step_tail (o x : Int) : stepI o x = tail2 o (if fOn o 1 = true then lowerI x else x) := by rw [step_eq]; rfl
theorem bits_of (o : Int) (ho : 0 ≤ o ∧ o ≤ 31) : (decide (Int.tmod (wrap64 (Int.tdiv o 16)) 2 = 1) = fOn o 16) ∧ (decide (Int.tmod (wrap64 (Int.tdiv o 2)) 2 = 1) = fOn o 2) ∧ (decide (Int.tmod (wrap64 (Int.tdiv o 4)) 2 = 1) = fOn o 4) ∧ (decide (Int.tmod (wrap64 (Int.tdiv o 8)) 2 = 1) = fOn o 8) ∧ (decide (Int.tmod o 2 = 1) = fOn o 1) := by
  have := bit_tab ⟨o.toNat, by omega⟩
  dsimp only at this
  rw [show ((o.toNat : Nat) : Int) = o by omega] at this
  exact this
theorem ite_bit {α : Type} {P : Prop} [Decidable P] {b : Bool} (h : decide P = b) (x y : α) : (if P then x else y) = if b = true then x else y := by
  subst h
  by_cases hp : P
  · rw [if_pos hp, decide_eq_true hp, if_pos rfl]
  · rw [if_neg hp, decide_eq_false hp, if_neg (by decide)]
theorem j5_eq (o : Int) (ho : 0 ≤ o ∧ o ≤ 31) (pre rest : List Int) (y : Int) (hl : pre.length + rest.length ≤ 1000) (k : Nat) (hk : 200 ≤ k) :
    siglumref03_Rune.j5 (k + 1) o (pre ++ y :: rest) (pre.length : Int) = siglumref03_Rune.l0 k o (pre ++ tail2 o y :: rest) ((pre.length + 1 : Nat) : Int) := by
  obtain ⟨_, b2, _, b8, _⟩ := bits_of o ho
  have hlt : (pre.length : Int) < ((pre ++ y :: rest).length : Int) := by simp; omega
  have e2 : ((pre.length + 1 : Nat) : Int) = wrap64 ((pre.length : Int) + 1) := by rw [ws _ (by omega) (by omega)]; omega
  rw [siglumref03_Rune.j5, ite_bit b2, ite_bit b8, e2, if_pos (show (0 : Int) ≤ (pre.length : Int) by omega), if_pos hlt, if_pos (show (0 : Int) ≤ (pre.length : Int) by omega), if_pos hlt, rd_at, bare_eq y k (by omega), plain_eq]
  simp only [Option.bind_some, ite_bit b8, set_at, rd_at, plain_eq]
  unfold tail2
  cases fOn o 2 <;> cases fOn o 8 <;> simp
theorem rune_loop (o : Int) (ho : 0 ≤ o ∧ o ≤ 31) : ∀ (rest pre : List Int) (k : Nat), (∀ y ∈ rest, ∃ r : Nat, y = (r : Int)) → pre.length + rest.length ≤ 1000 → 2 * rest.length + 1300 ≤ k →
    siglumref03_Rune.l0 k o (pre ++ rest) (pre.length : Int) = some (⟨((pre ++ rest.map (stepI o)).flatMap fun y => Lib.encodeRune y).toArray⟩, 0)
  | [], pre, k, _, hl, hk => by
    obtain ⟨k, rfl⟩ : ∃ m, k = m + 1 := ⟨k - 1, by omega⟩
    simp only [List.length_nil] at hl hk
    rw [siglumref03_Rune.l0, List.append_nil, if_neg (by omega), back_eq pre (by omega) k (by omega), Option.bind_some]
    simp
  | y :: rest, pre, k, hn, hl, hk => by
    obtain ⟨k, rfl⟩ : ∃ m, k = m + 2 := ⟨k - 2, by omega⟩
    simp only [List.length_cons] at hl hk
    obtain ⟨r, rfl⟩ := hn y List.mem_cons_self
    obtain ⟨_, _, _, _, b1⟩ := bits_of o ho
    have hlt : (pre.length : Int) < ((pre ++ (r : Int) :: rest).length : Int) := by simp; omega
    have ih := rune_loop o ho rest (pre ++ [stepI o (r : Int)]) k (fun z hz => hn z (List.mem_cons_of_mem _ hz)) (by simp; omega) (by omega)
    have hfin : siglumref03_Rune.l0 (k + 2) o (pre ++ (r : Int) :: rest) (pre.length : Int) = siglumref03_Rune.l0 k o (pre ++ stepI o (r : Int) :: rest) ((pre.length + 1 : Nat) : Int) := by
      rw [siglumref03_Rune.l0, if_pos hlt, ite_bit b1, if_pos (show (0 : Int) ≤ (pre.length : Int) by omega), rd_at, small_eq r _ (by omega), Option.bind_some, set_at, step_tail]
      cases fOn o 1 with
      | true => rw [if_pos rfl, if_pos rfl, j5_eq o ho pre rest _ (by omega) k (by omega)]
      | false => rw [if_neg (by decide), if_neg (by decide), j5_eq o ho pre rest _ (by omega) k (by omega)]
    rw [hfin]
    have e3 : pre ++ stepI o (r : Int) :: rest = (pre ++ [stepI o (r : Int)]) ++ rest := by simp
    have e4 : ((pre.length + 1 : Nat) : Int) = ((pre ++ [stepI o (r : Int)]).length : Int) := by simp
    rw [e3, e4, ih]
    simp
theorem lig_nat (l : List UInt8) : ∀ y ∈ (l.map fun b => (b.toNat : Int)), ∃ r : Nat, y = (r : Int) := by
  intro y hy
  obtain ⟨b, _, rfl⟩ := List.mem_map.1 hy
  exact ⟨b.toNat, rfl⟩
theorem rune_ref (x : Nat) (o : Int) (ho : 0 ≤ o ∧ o ≤ 31) (k : Nat) (hk : 2000 ≤ k) : siglumref03_Rune.f k (x : Int) o = some (⟨(foldR o (x : Int)).toArray⟩, 0) := by
  obtain ⟨b16, b2, b4, _, _⟩ := bits_of o ho
  obtain ⟨k, rfl⟩ : ∃ m, k = m + 4 := ⟨k - 4, by omega⟩
  have hend : ∀ L : List Int, (∀ y ∈ L, ∃ r : Nat, y = (r : Int)) → L.length ≤ 3 → siglumref03_Rune.j3 (k + 1) o L = some (⟨((L.map (stepI o)).flatMap fun y => Lib.encodeRune y).toArray⟩, 0) := fun L hn hl => by
    rw [siglumref03_Rune.j3]
    have := rune_loop o ho L [] k hn (by simp; omega) (by omega)
    simpa using this
  have h2 : ∀ L : List Int, L = [] ∨ L = [(x : Int)] → siglumref03_Rune.j2 (k + 2) o L = some (⟨(((if L = [] then [] else foldS o (x : Int)).map (stepI o)).flatMap fun y => Lib.encodeRune y).toArray⟩, 0) := by
    intro L hL
    rw [siglumref03_Rune.j2, ite_bit b4]
    have hS : foldS o (x : Int) = if fOn o 4 = true then (match ligI (x : Int) with | some l => l.map fun b => (b.toNat : Int) | none => [(x : Int)]) else [(x : Int)] := by
      unfold foldS
      cases fOn o 4 <;> cases ligI (x : Int) <;> rfl
    rcases hL with rfl | rfl
    · have e : (if fOn o 4 = true then (siglumref03_ligs.f (k + 1) []).bind fun t => siglumref03_Rune.j3 (k + 1) o t else siglumref03_Rune.j3 (k + 1) o []) = siglumref03_Rune.j3 (k + 1) o [] := by
        rw [ligs_nil _ (by omega), Option.bind_some, ite_self]
      rw [e, hend [] (by simp) (by simp)]
      simp
    · rw [ligs_one _ _ (by omega), Option.bind_some, if_neg (show ¬ [(x : Int)] = [] by simp), hS]
      cases fOn o 4 with
      | false =>
        rw [if_neg (by decide), if_neg (by decide)]
        exact hend [(x : Int)] (by intro y hy; exact ⟨x, by simpa using hy⟩) (by simp)
      | true =>
        rw [if_pos rfl, if_pos rfl]
        cases hl : ligI (x : Int) with
        | none => exact hend [(x : Int)] (by intro y hy; exact ⟨x, by simpa using hy⟩) (by simp)
        | some l => exact hend _ (lig_nat l) (by rw [List.length_map]; exact (lig_ne _ l hl).2)
  have h1 : ∀ L : List Int, L = [] ∨ L = [(x : Int)] → siglumref03_Rune.j1 (k + 3) o L = some (⟨(((if L = [] ∨ (fOn o 2 = true ∧ kindI (x : Int) = 2) then [] else foldS o (x : Int)).map (stepI o)).flatMap fun y => Lib.encodeRune y).toArray⟩, 0) := by
    intro L hL
    rw [siglumref03_Rune.j1, ite_bit b2]
    rcases hL with rfl | rfl
    · rw [drop_nil _ _ (by omega), Option.bind_some, h2 [] (Or.inl rfl), if_pos rfl, if_pos (Or.inl rfl)]
      simp
    · rw [drop_one _ _ _ (by omega), Option.bind_some]
      by_cases hc : fOn o 2 = true ∧ kindI (x : Int) = 2
      · rw [if_pos hc.1, if_pos hc.2, h2 [] (Or.inl rfl), if_pos rfl, if_pos (Or.inr hc)]
      · rw [if_neg (show ¬ ([(x : Int)] = [] ∨ (fOn o 2 = true ∧ kindI (x : Int) = 2)) from fun h => h.elim (by simp) hc)]
        by_cases h2' : fOn o 2 = true
        · rw [if_pos h2', if_neg (fun h => hc ⟨h2', h⟩), h2 _ (Or.inr rfl), if_neg (by simp)]
        · rw [if_neg h2', h2 _ (Or.inr rfl), if_neg (by simp)]
  unfold siglumref03_Rune.f
  rw [if_neg (by omega), decide_eq_false (show ¬ o > 31 by omega), siglumref03_Rune.j0, if_neg (by decide), Option.bind_some, ite_bit b16, drop_one _ _ _ (by omega), Option.bind_some, foldR_out]
  unfold outR foldDrop
  by_cases hc : fOn o 16 = true ∧ kindI (x : Int) = 4
  · rw [if_pos hc.1, if_pos hc.2, h1 [] (Or.inl rfl), if_pos (Or.inl rfl), if_pos (by rw [hc.1, hc.2]; rfl)]
    simp
  · have hL : (if fOn o 16 = true then siglumref03_Rune.j1 (k + 3) o (if kindI (x : Int) = 4 then [] else [(x : Int)]) else siglumref03_Rune.j1 (k + 3) o [(x : Int)]) = siglumref03_Rune.j1 (k + 3) o [(x : Int)] := by
      by_cases h16 : fOn o 16 = true
      · rw [if_pos h16, if_neg (fun h => hc ⟨h16, h⟩)]
      · rw [if_neg h16]
    have hf : (fOn o 16 && decide (kindI (x : Int) = 4)) = false := by
      cases h16 : fOn o 16 with
      | false => rfl
      | true => rw [Bool.true_and]; exact decide_eq_false (fun h => hc ⟨h16, h⟩)
    rw [hL, h1 _ (Or.inr rfl), hf, Bool.false_or]
    by_cases h2' : fOn o 2 = true ∧ kindI (x : Int) = 2
    · rw [if_pos (Or.inr h2'), if_pos (by rw [h2'.1, h2'.2]; rfl)]
      rfl
    · rw [if_neg (show ¬ ([(x : Int)] = [] ∨ (fOn o 2 = true ∧ kindI (x : Int) = 2)) from fun h => h.elim (by simp) h2'), if_neg (by simpa using h2')]
/-! a text -/
def foldCZ (o : Int) (c : S91) : List Int := if c.f3 = true then [c.f4] else bytesOf ⟨(foldR o c.f2).toArray⟩
theorem foldCZ_len (o : Int) (c : S91) : (foldCZ o c).length ≤ 12 := by
  unfold foldCZ
  split
  · simp
  · rw [bytesOf_length]
    have := foldR_len o c.f2
    show (foldR o c.f2).toArray.size ≤ 12
    simpa using this
theorem cells_nat (s : ByteArray) : ∀ f i, ∀ c ∈ gCells s f i, ∃ r : Nat, c.f2 = (r : Int)
  | 0, i, c, hc => by simp [gCells] at hc
  | f + 1, i, c, hc => by
    unfold gCells at hc
    split at hc
    · rcases List.mem_cons.1 hc with rfl | hc
      · exact ⟨_, rfl⟩
      · exact cells_nat s f _ c hc
    · cases hc
theorem text_loop (o : Int) (ho : 0 ≤ o ∧ o ≤ 31) (C : List S91) (hC : C.length ≤ 4294967296) (hn : ∀ c ∈ C, ∃ r : Nat, c.f2 = (r : Int)) : ∀ (d i k : Nat) (acc : List Int), i + d = C.length → acc.length ≤ 12 * i → d + 2001 ≤ k →
    siglumref03_Text.l0 k o acc C (i : Int) = some (strOfNums (acc ++ (C.drop i).flatMap (foldCZ o)), 0)
  | 0, i, k, acc, hd, ha, hk => by
    obtain ⟨k, rfl⟩ : ∃ m, k = m + 1 := ⟨k - 1, by omega⟩
    rw [siglumref03_Text.l0, if_neg (by omega), List.drop_of_length_le (by omega)]
    simp
  | d + 1, i, k, acc, hd, ha, hk => by
    obtain ⟨k, rfl⟩ : ∃ m, k = m + 1 := ⟨k - 1, by omega⟩
    have hi : i < C.length := by omega
    have e2 : ((i + 1 : Nat) : Int) = (i : Int) + 1 := by omega
    have hlen := foldCZ_len o C[i]
    have hw : wrap64 ((i : Int) + 1) = ((i + 1 : Nat) : Int) := by rw [ws _ (by omega) (by omega), e2]
    have hstep : siglumref03_Text.l0 (k + 1) o acc C (i : Int) = siglumref03_Text.l0 k o (acc ++ foldCZ o C[i]) C ((i + 1 : Nat) : Int) := by
      rw [siglumref03_Text.l0, if_pos (by omega), if_pos (by omega), Pl.get_rd C i hi, hw]
      by_cases h3 : C[i].f3 = true
      · rw [if_pos h3, if_pos (by omega)]
        unfold foldCZ
        rw [if_pos h3]
      · obtain ⟨r, hr⟩ := hn C[i] (List.getElem_mem hi)
        have hz : acc.length + (⟨(foldR o C[i].f2).toArray⟩ : ByteArray).size < 140737488355328 := by
          have := foldR_len o C[i].f2
          have e : (⟨(foldR o C[i].f2).toArray⟩ : ByteArray).size = (foldR o C[i].f2).length := by show (foldR o C[i].f2).toArray.size = _; simp
          omega
        have hrf := rune_ref r o ho k (by omega)
        rw [← hr] at hrf
        rw [if_neg h3, hrf, Option.bind_some]
        dsimp only
        rw [if_pos hz]
        unfold foldCZ
        rw [if_neg h3]
    rw [hstep, text_loop o ho C hC hn d (i + 1) k _ (by omega) (by rw [List.length_append]; omega) (by omega), List.drop_eq_getElem_cons hi, List.flatMap_cons, List.append_assoc]
theorem nums_bytes (b : ByteArray) : (strOfNums (bytesOf b)).data.toList = b.data.toList := by
  unfold strOfNums bytesOf
  simp [List.map_map, Function.comp_def]
theorem nums_fold (o : Int) : ∀ C : List S91, (strOfNums (C.flatMap (foldCZ o))).data.toList = foldT o C
  | [] => rfl
  | c :: C => by
    have ih := nums_fold o C
    have e1 : foldT o (c :: C) = foldC o c ++ foldT o C := rfl
    rw [List.flatMap_cons, Pl.strOf_append, ih, e1]
    congr 1
    unfold foldCZ foldC
    by_cases h3 : c.f3 = true
    · rw [if_pos h3, if_pos h3]
      rfl
    · rw [if_neg h3, if_neg h3, nums_bytes]
theorem reftext_eq (s : ByteArray) (o : Int) (hs : s.size ≤ 1048576) (ho : 0 ≤ o ∧ o ≤ 31) (k : Nat) (hk : 2000000 ≤ k) : siglumref03_Text.f k s o = some (fd s o, 0) := by
  obtain ⟨k, rfl⟩ : ∃ m, k = m + 1 := ⟨k - 1, by omega⟩
  have hc := Pl.cells_le s
  unfold siglumref03_Text.f
  rw [if_neg (by omega), decide_eq_false (show ¬ o > 31 by omega), siglumref03_Text.j0, if_neg (by decide), Pl.cells_eq k s (by omega) (by omega), Option.bind_some]
  have := text_loop o ho (gCells s s.size 0) (by omega) (cells_nat s _ _) (gCells s s.size 0).length 0 k [] (by omega) (by simp) (by omega)
  rw [List.drop_zero, List.nil_append] at this
  refine Eq.trans this ?_
  congr 2
  apply ByteArray.ext
  apply Array.toList_inj.1
  rw [nums_fold]
  rfl
/-! words -/
theorem refcheck_eq (g n f o : Int) : siglumref09_Check.f g n f o = some (if scaleOk g n f o then 0 else 90) := by
  by_cases h : scaleOk g n f o
  · rw [if_pos h]
    unfold scaleOk at h
    unfold siglumref09_Check.f
    rw [if_neg (by omega), if_neg (by omega), if_neg (by omega), if_neg (by omega), if_neg (by omega), if_neg (by omega), if_neg (by omega), if_neg (by omega)]
  · rw [if_neg h]
    unfold scaleOk at h
    unfold siglumref09_Check.f
    by_cases h1 : g < 1; · rw [if_pos h1]
    rw [if_neg h1]
    by_cases h2 : g > 1000; · rw [if_pos h2]
    rw [if_neg h2]
    by_cases h3 : n < 1; · rw [if_pos h3]
    rw [if_neg h3]
    by_cases h4 : n > 1000; · rw [if_pos h4]
    rw [if_neg h4]
    by_cases h5 : f < 1; · rw [if_pos h5]
    rw [if_neg h5]
    by_cases h6 : f > 1000; · rw [if_pos h6]
    rw [if_neg h6]
    by_cases h7 : o < 0; · rw [if_pos h7]
    rw [if_neg h7]
    by_cases h8 : o > 31; · rw [if_pos h8]
    exact absurd (by omega) h
theorem fits_eq (s : ByteArray) (o : Int) (hs : (fd s o).size ≤ 12582912) (k : Nat) (hk : 12582924 ≤ k) : siglumref09_fits.f k (fd s o) = some (!longW s o) := by
  unfold siglumref09_fits.f longW
  rw [Pl.cells_eq k _ (by omega) (by omega), Option.bind_some, cb_len]
  congr 1
  by_cases h : 256 < (gCells (fd s o) (fd s o).size 0).length
  · rw [decide_eq_true h, decide_eq_false (by omega)]; rfl
  · rw [decide_eq_false h, decide_eq_true (by omega)]; rfl
theorem refwords_eq (a b : ByteArray) (ha : a.size ≤ 1048576) (hb : b.size ≤ 1048576) (g n f o : Int) (k : Nat) (hk : 30000001 ≤ k) : siglumref09_Words.f k a b g n f o = some (wP a b g n f o) := by
  obtain ⟨k, rfl⟩ : ∃ m, k = m + 1 := ⟨k - 1, by omega⟩
  unfold siglumref09_Words.f wP
  rw [refcheck_eq, Option.bind_some]
  by_cases hs : scaleOk g n f o
  · have hs' := hs
    unfold scaleOk at hs'
    obtain ⟨_, hn, hf, ho⟩ := hs'
    have z1 := fd_size a o
    have z2 := fd_size b o
    rw [if_pos hs, if_pos rfl, if_pos hs, reftext_eq a o ha ho _ (by omega), Option.bind_some, reftext_eq b o hb ho _ (by omega), Option.bind_some]
    dsimp only
    rw [fits_eq a o (by omega) _ (by omega), fits_eq b o (by omega) _ (by omega), Option.bind_some, Option.bind_some]
    have hj : siglumref09_Words.j0 (k + 1) a b (fd a o) (fd b o) true g n f o = some (0, 1) := by rw [siglumref09_Words.j0, if_pos rfl]
    by_cases l1 : longW a o = true
    · rw [l1, if_neg (by decide), hj, if_pos (Or.inl rfl)]
    · have l1' : longW a o = false := by simpa using l1
      rw [l1', if_pos (by decide)]
      by_cases l2 : longW b o = true
      · rw [l2, if_pos (Or.inr rfl)]
        exact hj
      · have l2' : longW b o = false := by simpa using l2
        have s1 := short_of a o l1
        have s2 := short_of b o l2
        rw [l2', if_neg (by simp), siglumref09_Words.j0, if_neg (by decide)]
        unfold twoP lostB
        simp only [toList_data]
        by_cases e1 : (fd a o).data.toList = (fd b o).data.toList
        · rw [if_pos e1, if_pos e1]
        · rw [if_neg e1, if_neg e1]
          by_cases e2 : a.data.toList = [226, 151, 140]
          · rw [if_pos e2, if_pos (Or.inl e2), mn_eq]
          · rw [if_neg e2]
            by_cases e3 : b.data.toList = [226, 151, 140]
            · rw [if_pos e3, if_pos (Or.inr e3), mn_eq]
            · have hlv := lev_256 (fd a o) (fd b o) s1 s2
              have hb1 : 0 ≤ ((Lv.lev (cb (fd a o)) (cb (fd b o)) : Nat) : Int) * n := Int.mul_nonneg (by omega) (by omega)
              have hb2 : ((Lv.lev (cb (fd a o)) (cb (fd b o)) : Nat) : Int) * n ≤ 256 * 1000 := Int.mul_le_mul (by omega) (by omega) (by omega) (by omega)
              rw [if_neg e3, if_neg (fun h => h.elim e2 e3), refof_eq (fd a o) (fd b o) (by omega) (by omega) k (by unfold kOf; omega), Option.bind_some]
              unfold dOf
              rw [if_pos ⟨s1, s2⟩]
              dsimp only
              rw [Int.mul_comm n, ws _ (by omega) (by omega), mn_eq]
  · rw [if_neg hs, if_neg hs, if_neg (by decide)]
end Go.Proofs.YtcpbalnbgmjhjaaDoor.Pure
/-
  The document's grid of two lists of words, in plain numbers.
-/
namespace Go.Proofs.YtcpbalnbgmjhjaaDoor.Pure
open Go.RowKit Go.Proofs.YtcpbalnbgmjhjaaDoor.Q Go.Proofs.YtcpbalnbgmjhjaaDoorW.PrintWords Go.Proofs.YtcpbalnbgmjhjaaDoorW.PrintLast Go.Proofs.YtcpbalnbgmjhjaaDoorW.PrintMore
theorem long_loop (L : List ByteArray) (hL : smallL L) (hl : L.length ≤ 1024) (g n f o : Int) (ho : 0 ≤ o ∧ o ≤ 31) : ∀ (d x : Nat), x + d = L.length → Ev (fun k => siglumref09_long.l0 k L (x : Int) g n f o) ((L.drop x).any fun s => longW s o) := by
  intro d
  induction d with
  | zero =>
    intro x hd
    rw [List.drop_of_length_le (by omega)]
    exact Ev.step (f := fun _ => some false) (fun k => by rw [siglumref09_long.l0, if_neg (by omega)]) (Ev.now _)
  | succ d IH =>
    intro x hd
    have hx : x < L.length := by omega
    have hs := hL _ (List.getElem_mem hx)
    have z := fd_size L[x] o
    rw [List.drop_eq_getElem_cons hx, List.any_cons]
    have e1 : Ev (fun k => siglumref03_Text.f k L[x] o) (fd L[x] o, 0) := ev_at 20000000 fun k hk => reftext_eq L[x] o hs ho k (by omega)
    have e2 : Ev (fun k => siglumref09_fits.f k (fd L[x] o)) (!longW L[x] o) := ev_at 12582924 fun k hk => fits_eq L[x] o (by omega) k hk
    refine Ev.step (f := fun k => (siglumref03_Text.f k L[x] o).bind fun t => (siglumref09_fits.f k t.1).bind fun u => if u = true then siglumref09_long.l0 k L ((x + 1 : Nat) : Int) g n f o else some true) (fun k => by
      rw [siglumref09_long.l0, if_pos (by omega), if_pos (by omega), rdOf_nat L x hx, wsucc x (by omega)]) ?_
    refine ev_bind e1 (ev_bind e2 ?_)
    by_cases h : longW L[x] o = true
    · rw [h]
      exact Ev.congr (fun k => by rw [if_neg (by decide)]; rfl) (Ev.now _)
    · have h' : longW L[x] o = false := by simpa using h
      rw [h', Bool.false_or]
      exact Ev.congr (fun k => by rw [if_pos (by decide)]) (IH (x + 1) (by omega))
theorem long_ev (L : List ByteArray) (hL : smallL L) (hl : L.length ≤ 1024) (g n f o : Int) (ho : 0 ≤ o ∧ o ≤ 31) : Ev (fun k => siglumref09_long.f k L g n f o) ((L.drop 0).any fun s => longW s o) := long_loop L hL hl g n f o ho L.length 0 (by omega)
section
variable (X Y : List ByteArray) (g n f o : Int) (hs : scaleOk g n f o) (hX : smallL X) (hY : smallL Y) (lX : ¬ longL X o) (lY : ¬ longL Y o)
include hs hX hY lX lY
theorem refgrid_l1 (i : Nat) (hi : i < X.length) (acc : List (List Int)) (R : List (List Int) × Int) (ha : acc.length = i)
    (ih : Ev (fun k => siglumref09_Grid.l0 k X Y (acc ++ [Y.map fun y => wO n f o X[i] y]) ((i + 1 : Nat) : Int) g n f o) R) :
    ∀ (d j : Nat), j + d = Y.length → Ev (fun k => siglumref09_Grid.l1 k X Y acc (i : Int) ((Y.take j).map fun y => wO n f o X[i] y) (j : Int) g n f o) R := by
  intro d
  have l1 := (not_long lX).1
  have l2 := (not_long lY).1
  induction d with
  | zero =>
    intro j hd
    obtain rfl : j = Y.length := by omega
    exact Ev.step (fun k => by rw [siglumref09_Grid.l1, if_neg (by omega), if_pos (by omega), wsucc i (by omega), List.take_length]) ih
  | succ d IH =>
    intro j hd
    have hj : j < Y.length := by omega
    have h1 := hX _ (List.getElem_mem hi)
    have h2 := hY _ (List.getElem_mem hj)
    have n1 := (not_long lX).2 _ (List.getElem_mem hi)
    have n2 := (not_long lY).2 _ (List.getElem_mem hj)
    have e1 : Ev (fun k => siglumref09_Words.f k X[i] Y[j] g n f o) (wO n f o X[i] Y[j], 0) := by
      have e : wP X[i] Y[j] g n f o = (wO n f o X[i] Y[j], 0) := by
        unfold wP
        rw [if_pos hs, if_neg (fun h => h.elim n1 n2)]
        rfl
      rw [← e]
      exact ev_at 30000001 fun k hk => refwords_eq X[i] Y[j] h1 h2 g n f o k hk
    refine Ev.step (f := fun k => (siglumref09_Words.f k X[i] Y[j] g n f o).bind fun t => if ((Y.take j).map fun y => wO n f o X[i] y).length < 17592186044416 then siglumref09_Grid.l1 k X Y acc (i : Int) (((Y.take j).map fun y => wO n f o X[i] y) ++ [t.1]) ((j + 1 : Nat) : Int) g n f o else none) (fun k => by
      rw [siglumref09_Grid.l1, if_pos (by omega), if_pos (by omega), if_pos (by omega), if_pos (by omega), rdOf_nat X i hi, rdOf_nat Y j hj, wsucc j (by omega)]) ?_
    refine ev_bind e1 (Ev.congr (fun k => by rw [if_pos (by rw [List.length_map, List.length_take]; omega)]) ?_)
    have := IH (j + 1) (by omega)
    rw [List.take_succ_eq_append_getElem hj, List.map_append] at this
    exact this
theorem refgrid_l0 : ∀ (d i : Nat), i + d = X.length → Ev (fun k => siglumref09_Grid.l0 k X Y ((X.take i).map fun x => Y.map fun y => wO n f o x y) (i : Int) g n f o) (gridP X Y n f o, 0) := by
  intro d
  induction d with
  | zero =>
    intro i hd
    obtain rfl : i = X.length := by omega
    refine Ev.step (f := fun _ => some (gridP X Y n f o, 0)) (fun k => by rw [siglumref09_Grid.l0, if_neg (by omega), List.take_length]; rfl) (Ev.now _)
  | succ d IH =>
    intro i hd
    have hi : i < X.length := by omega
    refine Ev.step (fun k => by rw [siglumref09_Grid.l0, if_pos (by omega)]) ?_
    refine refgrid_l1 X Y g n f o hs hX hY lX lY i hi _ _ (by rw [List.length_map, List.length_take]; omega) ?_ Y.length 0 (by omega)
    have := IH (i + 1) (by omega)
    rw [List.take_succ_eq_append_getElem hi, List.map_append] at this
    exact this
end
theorem refgrid_eq (X Y : List ByteArray) (hX : smallL X) (hY : smallL Y) (g n f o : Int) : Ev (fun k => siglumref09_Grid.f k X Y g n f o) (gridR X Y g n f o) := by
  unfold gridR
  by_cases hs : scaleOk g n f o
  · have hs' := hs
    unfold scaleOk at hs'
    obtain ⟨_, hn, _, ho⟩ := hs'
    rw [if_pos hs]
    have hj : Ev (fun k => siglumref09_Grid.j0 k X Y true g n f o) (([] : List (List Int)), 1) := Ev.step (f := fun _ => some ([], 1)) (fun k => by rw [siglumref09_Grid.j0, if_pos rfl]) (Ev.now _)
    have e0 : ∀ k, siglumref09_Grid.f k X Y g n f o = if (X.length : Int) > 1024 then siglumref09_Grid.j0 k X Y true g n f o else if (Y.length : Int) > 1024 then siglumref09_Grid.j0 k X Y true g n f o else (siglumref09_long.f k X g n f o).bind fun t => if t = true then siglumref09_Grid.j0 k X Y true g n f o else (siglumref09_long.f k Y g n f o).bind fun u => siglumref09_Grid.j0 k X Y u g n f o := fun k => by
      unfold siglumref09_Grid.f
      rw [refcheck_eq, if_pos hs, Option.bind_some, if_pos rfl]
    refine Ev.congr e0 ?_
    by_cases h1 : (X.length : Int) > 1024
    · rw [if_pos (Or.inl (show longL X o from Or.inl (by omega)))]
      exact Ev.congr (fun k => by rw [if_pos h1]) hj
    · by_cases h2 : (Y.length : Int) > 1024
      · rw [if_pos (Or.inr (show longL Y o from Or.inl (by omega)))]
        exact Ev.congr (fun k => by rw [if_neg h1, if_pos h2]) hj
      · refine Ev.congr (fun k => by rw [if_neg h1, if_neg h2]) (ev_bind (long_ev X hX (by omega) g n f o ho) ?_)
        by_cases a1 : (X.drop 0).any (fun s => longW s o) = true
        · rw [if_pos (Or.inl (show longL X o from Or.inr a1)), a1]
          exact Ev.congr (fun k => by rw [if_pos rfl]) hj
        · have a1' : (X.drop 0).any (fun s => longW s o) = false := by simpa using a1
          rw [a1']
          refine Ev.congr (fun k => by rw [if_neg (by decide)]) (ev_bind (long_ev Y hY (by omega) g n f o ho) ?_)
          by_cases a2 : (Y.drop 0).any (fun s => longW s o) = true
          · rw [if_pos (Or.inr (show longL Y o from Or.inr a2)), a2]
            exact hj
          · have a2' : (Y.drop 0).any (fun s => longW s o) = false := by simpa using a2
            have lX : ¬ longL X o := fun e => Or.elim e (by omega) a1
            have lY : ¬ longL Y o := fun e => Or.elim e (by omega) a2
            rw [a2', if_neg (fun h => h.elim lX lY)]
            exact Ev.step (fun k => by rw [siglumref09_Grid.j0, if_neg (by decide)]; rfl) (refgrid_l0 X Y g n f o hs hX hY lX lY X.length 0 (by omega))
  · rw [if_neg hs]
    exact Ev.congr (fun k => by unfold siglumref09_Grid.f; rw [refcheck_eq, if_neg hs, Option.bind_some, if_neg (by decide)]) (Ev.now _)
end Go.Proofs.YtcpbalnbgmjhjaaDoor.Pure
/-
  What makes little work: the document's own question has an answer.
-/
namespace Go.Proofs.YtcpbalnbgmjhjaaDoor.Pure
open Go.RowKit Go.Proofs.YtcpbalnbgmjhjaaDoor.Q Go.Proofs.YtcpbalnbgmjhjaaDoorW.PrintWords Go.Proofs.YtcpbalnbgmjhjaaDoorW.PrintLast Go.Proofs.YtcpbalnbgmjhjaaDoorW.PrintMore
/-! little work -/
theorem weight_loop (L : List ByteArray) (hL : L.length ≤ 1024) (hs : smallL L) : ∀ (d x : Nat) (s : Int), x + d = L.length → 0 ≤ s ∧ s ≤ 2000 + 1048576 * x → ∃ r, 0 ≤ r ∧ r ≤ 2000 + 1048576 * 1024 ∧ Ev (fun k => siglumref09_Weight.l0 k L s (x : Int)) r := by
  intro d
  induction d with
  | zero =>
    intro x s hd h
    exact ⟨s, h.1, by omega, Ev.step (f := fun _ => some s) (fun k => by rw [siglumref09_Weight.l0, if_neg (by omega)]) (Ev.now _)⟩
  | succ d IH =>
    intro x s hd h
    have hx : x < L.length := by omega
    have h1 := hs _ (List.getElem_mem hx)
    obtain ⟨r, a, b, c⟩ := IH (x + 1) (s + (L[x].size : Int)) (by omega) (by omega)
    refine ⟨r, a, b, Ev.step (fun k => ?_) c⟩
    rw [siglumref09_Weight.l0, if_pos (by omega), if_pos (by omega), rdOf_nat L x hx, ws (s + (L[x].size : Int)) (by omega) (by omega), wsucc x (by omega)]
theorem little_any (a b : Int) : ∃ r, Ev (fun k => siglumref09_Little.f k [a, b]) r := by
  have r0 : rd [a, b] 0 = a := rfl
  have r1 : rd [a, b] 1 = b := rfl
  have w2 : wrap64 (1 + 1) = 2 := by rw [ws _ (by decide) (by decide)]; rfl
  have w1 : wrap64 (0 + 1) = 1 := by rw [ws _ (by decide) (by decide)]; rfl
  have last : ∀ x3 x4 : Int, ∃ r, Ev (fun k => siglumref09_Little.l0 k [a, b] x3 x4 2) r := fun x3 x4 =>
    ⟨true, Ev.step (f := fun _ => some true) (fun k => by rw [siglumref09_Little.l0, if_neg (by show ¬ (2 : Int) < 2; omega)]) (Ev.now _)⟩
  have second : ∀ x3 x4 : Int, ∃ r, Ev (fun k => siglumref09_Little.l0 k [a, b] x3 x4 1) r := by
    intro x3 x4
    by_cases h3 : x3 > 0
    · by_cases h4 : b > wrap64 (Int.tdiv x4 x3)
      · exact ⟨false, Ev.step (f := fun _ => some false) (fun k => by rw [siglumref09_Little.l0, if_pos (by show (1 : Int) < 2; omega), if_pos h3, if_pos (by omega), if_neg (by omega), r1, if_pos h4]) (Ev.now _)⟩
      · obtain ⟨r, hr⟩ := last (wrap64 (x3 + b)) (wrap64 (x4 - wrap64 (x3 * b)))
        exact ⟨r, Ev.step (fun k => by rw [siglumref09_Little.l0, if_pos (by show (1 : Int) < 2; omega), if_pos h3, if_pos (by omega), if_neg (by omega), r1, if_neg h4, w2]) hr⟩
    · obtain ⟨r, hr⟩ := last (wrap64 (x3 + b)) (wrap64 (x4 - wrap64 (x3 * b)))
      exact ⟨r, Ev.step (fun k => by rw [siglumref09_Little.l0, if_pos (by show (1 : Int) < 2; omega), if_neg h3, if_pos (by omega), r1, w2]) hr⟩
  obtain ⟨r, hr⟩ := second (wrap64 (0 + a)) (wrap64 (4000000 - wrap64 (0 * a)))
  exact ⟨r, Ev.step (g := fun k => siglumref09_Little.l0 k [a, b] 0 4000000 0) (fun k => by rw [siglumref09_Little.l0, if_pos (by show (0 : Int) < 2; omega), if_neg (by omega), if_pos (by omega), r0, w1]) hr⟩
theorem light_any (X Y : List ByteArray) (hX : smallL X) (hY : smallL Y) : ∃ r, Ev (fun k => siglumref09_Light.f k X Y) r := by
  by_cases h1 : (X.length : Int) > 1024
  · exact ⟨true, Ev.congr (fun k => by unfold siglumref09_Light.f; rw [if_pos h1]) (Ev.now _)⟩
  · by_cases h2 : (Y.length : Int) > 1024
    · exact ⟨true, Ev.congr (fun k => by unfold siglumref09_Light.f; rw [if_neg h1, if_pos h2]) (Ev.now _)⟩
    · obtain ⟨a, a0, a1, ha⟩ := weight_loop X (by omega) hX X.length 0 (X.length : Int) (by omega) (by omega)
      obtain ⟨b, b0, b1, hb⟩ := weight_loop Y (by omega) hY Y.length 0 (Y.length : Int) (by omega) (by omega)
      obtain ⟨r, hr⟩ := little_any a b
      have ha' : Ev (fun k => siglumref09_Weight.f k X) a := ha
      have hb' : Ev (fun k => siglumref09_Weight.f k Y) b := hb
      refine ⟨r, Ev.congr (f := fun k => (siglumref09_Weight.f k X).bind fun s => (siglumref09_Weight.f k Y).bind fun t => (siglumref09_Little.f k [s, t]).bind fun u => some u) (fun k => by unfold siglumref09_Light.f; rw [if_neg h1, if_neg h2]) ?_⟩
      exact ev_bind ha' (ev_bind hb' (ev_bind hr (Ev.now _)))
end Go.Proofs.YtcpbalnbgmjhjaaDoor.Pure
/-
  How an argument's reading as data gives the kinds that the print speaks of: integers, bools, strings, slices, structs of one-cell fields; and that the bulk of what is read is no more than the data's bulk.
-/
namespace Go.Proofs.YtcpbalnbgmjhjaaDoor.Op
open Go.RowKit Go.ChangeShapes Go.WideShapes Go.Deep Go.Proofs.YtcpbalnbgmjhjaaDoorW.PrintWords
theorem bulk_pos {H : Type} (d : DataW H) : 1 ≤ Rows.uptoBulk d := by
  cases d with
  | lit l => cases l <;> simp [Rows.uptoBulk]
  | nil => simp [Rows.uptoBulk]
  | ptr d => simp [Rows.uptoBulk]
  | slice elems spare => simp [Rows.uptoBulk]
  | agg parts => simp [Rows.uptoBulk]
  | iface t d => simp [Rows.uptoBulk]
  | map entries => simp [Rows.uptoBulk]
  | held h => simp [Rows.uptoBulk]
theorem bulk_append {H : Type} (l r : List (DataW H)) : Rows.uptoBulkAll (l ++ r) = Rows.uptoBulkAll l + Rows.uptoBulkAll r := by
  induction l with
  | nil => simp [Rows.uptoBulkAll]
  | cons x l ih => simp only [List.cons_append, Rows.uptoBulkAll, ih]; omega
theorem bulk_bound {H : Type} {l : List (DataW H)} (hk : Rows.uptoSmall H l = true) : Rows.uptoBulkAll l ≤ 1048576 := of_decide_eq_true hk
def Opens (P : Program) {α : Type} (t : TypeId) (d : Kd α) (good : α → Prop) (bulk : α → Nat) : Prop :=
  ∀ {H : Type} {enc : TypeId × Value → H} {w : World} {base : Nat} {spare : Nat → Bool} {held : Bool} {fuel : Nat} {cs : List Value} {x : DataW H × List MemPlace},
    DataW.trod enc P w base spare held fuel t cs = some x → ∃ a : α, d.K w a cs ∧ good a ∧ bulk a ≤ Rows.uptoBulk x.1
variable {P : Program}
theorem opens_int {t : TypeId} {k : IntKind} (ht : P.underlying t = some (.int k)) : Opens P t (Kd.int k) (fun n => (Lit.int k n).wf = true) (fun _ => 1) := by
  intro H enc w base spare held fuel cs x h
  obtain ⟨n, rfl, rfl, hw⟩ := DataW.trod_int ht h
  exact ⟨n, rfl, hw, bulk_pos _⟩
theorem opens_string {t : TypeId} (ht : P.underlying t = some .string) : Opens P t Kd.string (fun s => s.size ≤ maxLen) (fun s => s.size + 1) := by
  intro H enc w base spare held fuel cs x h
  obtain ⟨n, rfl, rfl, hw⟩ := DataW.trod_string ht h
  refine ⟨n, rfl, hw, ?_⟩
  simp [Rows.uptoBulk]
theorem opens_slice {α : Type} {t e : TypeId} {d : Kd α} {good : α → Prop} {bulk : α → Nat} (ht : P.underlying t = some (.slice e)) (hc : P.cellsOf e = d.sz) (h : Opens P e d good bulk) :
    Opens P t (Kd.slice e d) (fun l => (∀ x ∈ l, good x) ∧ l.length ≤ maxLen) (fun l => (l.map bulk).sum + 1) := by
  intro H enc w base spare held fuel cs x hx
  rcases open_slice ht hx with ⟨rfl, rfl⟩ | ⟨a, len, cap, m, n, D, Pl, rfl, hb, hl, hm, hmm, rfl, hi⟩
  · exact ⟨[], ⟨none, 0, rfl, Nat.le_refl _, rfl, Nat.zero_le _, fun h0 => absurd h0 (Nat.lt_irrefl _)⟩, ⟨fun _ hx => absurd hx (List.not_mem_nil), Nat.zero_le _⟩, bulk_pos _⟩
  · have hlm : len ≤ m := by rw [hmm]; split <;> omega
    have key : ∀ j, j ≤ len → ∃ l : List α, l.length = j ∧ (∀ i p, l[i]? = some p → ∃ c, w.cells? base (a.add (i * P.cellsOf e)) (P.cellsOf e) = some c ∧ d.K w p c) ∧ (∀ x ∈ l, good x) ∧ (l.map bulk).sum ≤ Rows.uptoBulkAll ((List.range j).map D) := by
      intro j
      induction j with
      | zero => intro _; exact ⟨[], rfl, fun i p hp => by simp at hp, fun _ hx => absurd hx (List.not_mem_nil), by simp⟩
      | succ j ih =>
        intro hj
        obtain ⟨l, hll, h1, h2, h3⟩ := ih (by omega)
        obtain ⟨cs', hcs, htr⟩ := hi j (by omega)
        obtain ⟨p, hK, hg, hbk⟩ := h htr
        refine ⟨l ++ [p], by simp [hll], fun i q hq => ?_, fun x hx => ?_, ?_⟩
        · rcases Nat.lt_trichotomy i l.length with hlt | heq | hgt
          · rw [List.getElem?_append_left hlt] at hq
            exact h1 i q hq
          · subst heq
            simp at hq
            subst hq
            rw [hll]
            exact ⟨cs', hcs, hK⟩
          · rw [List.getElem?_eq_none (by simp; omega)] at hq
            cases hq
        · rcases List.mem_append.1 hx with hx | hx
          · exact h2 x hx
          · rw [List.mem_singleton.1 hx]; exact hg
        · rw [List.map_append, List.sum_append, List.range_succ, List.map_append, bulk_append]
          simp only [List.map_cons, List.map_nil, List.sum_cons, List.sum_nil, Rows.uptoBulkAll]
          have hbk' : bulk p ≤ Rows.uptoBulk (D j) := hbk
          omega
    obtain ⟨l, hll, h1, h2, h3⟩ := key len (Nat.le_refl _)
    refine ⟨l, ⟨some a, cap, by rw [hll], by omega, rfl, by rw [hll]; unfold maxLen at hm; omega, fun _ => ⟨a, rfl, fun j p hp => ?_⟩⟩, ⟨h2, by rw [hll]; omega⟩, ?_⟩
    · obtain ⟨c, hcc, hK⟩ := h1 j p hp
      obtain ⟨_, hcl, hat⟩ := World.cells?_some hcc
      refine ⟨c, by rw [hcl, hc], hK, fun i u hu => ?_⟩
      have hil : i < P.cellsOf e := by
        rw [← hcl]
        exact (List.getElem?_eq_some_iff.1 hu).1
      rw [← hc, ← Go.Deep.add_add, hat i hil, hu]
    · show (l.map bulk).sum + 1 ≤ Rows.uptoBulkAll ((List.range len).map D) + Rows.uptoBulkAll _ + 1
      omega
theorem open_fields {H : Type} {enc : TypeId × Value → H} {w : World} {base : Nat} {spare : Nat → Bool} {held : Bool} {t : TypeId} {fs : Array Field} {fuel : Nat} {cs : List Value} {x : DataW H × List MemPlace} (he : P.underlying t = some (.struct fs))
    (hone : oneCellFields P fs = true) (hC : P.cellsOf t = fs.size) (h : DataW.trod enc P w base spare held fuel t cs = some x) :
    ∃ (ys : List (DataW H × List MemPlace)) (n : Nat), x.1 = .agg (ys.map (·.1)) ∧ ys.length = fs.size ∧ cs.length = fs.size ∧
      ∀ (j : Nat) (f : Field), fs[j]? = some f → ∃ (v : Value) (y : DataW H × List MemPlace), cs[j]? = some v ∧ ys[j]? = some y ∧ DataW.trod enc P w base spare held n f.type [v] = some y := by
  obtain ⟨ys, n', hn', hy, hlen, hyl, hf⟩ := DataW.trod_struct he h
  refine ⟨ys, n', by rw [hy], hyl, by rw [hlen, hC], fun j f hj => ?_⟩
  obtain ⟨ho, hk⟩ := hone_of hone j f hj
  have hjl : j < fs.size := (Array.getElem?_eq_some_iff.1 hj).1
  have hcl : j < cs.length := by rw [hlen, hC]; exact hjl
  have h1 := hf j f hj
  rw [ho, hk] at h1
  have hone' : (cs.drop j).take 1 = [cs[j]] := by
    rw [List.drop_eq_getElem_cons hcl]
    rfl
  rw [hone'] at h1
  have hys : ys[j]? = some (ys[j]'(by omega)) := List.getElem?_eq_getElem (by omega)
  exact ⟨_, _, List.getElem?_eq_getElem hcl, hys, h1.trans hys⟩
end Go.Proofs.YtcpbalnbgmjhjaaDoor.Op
/-
  The listed tables of utf8, strings and unicode: what a row's list gives a walk; a world in which the listed variables lie as their initialisers lay them.
-/
namespace Go.Proofs.YtcpbalnbgmjhjaaDoor.Tb
open Go.Shelf Go.ChangeShapes Go.WideShapes Go.ChangeAt Go.RowKit Go.Lib
abbrev listed : List (String × DataW Unit) := [("unicode/utf8.acceptRanges", Rows.laid_unicode_utf8_acceptRanges), ("unicode.White_Space", Rows.laid_unicode_White_Space), ("strings.asciiSpace", Rows.laid_strings_asciiSpace), ("unicode/utf8.first", Rows.laid_unicode_utf8_first)]
theorem acc_eq : (Rows.laid_unicode_utf8_acceptRanges : DataW Unit) = Lib.acceptData := by kernel_rfl
theorem first_eq : (Rows.laid_unicode_utf8_first : DataW Unit) = Lib.firstData := Pinned.utf8First_eq
theorem space_eq : (Rows.laid_strings_asciiSpace : DataW Unit) = Lib.tabData .u8 Lib.asciiSpaceTab := by kernel_rfl
theorem tabs {W : World} (hL : laidMet Tryd.prog listed W) : Utf.Tabs2 W := by
  have h4 : VarReads Tryd.prog W "unicode/utf8.acceptRanges" acceptData := by rw [← acc_eq]; exact Lib.laidMet.reads hL (.head _)
  have h3 : VarReads Tryd.prog W "unicode/utf8.first" firstData := by rw [← first_eq]; exact Lib.laidMet.reads hL (.tail _ (.tail _ (.tail _ (.head _))))
  have h2 : VarReads Tryd.prog W "strings.asciiSpace" (Lib.tabData .u8 Lib.asciiSpaceTab) := by rw [← space_eq]; exact Lib.laidMet.reads hL (.tail _ (.tail _ (.head _)))
  refine ⟨utf8Tabs_of_readsT (U8Types.of260 Tryd.lays260) ⟨by kernel_rfl, by kernel_rfl, by kernel_rfl, by kernel_rfl, by kernel_rfl, by kernel_rfl, by kernel_rfl⟩ h3 h4, ?_⟩
  obtain ⟨g, t, cs, fuel, p, hg, ht, hv, hread⟩ := h2
  have e1 : g = 2 := Option.some.inj (hg.symm.trans (by kernel_rfl))
  subst e1
  have e2 : t = 118 := Option.some.inj (ht.symm.trans (by kernel_rfl))
  subst e2
  have hc := Lib.cells_of_tab (n := 256) (e := 5) Tryd.underlying118 Tryd.underlying5 (by kernel_rfl) (by kernel_rfl) hread
  unfold Lib.TabIs
  rw [hv]
  congr 1
  exact Array.toList_inj.1 (by rw [hc])
noncomputable def laidWorld (os : Os) : World :=
  let w0 := World.holding Tryd.prog os ⟨#[], #[], []⟩
  let put (h : Array Obj) (g : Nat) (cs : Array Value) : Array Obj := h.modify g fun
    | .cells _ t frozen => .cells cs t frozen
    | o => o
  let h1 := put w0.heap 0 (Lib.firstTab.map fun z => Value.int .u8 z).toArray
  let h2 := put h1 1 ((List.range 16).flatMap fun i => [Value.int .u8 (Lib.accLo i), Value.int .u8 (Lib.accHi i)]).toArray
  let h3 := put h2 2 (Lib.asciiSpaceTab.map fun z => Value.int .u8 z).toArray
  let h4 := put h3 3 #[.pointer (some ⟨h3.size, 0, none⟩)]
  let h5 := (h4.push (.cells #[.slice (some ⟨h4.size + 1, 0, none⟩) 7 7, .slice none 0 0, .int .i64 2] 154 (0, 0))).push (.cells ([9, 13, 1, 32, 133, 101, 160, 5760, 5600, 8192, 8202, 1, 8232, 8233, 1, 8239, 8287, 48, 12288, 12288, 1].map fun z => Value.int .u16 z).toArray 157 (0, 0))
  { w0 with heap := h5 }
theorem laid_met (os : Os) (args : Array Value) : laidMet Tryd.prog listed ((laidWorld os).forCall (fun _ _ => 0) ⟨#[], args, []⟩).memory := by
  have h := (LaidIn.of_run (P := Tryd.prog) (w := ((laidWorld os).forCall (fun _ _ => 0) ⟨#[], args, []⟩).memory) (l := [("unicode/utf8.acceptRanges", Lib.acceptData), ("unicode.White_Space", Rows.laid_unicode_White_Space), ("strings.asciiSpace", Rows.laid_strings_asciiSpace), ("unicode/utf8.first", Lib.firstData)]) (List.range 40) 8 (by kernel_rfl) (by kernel_rfl) (by kernel_rfl) (by kernel_rfl)).met
  rw [← acc_eq, ← first_eq] at h
  exact h
end Go.Proofs.YtcpbalnbgmjhjaaDoor.Tb
