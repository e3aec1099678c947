-- Printed by hprint.py (this session's program over the kit's print) out of the translation; the parts 'by hand' are the session's own.
import Derived.Test.YtalogampkkjcdaaDoorFx0
import Derived.Test.YtalogampkkjcdaaDoorFx2
import Derived.Test.YtalogampkkjcdaaDoorFx5
namespace Go.Proofs.YtalogampkkjcdaaDoor.F
open Go.RowKit Go.Proofs.YtalogampkkjcdaaDoorW.PrintWords Go.Proofs.YtalogampkkjcdaaDoorW.PrintLast Go.Proofs.YtalogampkkjcdaaDoorW.PrintMore
attribute [local go_sem] max2_int min2_int max_two min_two max_three min_three max_four min_four   -- for this text's walks alone
set_option linter.unusedVariables false
set_option linter.unusedSimpArgs false

/-! ### scan_tokens: function 40: by hand -/
/-- Out of a scope with four labels. -/
def jump4 (l0 l1 l2 l3 : Nat) (J0 J1 J2 J3 : Act → World → Prop) (Q : Exit → Act → World → Prop) : Exit → Act → World → Prop
  | .goto l, a, w => (l = l0 ∧ J0 a w) ∨ (l = l1 ∧ J1 a w) ∨ (l = l2 ∧ J2 a w) ∨ (l = l3 ∧ J3 a w)
  | e, a, w => Q e a w
theorem wp_scope4 {P : Program} {a : Act} {w : World} {Q : Exit → Act → World → Prop} {c r0 r1 r2 r3 : Code} (l0 l1 l2 l3 : Nat) (J0 J1 J2 J3 : Act → World → Prop) (m0 m1 m2 m3 : Act → World → Nat)
    (h0 : findLabel c l0 = some r0) (h1 : findLabel c l1 = some r1) (h2 : findLabel c l2 = some r2) (h3 : findLabel c l3 = some r3)
    (first : c.wp P (jump4 l0 l1 l2 l3 J0 J1 J2 J3 Q) a w)
    (p0 : ∀ a w, J0 a w → r0.wp P (jump4 l0 l1 l2 l3 (fun a' w' => J0 a' w' ∧ m0 a' w' < m0 a w) (fun a' w' => J1 a' w' ∧ m1 a' w' < m0 a w) (fun a' w' => J2 a' w' ∧ m2 a' w' < m0 a w) (fun a' w' => J3 a' w' ∧ m3 a' w' < m0 a w) Q) a w)
    (p1 : ∀ a w, J1 a w → r1.wp P (jump4 l0 l1 l2 l3 (fun a' w' => J0 a' w' ∧ m0 a' w' < m1 a w) (fun a' w' => J1 a' w' ∧ m1 a' w' < m1 a w) (fun a' w' => J2 a' w' ∧ m2 a' w' < m1 a w) (fun a' w' => J3 a' w' ∧ m3 a' w' < m1 a w) Q) a w)
    (p2 : ∀ a w, J2 a w → r2.wp P (jump4 l0 l1 l2 l3 (fun a' w' => J0 a' w' ∧ m0 a' w' < m2 a w) (fun a' w' => J1 a' w' ∧ m1 a' w' < m2 a w) (fun a' w' => J2 a' w' ∧ m2 a' w' < m2 a w) (fun a' w' => J3 a' w' ∧ m3 a' w' < m2 a w) Q) a w)
    (p3 : ∀ a w, J3 a w → r3.wp P (jump4 l0 l1 l2 l3 (fun a' w' => J0 a' w' ∧ m0 a' w' < m3 a w) (fun a' w' => J1 a' w' ∧ m1 a' w' < m3 a w) (fun a' w' => J2 a' w' ∧ m2 a' w' < m3 a w) (fun a' w' => J3 a' w' ∧ m3 a' w' < m3 a w) Q) a w) :
    (Code.scope c).wp P Q a w := by
  intro b k cs
  have hg : ∀ l r, findLabel c l = some r → gotoIn l (.inScope c :: k) = some (.code r :: .inScope c :: k) := fun l r h => by simp [gotoIn, h]
  -- from a jump on
  have key : ∀ n l r a w, findLabel c l = some r → ((l = l0 ∧ r = r0 ∧ J0 a w ∧ m0 a w = n) ∨ (l = l1 ∧ r = r1 ∧ J1 a w ∧ m1 a w = n) ∨ (l = l2 ∧ r = r2 ∧ J2 a w ∧ m2 a w = n) ∨ (l = l3 ∧ r = r3 ∧ J3 a w ∧ m3 a w = n)) →
      ∃ e a' w', Q e a' w' ∧ Arrives P (lone (b.at a (.code r :: .inScope c :: k)) cs w) b k cs e a' w' := by
    intro n
    induction n using Nat.strongRecOn with
    | _ n ih =>
      intro l r a w hl hJ
      have run : ∀ (Z0 Z1 Z2 Z3 : Act → World → Prop), (∀ a w, Z0 a w → J0 a w ∧ m0 a w < n) → (∀ a w, Z1 a w → J1 a w ∧ m1 a w < n) → (∀ a w, Z2 a w → J2 a w ∧ m2 a w < n) → (∀ a w, Z3 a w → J3 a w ∧ m3 a w < n) →
          r.wp P (jump4 l0 l1 l2 l3 Z0 Z1 Z2 Z3 Q) a w → ∃ e a' w', Q e a' w' ∧ Arrives P (lone (b.at a (.code r :: .inScope c :: k)) cs w) b k cs e a' w' := by
        intro Z0 Z1 Z2 Z3 z0 z1 z2 z3 hwp
        obtain ⟨e, a₁, w₁, hq, harr⟩ := hwp b (.inScope c :: k) cs
        cases e with
        | normal => exact ⟨.normal, a₁, w₁, hq, Steps.trans harr (.one step_inScope)⟩
        | exit id => exact ⟨.exit id, a₁, w₁, hq, fun k' hk => harr k' (by simp [exitTo, hk])⟩
        | goto l' =>
          rcases hq with ⟨rfl, hz⟩ | ⟨rfl, hz⟩ | ⟨rfl, hz⟩ | ⟨rfl, hz⟩
          · obtain ⟨hj, hlt⟩ := z0 _ _ hz
            obtain ⟨e₂, a₂, w₂, hq₂, harr₂⟩ := ih _ hlt _ r0 a₁ w₁ h0 (.inl ⟨rfl, rfl, hj, rfl⟩)
            exact ⟨e₂, a₂, w₂, hq₂, .of_steps (harr _ (hg _ _ h0)) harr₂⟩
          · obtain ⟨hj, hlt⟩ := z1 _ _ hz
            obtain ⟨e₂, a₂, w₂, hq₂, harr₂⟩ := ih _ hlt _ r1 a₁ w₁ h1 (.inr (.inl ⟨rfl, rfl, hj, rfl⟩))
            exact ⟨e₂, a₂, w₂, hq₂, .of_steps (harr _ (hg _ _ h1)) harr₂⟩
          · obtain ⟨hj, hlt⟩ := z2 _ _ hz
            obtain ⟨e₂, a₂, w₂, hq₂, harr₂⟩ := ih _ hlt _ r2 a₁ w₁ h2 (.inr (.inr (.inl ⟨rfl, rfl, hj, rfl⟩)))
            exact ⟨e₂, a₂, w₂, hq₂, .of_steps (harr _ (hg _ _ h2)) harr₂⟩
          · obtain ⟨hj, hlt⟩ := z3 _ _ hz
            obtain ⟨e₂, a₂, w₂, hq₂, harr₂⟩ := ih _ hlt _ r3 a₁ w₁ h3 (.inr (.inr (.inr ⟨rfl, rfl, hj, rfl⟩)))
            exact ⟨e₂, a₂, w₂, hq₂, .of_steps (harr _ (hg _ _ h3)) harr₂⟩
        | ret => exact ⟨_, a₁, w₁, hq, harr⟩
        | panic ch => exact ⟨_, a₁, w₁, hq, harr⟩
        | outgrown => exact ⟨_, a₁, w₁, hq, harr⟩
      rcases hJ with ⟨rfl, rfl, hj, rfl⟩ | ⟨rfl, rfl, hj, rfl⟩ | ⟨rfl, rfl, hj, rfl⟩ | ⟨rfl, rfl, hj, rfl⟩
      · exact run _ _ _ _ (fun _ _ h => h) (fun _ _ h => h) (fun _ _ h => h) (fun _ _ h => h) (p0 a w hj)
      · exact run _ _ _ _ (fun _ _ h => h) (fun _ _ h => h) (fun _ _ h => h) (fun _ _ h => h) (p1 a w hj)
      · exact run _ _ _ _ (fun _ _ h => h) (fun _ _ h => h) (fun _ _ h => h) (fun _ _ h => h) (p2 a w hj)
      · exact run _ _ _ _ (fun _ _ h => h) (fun _ _ h => h) (fun _ _ h => h) (fun _ _ h => h) (p3 a w hj)
  obtain ⟨e, a₁, w₁, hq, harr⟩ := first b (.inScope c :: k) cs
  cases e with
  | normal => exact ⟨.normal, a₁, w₁, hq, .head step_scope (Steps.trans harr (.one step_inScope))⟩
  | exit id => exact ⟨.exit id, a₁, w₁, hq, fun k' hk => .head step_scope (harr k' (by simp [exitTo, hk]))⟩
  | goto l' =>
    have go : ∀ l r, findLabel c l = some r → ((l = l0 ∧ r = r0 ∧ J0 a₁ w₁) ∨ (l = l1 ∧ r = r1 ∧ J1 a₁ w₁) ∨ (l = l2 ∧ r = r2 ∧ J2 a₁ w₁) ∨ (l = l3 ∧ r = r3 ∧ J3 a₁ w₁)) → l' = l → ∃ e a' w', Q e a' w' ∧ Arrives P (lone (b.at a (.code (Code.scope c) :: k)) cs w) b k cs e a' w' := by
      rintro l r hl hJ rfl
      obtain ⟨n, hn⟩ : ∃ n, (l' = l0 ∧ r = r0 ∧ J0 a₁ w₁ ∧ m0 a₁ w₁ = n) ∨ (l' = l1 ∧ r = r1 ∧ J1 a₁ w₁ ∧ m1 a₁ w₁ = n) ∨ (l' = l2 ∧ r = r2 ∧ J2 a₁ w₁ ∧ m2 a₁ w₁ = n) ∨ (l' = l3 ∧ r = r3 ∧ J3 a₁ w₁ ∧ m3 a₁ w₁ = n) := by
        rcases hJ with ⟨x, y, z⟩ | ⟨x, y, z⟩ | ⟨x, y, z⟩ | ⟨x, y, z⟩
        · exact ⟨_, .inl ⟨x, y, z, rfl⟩⟩
        · exact ⟨_, .inr (.inl ⟨x, y, z, rfl⟩)⟩
        · exact ⟨_, .inr (.inr (.inl ⟨x, y, z, rfl⟩))⟩
        · exact ⟨_, .inr (.inr (.inr ⟨x, y, z, rfl⟩))⟩
      obtain ⟨e₂, a₂, w₂, hq₂, harr₂⟩ := key n l' r a₁ w₁ hl hn
      exact ⟨e₂, a₂, w₂, hq₂, .of_steps (.head step_scope (harr _ (hg _ _ hl))) harr₂⟩
    rcases hq with ⟨h, hz⟩ | ⟨h, hz⟩ | ⟨h, hz⟩ | ⟨h, hz⟩
    · exact go l0 r0 h0 (.inl ⟨rfl, rfl, hz⟩) h
    · exact go l1 r1 h1 (.inr (.inl ⟨rfl, rfl, hz⟩)) h
    · exact go l2 r2 h2 (.inr (.inr (.inl ⟨rfl, rfl, hz⟩))) h
    · exact go l3 r3 h3 (.inr (.inr (.inr ⟨rfl, rfl, hz⟩))) h
  | ret => exact ⟨_, a₁, w₁, hq, .of_steps (.one step_scope) harr⟩
  | panic ch => exact ⟨_, a₁, w₁, hq, .of_steps (.one step_scope) harr⟩
  | outgrown => exact ⟨_, a₁, w₁, hq, .of_steps (.one step_scope) harr⟩
theorem jump4_mono {l0 l1 l2 l3 : Nat} {Z0 Z1 Z2 Z3 J0 J1 J2 J3 : Act → World → Prop} {Q : Exit → Act → World → Prop} (z0 : ∀ a w, Z0 a w → J0 a w) (z1 : ∀ a w, Z1 a w → J1 a w) (z2 : ∀ a w, Z2 a w → J2 a w) (z3 : ∀ a w, Z3 a w → J3 a w) : ∀ e a w, jump4 l0 l1 l2 l3 Z0 Z1 Z2 Z3 Q e a w → jump4 l0 l1 l2 l3 J0 J1 J2 J3 Q e a w := by
  intro e a w h
  cases e with
  | goto l =>
    rcases h with ⟨e, h⟩ | ⟨e, h⟩ | ⟨e, h⟩ | ⟨e, h⟩
    · exact .inl ⟨e, z0 _ _ h⟩
    · exact .inr (.inl ⟨e, z1 _ _ h⟩)
    · exact .inr (.inr (.inl ⟨e, z2 _ _ h⟩))
    · exact .inr (.inr (.inr ⟨e, z3 _ _ h⟩))
  | normal => exact h
  | exit id => exact h
  | ret => exact h
  | panic ch => exact h
  | outgrown => exact h
theorem skip4 {P : Program} {a : Act} {w : World} {Q : Exit → Act → World → Prop} {y : Code} (h : y.wp P Q a w) : (Code.seq .skip y).wp P Q a w := wp_seq (wp_skip h)
theorem wp_scope4F {P : Program} {a : Act} {w : World} {Q : Exit → Act → World → Prop} {c y0 y1 y2 y3 : Code} (l0 l1 l2 l3 : Nat) (J0 J1 J2 J3 : Act → World → Prop) (m0 m1 m2 m3 : Act → World → Nat)
    (h0 : findLabel c l0 = some (.seq .skip y0)) (h1 : findLabel c l1 = some (.seq .skip y1)) (h2 : findLabel c l2 = some (.seq .skip y2)) (h3 : findLabel c l3 = some (.seq .skip y3))
    (p0 : ∀ a w, J0 a w → y0.wp P (jump4 l0 l1 l2 l3 (fun a' w' => J0 a' w' ∧ m0 a' w' < m0 a w) (fun a' w' => J1 a' w' ∧ m1 a' w' < m0 a w) (fun a' w' => J2 a' w' ∧ m2 a' w' < m0 a w) (fun a' w' => J3 a' w' ∧ m3 a' w' < m0 a w) Q) a w)
    (p1 : ∀ a w, J1 a w → y1.wp P (jump4 l0 l1 l2 l3 (fun a' w' => J0 a' w' ∧ m0 a' w' < m1 a w) (fun a' w' => J1 a' w' ∧ m1 a' w' < m1 a w) (fun a' w' => J2 a' w' ∧ m2 a' w' < m1 a w) (fun a' w' => J3 a' w' ∧ m3 a' w' < m1 a w) Q) a w)
    (p3 : ∀ a w, J3 a w → y3.wp P (jump4 l0 l1 l2 l3 (fun a' w' => J0 a' w' ∧ m0 a' w' < m3 a w) (fun a' w' => J1 a' w' ∧ m1 a' w' < m3 a w) (fun a' w' => J2 a' w' ∧ m2 a' w' < m3 a w) (fun a' w' => J3 a' w' ∧ m3 a' w' < m3 a w) Q) a w)
    (p2 : (∀ b a w, J3 a w → m3 a w < b → y3.wp P (jump4 l0 l1 l2 l3 (fun a' w' => J0 a' w' ∧ m0 a' w' < b) (fun a' w' => J1 a' w' ∧ m1 a' w' < b) (fun a' w' => J2 a' w' ∧ m2 a' w' < b) (fun a' w' => J3 a' w' ∧ m3 a' w' < b) Q) a w) →
      ∀ a w, J2 a w → y2.wp P (jump4 l0 l1 l2 l3 (fun a' w' => J0 a' w' ∧ m0 a' w' < m2 a w) (fun a' w' => J1 a' w' ∧ m1 a' w' < m2 a w) (fun a' w' => J2 a' w' ∧ m2 a' w' < m2 a w) (fun a' w' => J3 a' w' ∧ m3 a' w' < m2 a w) Q) a w)
    (first : (∀ a w, J0 a w → y0.wp P (jump4 l0 l1 l2 l3 J0 J1 J2 J3 Q) a w) → c.wp P (jump4 l0 l1 l2 l3 J0 J1 J2 J3 Q) a w) :
    (Code.scope c).wp P Q a w :=
  wp_scope4 l0 l1 l2 l3 J0 J1 J2 J3 m0 m1 m2 m3 h0 h1 h2 h3
    (first fun a w h => wp_mono (p0 a w h) (jump4_mono (fun _ _ h => h.1) (fun _ _ h => h.1) (fun _ _ h => h.1) (fun _ _ h => h.1)))
    (fun a w h => skip4 (p0 a w h)) (fun a w h => skip4 (p1 a w h))
    (fun a w h => skip4 (p2 (fun b a w h hb => wp_mono (p3 a w h) (jump4_mono (fun _ _ h => ⟨h.1, Nat.lt_trans h.2 hb⟩) (fun _ _ h => ⟨h.1, Nat.lt_trans h.2 hb⟩) (fun _ _ h => ⟨h.1, Nat.lt_trans h.2 hb⟩) (fun _ _ h => ⟨h.1, Nat.lt_trans h.2 hb⟩))) a w h))
    (fun a w h => skip4 (p3 a w h))
/-- The kinds of cells. -/
def kindsL : List S75 → Option (List Int)
  | [] => some []
  | c :: cs => (kind_Cell.f 16 c.f0 c.f1 c.f2 c.f3 c.f4).bind fun k => (kindsL cs).bind fun ks => some (k :: ks)
def wordyB (k : Int) : Bool := decide (k = 1 ∨ k = 2 ∨ k = 3)
/-- Behind which cell a word ends. -/
def wordE (K : List Int) : Nat → Nat → Nat
  | 0, i => i
  | f + 1, i => if wordyB (rd K i) = true then wordE K f (i + 1) else if rd K i = 4 ∧ wordyB (rd K ((i + 1 : Nat) : Int)) = true then wordE K f (i + 1) else i
/-- Behind which cell blanks end. -/
def blankE (K : List Int) : Nat → Nat → Nat
  | 0, i => i
  | f + 1, i => if rd K i = 5 then blankE K f (i + 1) else i
/-- The kind of the token at a cell, and the cell behind it. -/
def tokS (L : List S75) (K : List Int) (i : Nat) : Int × Nat :=
  if wordyB (rd K i) = true then (1, wordE K (L.length + 1) i)
  else if rd K i = 5 then (2, blankE K (L.length + 1) i)
  else if rd K i = 6 then (3, if (rd_T75 L i).f2 = 13 ∧ i + 1 < L.length ∧ (rd_T75 L ((i + 1 : Nat) : Int)).f2 = 10 then i + 2 else i + 1)
  else if rd K i = 7 ∨ rd K i = 4 then (4, i + 1) else (5, i + 1)
/-- Where a cell begins. -/
def cellAt (s : ByteArray) (L : List S75) (i : Nat) : Int := if i < L.length then (rd_T75 L i).f0 else (s.size : Int)
def tok1 (s : ByteArray) (base : Int) (L : List S75) (t : Int) (i n : Nat) : S51 := ⟨t, base + (rd_T75 L i).f0, s.extract (rd_T75 L i).f0.toNat (cellAt s L n).toNat⟩
def tokL (s : ByteArray) (base : Int) (L : List S75) (K : List Int) : Nat → Nat → List S51
  | 0, _ => []
  | f + 1, i => if i < L.length then tok1 s base L (tokS L K i).1 i (tokS L K i).2 :: tokL s base L K f (tokS L K i).2 else []
def scan_tokens.f (a0 : ByteArray) (a1 : Int) : Option (List S51) :=
  if a0.size ≤ 4294967296 ∧ 0 ≤ a1 ∧ a1 ≤ 4294967296 then (kindsL (gCells a0 a0.size 0)).bind fun K => some (tokL a0 a1 (gCells a0 a0.size 0) (K ++ [-1]) (gCells a0 a0.size 0).length 0) else none
theorem kindsL_get : ∀ (L : List S75) (K : List Int), kindsL L = some K → K.length = L.length ∧ ∀ (p : Nat) (h : p < L.length) (h2 : p < K.length), kind_Cell.f 16 L[p].f0 L[p].f1 L[p].f2 L[p].f3 L[p].f4 = some K[p]
  | [], K, h => by
    obtain rfl := Option.some.inj h
    exact ⟨rfl, fun p h => by cases h⟩
  | c :: cs, K, h => by
    obtain ⟨k, hk, h⟩ := Option.bind_eq_some_iff.mp h
    obtain ⟨ks, hks, h⟩ := Option.bind_eq_some_iff.mp h
    obtain rfl := Option.some.inj h
    obtain ⟨h1, h2⟩ := kindsL_get cs ks hks
    refine ⟨by rw [List.length_cons, List.length_cons, h1], fun p hp hp2 => ?_⟩
    cases p with
    | zero => exact hk
    | succ p => exact h2 p (by simpa using hp) (by simpa using hp2)
theorem wordy_eq (k : Int) : scan_wordy.f k = some (wordyB k) := by
  unfold scan_wordy.f wordyB
  by_cases h1 : k = 1
  · simp [h1]
  · by_cases h2 : k = 2
    · simp [h2]
    · simp [h1, h2]; rfl
theorem wordE_le (K : List Int) (n : Nat) (hK : ∀ i : Nat, n ≤ i → rd K i = -1 ∨ rd K i = 0) : ∀ f i, i ≤ n → i ≤ wordE K f i ∧ wordE K f i ≤ n
  | 0, i, h => ⟨Nat.le_refl _, h⟩
  | f + 1, i, h => by
    unfold wordE
    by_cases hi : i < n
    · split
      · have := wordE_le K n hK f (i + 1) hi; omega
      · split
        · have := wordE_le K n hK f (i + 1) hi; omega
        · omega
    · have e : rd K i = -1 ∨ rd K i = 0 := hK i (by omega)
      have hw : wordyB (rd K i) = false := by rcases e with e | e <;> (rw [e]; rfl)
      rw [if_neg (by rw [hw]; simp), if_neg (by rcases e with e | e <;> (rw [e]; simp))]
      omega
theorem blankE_le (K : List Int) (n : Nat) (hK : ∀ i : Nat, n ≤ i → rd K i = -1 ∨ rd K i = 0) : ∀ f i, i ≤ n → i ≤ blankE K f i ∧ blankE K f i ≤ n
  | 0, i, h => ⟨Nat.le_refl _, h⟩
  | f + 1, i, h => by
    unfold blankE
    by_cases hi : i < n
    · split
      · have := blankE_le K n hK f (i + 1) hi; omega
      · omega
    · have e : rd K i = -1 ∨ rd K i = 0 := hK i (by omega)
      rw [if_neg (by rcases e with e | e <;> (rw [e]; decide))]
      omega
theorem tokS_le (L : List S75) (K : List Int) (hK : ∀ i : Nat, L.length ≤ i → rd K i = -1 ∨ rd K i = 0) (i : Nat) (hi : i < L.length) : i < (tokS L K i).2 ∧ (tokS L K i).2 ≤ L.length := by
  unfold tokS
  split
  · rename_i h
    have := wordE_le K L.length hK L.length (i + 1) hi
    show i < wordE K (L.length + 1) i ∧ wordE K (L.length + 1) i ≤ L.length
    rw [wordE, if_pos h]
    omega
  · split
    · rename_i h
      have := blankE_le K L.length hK L.length (i + 1) hi
      show i < blankE K (L.length + 1) i ∧ blankE K (L.length + 1) i ≤ L.length
      rw [blankE, if_pos h]
      omega
    · split
      · dsimp only
        by_cases hc : (rd_T75 L i).f2 = 13 ∧ i + 1 < L.length ∧ (rd_T75 L ((i + 1 : Nat) : Int)).f2 = 10
        · rw [if_pos hc]
          have := hc.2.1
          exact ⟨by omega, by omega⟩
        · rw [if_neg hc]
          exact ⟨by omega, by omega⟩
      · split
        · exact ⟨Nat.lt_succ_self i, hi⟩
        · exact ⟨Nat.lt_succ_self i, hi⟩
theorem cells_in (s : ByteArray) : ∀ f q, q ≤ s.size → ∀ (p : Nat) (h : p < (gCells s f q).length), (q : Int) ≤ ((gCells s f q)[p]).f0 ∧ ((gCells s f q)[p]).f0 < (s.size : Int)
  | 0, q, _, p, h => by cases h
  | f + 1, q, hq, p, h => by
    by_cases hlt : q < s.size
    · have e := gCells_step s f q hlt
      have hw1 := Utf.width_pos s q hlt
      have hw2 := Utf.width_le s q hlt
      simp only [e] at h ⊢
      cases p with
      | zero => exact ⟨Int.le_refl _, Int.ofNat_lt.2 hlt⟩
      | succ p =>
        have := cells_in s f (q + (Utf8.decode s q).2) hw2 p (by simpa using h)
        simp only [List.getElem_cons_succ]
        omega
    · simp only [gCells_end s (f + 1) q hlt] at h
      cases h
theorem cells_inc (s : ByteArray) : ∀ f q, q ≤ s.size → ∀ (i j : Nat) (hi : i < (gCells s f q).length) (hj : j < (gCells s f q).length), i < j → ((gCells s f q)[i]).f0 < ((gCells s f q)[j]).f0
  | 0, q, _, i, j, hi, _, _ => by cases hi
  | f + 1, q, hq, i, j, hi, hj, hij => by
    by_cases hlt : q < s.size
    · have e := gCells_step s f q hlt
      have hw1 := Utf.width_pos s q hlt
      have hw2 := Utf.width_le s q hlt
      simp only [e] at hi hj ⊢
      obtain ⟨j, rfl⟩ : ∃ m, j = m + 1 := ⟨j - 1, by omega⟩
      cases i with
      | zero =>
        have := (cells_in s f (q + (Utf8.decode s q).2) hw2 j (by simpa using hj)).1
        simp only [List.getElem_cons_succ, List.getElem_cons_zero]
        show ((q : Nat) : Int) < _
        omega
      | succ i =>
        have := cells_inc s f (q + (Utf8.decode s q).2) hw2 i j (by simpa using hi) (by simpa using hj) (by omega)
        simpa using this
    · simp only [gCells_end s (f + 1) q hlt] at hi
      cases hi
theorem getCell (l : List S75) (i : Nat) (h : i < l.length) : rd_T75 l (i : Int) = l[i] := by
  unfold rd_T75
  rw [Int.toNat_natCast, List.getD_eq_getElem?_getD, List.getElem?_eq_getElem h]
  rfl
theorem tkw (x : Int) (h : -9223372036854775808 ≤ x) (h2 : x < 9223372036854775808) : wrap64 x = x := by
  unfold wrap64
  omega
theorem infoTok : (Tryd.prog.info? 51).map (fun i => (i.zero, i.size, i.bytes)) = some (some (.agg #[(.int .i64 0), (.int .i64 0), (.string ⟨#[]⟩)]), 3, 32) := by kernel_rfl
theorem infoIntT : (Tryd.prog.info? 3).map (fun i => (i.zero, i.size, i.bytes)) = some (some (.int .i64 0), 1, 8) := by kernel_rfl
theorem rd_get (l : List Int) (i : Nat) (h : i < l.length) : rd l (i : Int) = l[i] := by
  unfold rd
  rw [Int.toNat_natCast, List.getD_eq_getElem?_getD, List.getElem?_eq_getElem h]
  rfl
theorem rd_out (l : List Int) (i : Nat) (h : l.length ≤ i) : rd l (i : Int) = 0 := by
  unfold rd
  rw [Int.toNat_natCast, List.getD_eq_getElem?_getD, List.getElem?_eq_none h]
  rfl
theorem kinds_end (K : List Int) (n : Nat) (hn : K.length = n) : ∀ i : Nat, n ≤ i → rd (K ++ [-1]) i = -1 ∨ rd (K ++ [-1]) i = 0 := by
  intro i hi
  by_cases h : i = n
  · subst h
    left
    rw [rd_get _ i (by rw [List.length_append, hn]; exact Nat.lt_succ_self _), List.getElem_append_right (by omega)]
    simp [hn]
  · right
    exact rd_out _ i (by rw [List.length_append, hn]; simp; omega)
theorem gCells_len (s : ByteArray) : ∀ f q, (gCells s f q).length ≤ f
  | 0, q => Nat.le_refl _
  | f + 1, q => by
    unfold gCells
    split
    · rw [List.length_cons]
      exact Nat.succ_le_succ (gCells_len s f _)
    · exact Nat.zero_le _
def kT (K T : List Int) (i : Nat) : Prop := T.length = K.length + 1 ∧ ∀ p : Nat, p < i → rd T p = rd K p
theorem kT_zero (K : List Int) : kT K (List.replicate (K.length + 1) 0) 0 := ⟨List.length_replicate, fun p h => by omega⟩
theorem srd_same (l : List Int) (p : Nat) (h : p < l.length) (v : Int) : rd (l.set p v) (p : Int) = v := by
  rw [rd_get _ p (by rw [List.length_set]; exact h), List.getElem_set_self]
theorem srd_ne (l : List Int) (p q : Nat) (h : p ≠ q) (v : Int) : rd (l.set p v) (q : Int) = rd l (q : Int) := by
  unfold rd
  rw [Int.toNat_natCast, List.getD_eq_getElem?_getD, List.getElem?_set, if_neg h, List.getD_eq_getElem?_getD]
theorem kT_set {K T : List Int} {i : Nat} (h : kT K T i) (hi : i < K.length) (v : Int) (hv : v = rd K i) : kT K (T.set i v) (i + 1) := by
  obtain ⟨h1, h2⟩ := h
  refine ⟨by rw [List.length_set, h1], fun p hp => ?_⟩
  by_cases e : p = i
  · subst e
    rw [srd_same _ _ (by omega), hv]
  · rw [srd_ne _ _ _ (fun e1 => e e1.symm)]
    exact h2 p (by omega)
theorem kT_end {K T : List Int} (h : kT K T K.length) : T.set K.length (-1) = K ++ [-1] := by
  obtain ⟨h1, h2⟩ := h
  apply List.ext_getElem
  · rw [List.length_set, h1, List.length_append]; rfl
  · intro p hp hq
    rw [List.length_set] at hp
    by_cases e : p = K.length
    · subst e
      rw [List.getElem_set_self, List.getElem_append_right (Nat.le_refl _)]
      simp
    · have hp2 : p < K.length := by omega
      have := h2 p hp2
      rw [rd_get T p hp, rd_get K p hp2] at this
      rw [List.getElem_set_ne (fun e1 => e e1.symm), this, List.getElem_append_left hp2]
theorem tokL_end (s : ByteArray) (base : Int) (L : List S75) (K : List Int) (f i : Nat) (h : ¬ i < L.length) : tokL s base L K f i = [] := by
  cases f with
  | zero => rfl
  | succ f => rw [tokL, if_neg h]
theorem tokL_step (s : ByteArray) (base : Int) (L : List S75) (K : List Int) (f i : Nat) (h : i < L.length) (t : Int) (n : Nat) (ht : tokS L K i = (t, n)) : tokL s base L K (f + 1) i = tok1 s base L t i n :: tokL s base L K f n := by
  rw [tokL, if_pos h, ht]
theorem tokS_word (L : List S75) (K : List Int) (i : Nat) (h : wordyB (rd K i) = true) : tokS L K i = (1, wordE K (L.length + 1) i) := by
  unfold tokS
  rw [if_pos h]
theorem tokS_blank (L : List S75) (K : List Int) (i : Nat) (h : rd K i = 5) : tokS L K i = (2, blankE K (L.length + 1) i) := by
  unfold tokS
  rw [if_neg (by rw [h]; decide), if_pos h]
theorem tokS_line2 (L : List S75) (K : List Int) (i : Nat) (h : rd K i = 6) (h2 : (rd_T75 L i).f2 = 13 ∧ i + 1 < L.length ∧ (rd_T75 L ((i + 1 : Nat) : Int)).f2 = 10) : tokS L K i = (3, i + 2) := by
  unfold tokS
  rw [if_neg (by rw [h]; decide), if_neg (by rw [h]; decide), if_pos h, if_pos h2]
theorem tokS_line1 (L : List S75) (K : List Int) (i : Nat) (h : rd K i = 6) (h2 : ¬ ((rd_T75 L i).f2 = 13 ∧ i + 1 < L.length ∧ (rd_T75 L ((i + 1 : Nat) : Int)).f2 = 10)) : tokS L K i = (3, i + 1) := by
  unfold tokS
  rw [if_neg (by rw [h]; decide), if_neg (by rw [h]; decide), if_pos h, if_neg h2]
theorem tokS_point (L : List S75) (K : List Int) (i : Nat) (h : rd K i = 7 ∨ rd K i = 4) : tokS L K i = (4, i + 1) := by
  unfold tokS
  rw [if_neg (by rcases h with h | h <;> (rw [h]; decide)), if_neg (by rcases h with h | h <;> (rw [h]; decide)), if_neg (by rcases h with h | h <;> (rw [h]; decide)), if_pos h]
theorem tokS_other (L : List S75) (K : List Int) (i : Nat) (h : ¬ wordyB (rd K i) = true) (h5 : ¬ rd K i = 5) (h6 : ¬ rd K i = 6) (h7 : ¬ (rd K i = 7 ∨ rd K i = 4)) : tokS L K i = (5, i + 1) := by
  unfold tokS
  rw [if_neg h, if_neg h5, if_neg h6, if_neg h7]
set_option maxRecDepth 100000 in
/-- The frame of scan.tokens at a label: what its row of facts F says of the slots that count. -/
def scanJ (a0 : ByteArray) (a1 : Int) (F : Value → Value → Value → Value → Value → Value → World → Prop) (a : Act) (w : World) : Prop :=
  ∃ (v5 v6 v9 v10 v11 v12 : Value) (U : Nat → Value), a = ⟨(((.string a0 : Value) :: (.int .i64 a1 : Value) :: U 2 :: U 3 :: (.slice none 0 0 : Value) :: v5 :: v6 :: U 7 :: U 8 :: v9 :: v10 :: v11 :: v12 :: U 13 :: U 14 :: U 15 :: U 16 :: U 17 :: U 18 :: U 19 :: U 20 :: U 21 :: U 22 :: U 23 :: U 24 :: U 25 :: U 26 :: U 27 :: U 28 :: U 29 :: U 30 :: U 31 :: U 32 :: U 33 :: U 34 :: U 35 :: U 36 :: U 37 :: U 38 :: U 39 :: U 40 :: U 41 :: U 42 :: U 43 :: U 44 :: U 45 :: U 46 :: U 47 :: U 48 :: U 49 :: U 50 :: U 51 :: U 52 :: U 53 :: U 54 :: U 55 :: U 56 :: U 57 :: U 58 :: U 59 :: U 60 :: U 61 :: U 62 :: U 63 :: U 64 :: U 65 :: U 66 :: U 67 :: U 68 :: U 69 :: U 70 :: U 71 :: U 72 :: U 73 :: U 74 :: U 75 :: U 76 :: U 77 :: U 78 :: U 79 :: U 80 :: U 81 :: U 82 :: U 83 :: U 84 :: U 85 :: U 86 :: U 87 :: U 88 :: U 89 :: U 90 :: U 91 :: U 92 :: U 93 :: U 94 :: U 95 :: U 96 :: U 97 :: U 98 :: U 99 :: U 100 :: U 101 :: U 102 :: U 103 :: U 104 :: U 105 :: U 106 :: U 107 :: U 108 :: U 109 :: U 110 :: U 111 :: U 112 :: U 113 :: U 114 :: U 115 :: U 116 :: U 117 :: U 118 :: U 119 :: U 120 :: U 121 :: U 122 :: U 123 :: U 124 :: U 125 :: U 126 :: U 127 :: U 128 :: U 129 :: U 130 :: U 131 :: U 132 :: U 133 :: U 134 :: U 135 :: U 136 :: U 137 :: U 138 :: U 139 :: U 140 :: U 141 :: U 142 :: U 143 :: U 144 :: U 145 :: U 146 :: U 147 :: U 148 :: U 149 :: U 150 :: U 151 :: U 152 :: U 153 :: U 154 :: U 155 :: []).toArray), []⟩ ∧ F v5 v6 v9 v10 v11 v12 w
set_option maxRecDepth 100000 in
theorem scanJ_elim {a0 : ByteArray} {a1 : Int} {F : Value → Value → Value → Value → Value → Value → World → Prop} {C : Act → World → Prop} (k : ∀ (w : World) (v5 v6 v9 v10 v11 v12 : Value) (U : Nat → Value), F v5 v6 v9 v10 v11 v12 w → C ⟨(((.string a0 : Value) :: (.int .i64 a1 : Value) :: U 2 :: U 3 :: (.slice none 0 0 : Value) :: v5 :: v6 :: U 7 :: U 8 :: v9 :: v10 :: v11 :: v12 :: U 13 :: U 14 :: U 15 :: U 16 :: U 17 :: U 18 :: U 19 :: U 20 :: U 21 :: U 22 :: U 23 :: U 24 :: U 25 :: U 26 :: U 27 :: U 28 :: U 29 :: U 30 :: U 31 :: U 32 :: U 33 :: U 34 :: U 35 :: U 36 :: U 37 :: U 38 :: U 39 :: U 40 :: U 41 :: U 42 :: U 43 :: U 44 :: U 45 :: U 46 :: U 47 :: U 48 :: U 49 :: U 50 :: U 51 :: U 52 :: U 53 :: U 54 :: U 55 :: U 56 :: U 57 :: U 58 :: U 59 :: U 60 :: U 61 :: U 62 :: U 63 :: U 64 :: U 65 :: U 66 :: U 67 :: U 68 :: U 69 :: U 70 :: U 71 :: U 72 :: U 73 :: U 74 :: U 75 :: U 76 :: U 77 :: U 78 :: U 79 :: U 80 :: U 81 :: U 82 :: U 83 :: U 84 :: U 85 :: U 86 :: U 87 :: U 88 :: U 89 :: U 90 :: U 91 :: U 92 :: U 93 :: U 94 :: U 95 :: U 96 :: U 97 :: U 98 :: U 99 :: U 100 :: U 101 :: U 102 :: U 103 :: U 104 :: U 105 :: U 106 :: U 107 :: U 108 :: U 109 :: U 110 :: U 111 :: U 112 :: U 113 :: U 114 :: U 115 :: U 116 :: U 117 :: U 118 :: U 119 :: U 120 :: U 121 :: U 122 :: U 123 :: U 124 :: U 125 :: U 126 :: U 127 :: U 128 :: U 129 :: U 130 :: U 131 :: U 132 :: U 133 :: U 134 :: U 135 :: U 136 :: U 137 :: U 138 :: U 139 :: U 140 :: U 141 :: U 142 :: U 143 :: U 144 :: U 145 :: U 146 :: U 147 :: U 148 :: U 149 :: U 150 :: U 151 :: U 152 :: U 153 :: U 154 :: U 155 :: []).toArray), []⟩ w) : ∀ a w, scanJ a0 a1 F a w → C a w := by
  rintro a w ⟨v5, v6, v9, v10, v11, v12, U, rfl, h⟩
  exact k w v5 v6 v9 v10 v11 v12 U h
set_option maxRecDepth 100000 in
theorem scanJ_mk {a0 : ByteArray} {a1 : Int} {F : Value → Value → Value → Value → Value → Value → World → Prop} {w : World} {v5 v6 v9 v10 v11 v12 : Value} {u2 u3 u7 u8 u13 u14 u15 u16 u17 u18 u19 u20 u21 u22 u23 u24 u25 u26 u27 u28 u29 u30 u31 u32 u33 u34 u35 u36 u37 u38 u39 u40 u41 u42 u43 u44 u45 u46 u47 u48 u49 u50 u51 u52 u53 u54 u55 u56 u57 u58 u59 u60 u61 u62 u63 u64 u65 u66 u67 u68 u69 u70 u71 u72 u73 u74 u75 u76 u77 u78 u79 u80 u81 u82 u83 u84 u85 u86 u87 u88 u89 u90 u91 u92 u93 u94 u95 u96 u97 u98 u99 u100 u101 u102 u103 u104 u105 u106 u107 u108 u109 u110 u111 u112 u113 u114 u115 u116 u117 u118 u119 u120 u121 u122 u123 u124 u125 u126 u127 u128 u129 u130 u131 u132 u133 u134 u135 u136 u137 u138 u139 u140 u141 u142 u143 u144 u145 u146 u147 u148 u149 u150 u151 u152 u153 u154 u155 : Value} (h : F v5 v6 v9 v10 v11 v12 w) : scanJ a0 a1 F ⟨(((.string a0 : Value) :: (.int .i64 a1 : Value) :: u2 :: u3 :: (.slice none 0 0 : Value) :: v5 :: v6 :: u7 :: u8 :: v9 :: v10 :: v11 :: v12 :: u13 :: u14 :: u15 :: u16 :: u17 :: u18 :: u19 :: u20 :: u21 :: u22 :: u23 :: u24 :: u25 :: u26 :: u27 :: u28 :: u29 :: u30 :: u31 :: u32 :: u33 :: u34 :: u35 :: u36 :: u37 :: u38 :: u39 :: u40 :: u41 :: u42 :: u43 :: u44 :: u45 :: u46 :: u47 :: u48 :: u49 :: u50 :: u51 :: u52 :: u53 :: u54 :: u55 :: u56 :: u57 :: u58 :: u59 :: u60 :: u61 :: u62 :: u63 :: u64 :: u65 :: u66 :: u67 :: u68 :: u69 :: u70 :: u71 :: u72 :: u73 :: u74 :: u75 :: u76 :: u77 :: u78 :: u79 :: u80 :: u81 :: u82 :: u83 :: u84 :: u85 :: u86 :: u87 :: u88 :: u89 :: u90 :: u91 :: u92 :: u93 :: u94 :: u95 :: u96 :: u97 :: u98 :: u99 :: u100 :: u101 :: u102 :: u103 :: u104 :: u105 :: u106 :: u107 :: u108 :: u109 :: u110 :: u111 :: u112 :: u113 :: u114 :: u115 :: u116 :: u117 :: u118 :: u119 :: u120 :: u121 :: u122 :: u123 :: u124 :: u125 :: u126 :: u127 :: u128 :: u129 :: u130 :: u131 :: u132 :: u133 :: u134 :: u135 :: u136 :: u137 :: u138 :: u139 :: u140 :: u141 :: u142 :: u143 :: u144 :: u145 :: u146 :: u147 :: u148 :: u149 :: u150 :: u151 :: u152 :: u153 :: u154 :: u155 :: []).toArray), []⟩ w := ⟨v5, v6, v9, v10, v11, v12, fun k => List.getD ((.string a0 : Value) :: (.int .i64 a1 : Value) :: u2 :: u3 :: (.slice none 0 0 : Value) :: v5 :: v6 :: u7 :: u8 :: v9 :: v10 :: v11 :: v12 :: u13 :: u14 :: u15 :: u16 :: u17 :: u18 :: u19 :: u20 :: u21 :: u22 :: u23 :: u24 :: u25 :: u26 :: u27 :: u28 :: u29 :: u30 :: u31 :: u32 :: u33 :: u34 :: u35 :: u36 :: u37 :: u38 :: u39 :: u40 :: u41 :: u42 :: u43 :: u44 :: u45 :: u46 :: u47 :: u48 :: u49 :: u50 :: u51 :: u52 :: u53 :: u54 :: u55 :: u56 :: u57 :: u58 :: u59 :: u60 :: u61 :: u62 :: u63 :: u64 :: u65 :: u66 :: u67 :: u68 :: u69 :: u70 :: u71 :: u72 :: u73 :: u74 :: u75 :: u76 :: u77 :: u78 :: u79 :: u80 :: u81 :: u82 :: u83 :: u84 :: u85 :: u86 :: u87 :: u88 :: u89 :: u90 :: u91 :: u92 :: u93 :: u94 :: u95 :: u96 :: u97 :: u98 :: u99 :: u100 :: u101 :: u102 :: u103 :: u104 :: u105 :: u106 :: u107 :: u108 :: u109 :: u110 :: u111 :: u112 :: u113 :: u114 :: u115 :: u116 :: u117 :: u118 :: u119 :: u120 :: u121 :: u122 :: u123 :: u124 :: u125 :: u126 :: u127 :: u128 :: u129 :: u130 :: u131 :: u132 :: u133 :: u134 :: u135 :: u136 :: u137 :: u138 :: u139 :: u140 :: u141 :: u142 :: u143 :: u144 :: u145 :: u146 :: u147 :: u148 :: u149 :: u150 :: u151 :: u152 :: u153 :: u154 :: u155 :: []) k undef, rfl, h⟩
set_option maxHeartbeats 8000000 in
set_option maxRecDepth 100000 in
theorem scan_tokens.calls (a0 : ByteArray) (a1 : Int) (r : List S51) (w : World) (hT : Lib.Utf8Tabs 0 1 w) (h : scan_tokens.f a0 a1 = some r) :
    Calls Tryd.prog 40 #[.string a0, .int .i64 a1] w fun e w' => ∃ v0_ : Value, e = .returned (v0_) ∧ Kd.R k51 51 w' w.heap.size (fun _ => True) v0_ r ∧ Below w.heap.size w w' := by
  unfold scan_tokens.f at h
  by_cases hs : a0.size ≤ 4294967296 ∧ 0 ≤ a1 ∧ a1 ≤ 4294967296
  · rw [if_pos hs] at h
    obtain ⟨K, hK, h⟩ := Option.bind_eq_some_iff.mp h
    obtain ⟨L, hL⟩ : ∃ L, gCells a0 a0.size 0 = L := ⟨_, rfl⟩
    rw [hL] at hK h
    obtain ⟨KK, hKK⟩ : ∃ KK : List Int, K ++ [-1] = KK := ⟨_, rfl⟩
    rw [hKK] at h
    have HKE : Aside0 (∀ i : Nat, L.length ≤ i → rd KK i = -1 ∨ rd KK i = 0) := ⟨by rw [← hKK]; exact kinds_end K L.length (kindsL_get L K hK).1⟩
    have HKL : Aside0 (KK.length = L.length + 1) := ⟨by rw [← hKK, List.length_append, (kindsL_get L K hK).1]; rfl⟩
    have NKK := Aside0.mk hKK
    clear hKK
    have HRES := Aside0.mk (Option.some.inj h)
    have HGC : Aside0 (glyph_Cells.f a0 = some L) := ⟨by unfold glyph_Cells.f; rw [if_pos hs.1, hL]⟩
    have HLs : Aside0 (L.length ≤ 4294967296) := ⟨by rw [← hL]; exact Nat.le_trans (gCells_len a0 a0.size 0) hs.1⟩
    have HIN : Aside0 (∀ (p : Nat) (h : p < L.length), 0 ≤ L[p].f0 ∧ L[p].f0 < (a0.size : Int)) := ⟨by subst hL; exact fun p h => cells_in a0 a0.size 0 (Nat.zero_le _) p h⟩
    have HINC : Aside0 (∀ (i j : Nat) (hi : i < L.length) (hj : j < L.length), i < j → L[i].f0 < L[j].f0) := ⟨by subst hL; exact fun i j hi hj => cells_inc a0 a0.size 0 (Nat.zero_le _) i j hi hj⟩
    have HKG := Aside0.mk (kindsL_get L K hK)
    have HSZ := Aside0.mk hs.1
    have HA0 := Aside0.mk hs.2
    have HT := Aside0.mk hT
    have HB := Aside0.mk (Below.refl w.heap.size w)
    obtain ⟨S, hS⟩ : ∃ S : Int, wrap64 ((L.length : Int) + 1) = S := ⟨_, rfl⟩
    have hSw : IntKind.i64.wrap ((L.length : Int) + 1) = S := (i64_w _).trans hS
    have ES : Aside0 (S = ((L.length + 1 : Nat) : Int)) := ⟨by have := HLs.out; rw [← hS, tkw _ (by omega) (by omega)]; rfl⟩
    have HS0 : Aside0 (0 ≤ S) := ⟨by rw [ES.out]; omega⟩
    have HS1 : Aside0 (S.toNat ≤ 35184372088832) := ⟨by have := HLs.out; rw [ES.out, Int.toNat_natCast]; omega⟩
    obtain ⟨T0, hT0⟩ : ∃ T : List Int, T = List.replicate S.toNat 0 := ⟨_, rfl⟩
    have NT0 := Aside0.mk hT0
    have LT0 : Aside0 (T0.length = L.length + 1) := ⟨by rw [hT0, List.length_replicate, ES.out, Int.toNat_natCast]⟩
    have HTb : Aside0 (kT K T0 0) := ⟨by rw [hT0, ES.out, Int.toNat_natCast, ← HKG.out.1]; exact kT_zero K⟩
    clear hT0 h hs hT hK hL
    go_enter Tryd.func40, Tryd.ntmps40
    go_wp2
    refine wp_scope4F (y0 := ?r0) (y1 := ?r1) (y2 := ?r2) (y3 := ?r3) 0 1 2 3 (scanJ a0 a1 (fun v5 v6 v9 v10 v11 v12 w' => ∃ (i f : Nat) (I : Int) (acc : List S51), v10 = .int .i64 I ∧ Aside0 (I = (i : Int)) ∧ Aside0 (i ≤ L.length) ∧ Aside0 (L.length ≤ i + f) ∧ Aside0 (acc.length ≤ i) ∧ Aside0 (acc ++ tokL a0 a1 L KK f i = r) ∧ Aside0 (Kd.R k75 75 w' w.heap.size (fun _ => True) v5 L) ∧ Aside0 (Kd.R (Kd.int .i64) 3 w' w.heap.size (fun _ => True) v6 KK) ∧ Aside0 (Kd.R k51 51 w' w.heap.size (fun _ => True) v9 acc) ∧ Aside0 (Below w.heap.size w w'))) (scanJ a0 a1 (fun v5 v6 v9 v10 v11 v12 w' => ∃ (i j f g e : Nat) (I J : Int) (acc : List S51), v10 = .int .i64 I ∧ v11 = .int .i64 J ∧ v12 = .int .i64 1 ∧ Aside0 (I = (i : Int)) ∧ Aside0 (J = (j : Int)) ∧ Aside0 (i < L.length ∧ j ≤ i) ∧ Aside0 (wordyB (rd KK i) = true) ∧ Aside0 (wordE KK g i = e ∧ L.length + 1 ≤ i + g) ∧ Aside0 (L.length ≤ j + 1 + f) ∧ Aside0 (acc.length ≤ j) ∧ Aside0 (acc ++ tok1 a0 a1 L 1 j e :: tokL a0 a1 L KK f e = r) ∧ Aside0 (Kd.R k75 75 w' w.heap.size (fun _ => True) v5 L) ∧ Aside0 (Kd.R (Kd.int .i64) 3 w' w.heap.size (fun _ => True) v6 KK) ∧ Aside0 (Kd.R k51 51 w' w.heap.size (fun _ => True) v9 acc) ∧ Aside0 (Below w.heap.size w w'))) (scanJ a0 a1 (fun v5 v6 v9 v10 v11 v12 w' => ∃ (i j f g e : Nat) (I J : Int) (acc : List S51), v10 = .int .i64 I ∧ v11 = .int .i64 J ∧ v12 = .int .i64 2 ∧ Aside0 (I = (i : Int)) ∧ Aside0 (J = (j : Int)) ∧ Aside0 (i < L.length ∧ j ≤ i) ∧ Aside0 (rd KK i = 5) ∧ Aside0 (blankE KK g i = e ∧ L.length + 1 ≤ i + g) ∧ Aside0 (L.length ≤ j + 1 + f) ∧ Aside0 (acc.length ≤ j) ∧ Aside0 (acc ++ tok1 a0 a1 L 2 j e :: tokL a0 a1 L KK f e = r) ∧ Aside0 (Kd.R k75 75 w' w.heap.size (fun _ => True) v5 L) ∧ Aside0 (Kd.R (Kd.int .i64) 3 w' w.heap.size (fun _ => True) v6 KK) ∧ Aside0 (Kd.R k51 51 w' w.heap.size (fun _ => True) v9 acc) ∧ Aside0 (Below w.heap.size w w'))) (scanJ a0 a1 (fun v5 v6 v9 v10 v11 v12 w' => ∃ (e j f : Nat) (E J t : Int) (acc : List S51), v10 = .int .i64 E ∧ v11 = .int .i64 J ∧ v12 = .int .i64 t ∧ Aside0 (E = (e : Int)) ∧ Aside0 (J = (j : Int)) ∧ Aside0 (j < e ∧ e ≤ L.length) ∧ Aside0 (L.length ≤ j + 1 + f) ∧ Aside0 (acc.length ≤ j) ∧ Aside0 (acc ++ tok1 a0 a1 L t j e :: tokL a0 a1 L KK f e = r) ∧ Aside0 (Kd.R k75 75 w' w.heap.size (fun _ => True) v5 L) ∧ Aside0 (Kd.R (Kd.int .i64) 3 w' w.heap.size (fun _ => True) v6 KK) ∧ Aside0 (Kd.R k51 51 w' w.heap.size (fun _ => True) v9 acc) ∧ Aside0 (Below w.heap.size w w'))) (fun a' _ => 4 * (L.length - (intOf (a'.tmps.getD 10 undef)).toNat) + 3) (fun a' _ => 4 * (L.length - (intOf (a'.tmps.getD 10 undef)).toNat) + 2) (fun a' _ => 4 * (L.length - (intOf (a'.tmps.getD 10 undef)).toNat) + 2) (fun a' _ => 4 * (L.length - (intOf (a'.tmps.getD 10 undef)).toNat) + 4) ?h0 ?h1 ?h2 ?h3 ?p0 ?p1 ?p3 ?p2 ?first
    case h0 => rfl
    case h1 => rfl
    case h2 => rfl
    case h3 => rfl
    case first =>
      intro fall
      go_wp2_with (first | ((with_reducible refine gate_callee (f := 48) rfl ?_); refine goesL_ (some 16) rfl rfl Tryd.func48 (by kernel_rfl) rfl #[.string a0] rfl (by (try simp only [List.map_toArray, List.map_cons, List.map_nil]); first | done | rfl) ?_; (with_reducible refine (glyph_Cells.calls a0 L _ ?side1 HGC.out).mono ?_); (case side1 => exact Utf.tabs_step HT.out (by repeat (first | (with_reducible first | exact HB.out | apply below_alloc | apply pw_below_drewN | apply below_drew1) | exact HB.out))); rintro e w3 ⟨v5, rfl, ho0, hb⟩; refine ⟨_, rfl, ?_⟩; have n0_ := Aside0.mk (Kd.R_lower ho0 (below_size (by repeat (first | (with_reducible first | exact HB.out | apply below_alloc | apply pw_below_drewN | apply below_drew1) | exact HB.out)))); have n1_ := Aside0.mk (below_step (by repeat (first | (with_reducible first | exact HB.out | apply below_alloc | apply pw_below_drewN | apply below_drew1) | exact HB.out)) hb); clear HB; have HC := n0_; have HB := n1_; clear n0_ n1_; (try clear hb); (try clear ho0); obtain ⟨A5, c5, e5⟩ := Kd.R_slice HC.out; subst e5) | ((with_reducible refine gate_dst (N := 20) rfl ?_); refine Kd.R_make (Kd.int .i64) _ 3 rfl (N := 20) rfl 68 _ _ rfl S rfl rfl Tryd.underlying68 (.int .i64 0) 8 infoIntT rfl (by decide) (by omega) 0 (ok := fun _ => True) (okp := fun _ => True) rfl (fun _ hk => hk) trivial HS0.out (Nat.le_trans (Nat.mul_le_mul_right _ HS1.out) (by omega)) (Below.refl _ _) (Nat.le_refl _) ?_; intro v6 w11 ho12 hb hg_ hnew_; clear hg_ hnew_; rw [← NT0.out] at ho12; have n0_ := Aside0.mk (Kd.R_below (by (with_reducible repeat (first | apply Kd.R_alloc | apply Kd.R_drewN | apply Kd.R_drew)); exact HC.out) hb); have n2_ := Aside0.mk (Kd.R_lower ho12 (below_size (by repeat (first | (with_reducible first | exact HB.out | apply below_alloc | apply pw_below_drewN | apply below_drew1) | exact HB.out)))); have n3_ := Aside0.mk (below_step (by repeat (first | (with_reducible first | exact HB.out | apply below_alloc | apply pw_below_drewN | apply below_drew1) | exact HB.out)) hb); clear HC HB; have HC := n0_; have HKK := n2_; have HB := n3_; clear n0_ n2_ n3_ hb ho12; obtain ⟨A6, c6, e6⟩ := Kd.R_slice HKK.out; subst e6))
      clear hS hSw HS0 HS1
      go_loopw [23] (fun v23 wr => ∃ (i : Nat) (I : Int) (T : List Int), v23 = .int .i64 I ∧ Aside0 (I = (i : Int)) ∧ Aside0 (i ≤ L.length) ∧ Aside0 (kT K T i) ∧ Aside0 (Kd.R k75 75 wr w.heap.size (fun _ => True) (.slice A5 L.length c5) L) ∧ Aside0 (Kd.R (Kd.int .i64) 3 wr w.heap.size (fun _ => True) (.slice A6 T0.length c6) T) ∧ Aside0 (Below w.heap.size w wr)) (fun v23 _ => L.length - (intOf v23).toNat)
      case atStart => exact ⟨0, 0, T0, rfl, ⟨rfl⟩, ⟨Nat.zero_le _⟩, HTb, HC, HKK, HB⟩
      case round =>
        clear HTb HC HKK HB
        obtain ⟨i, I, T, rfl, EI, Hi, HTb, HC, HKK, HB⟩ := hrel
        by_cases hi : i < L.length
        · have c1 : decide (I < (L.length : Int)) = true := decide_eq_true (by rw [EI.out]; exact Int.ofNat_lt.2 hi)
          have i0 : 0 ≤ I := by rw [EI.out]; exact Int.natCast_nonneg i
          have i1 : I < (L.length : Int) := by rw [EI.out]; exact Int.ofNat_lt.2 hi
          have hkl := HKG.out.1
          have hik : i < K.length := by rw [hkl]; exact hi
          obtain ⟨⟨q0, q1, q2, q3, q4⟩, hQ⟩ : ∃ C, rd_T75 L I = C := ⟨_, rfl⟩
          obtain ⟨V, hV⟩ : ∃ V, rd K (i : Int) = V := ⟨_, rfl⟩
          have HV := Aside0.mk hV
          have HKC : Aside0 (kind_Cell.f 16 q0 q1 q2 q3 q4 = some V) := ⟨by have e := HKG.out.2 i hi hik; have hQ2 := hQ; rw [EI.out, getCell L i hi] at hQ2; rw [hQ2] at e; rw [e, ← hV, rd_get K i hik]⟩
          obtain ⟨ad, e, x0, x1, x2, x3, x4⟩ := at_T75 (Kd.R_reads' HC.out).2.2 I i0 i1
          cases e
          rw [hQ] at x0 x1 x2 x3 x4
          dsimp only at x0 x1 x2 x3 x4
          obtain ⟨T2, hT2⟩ : ∃ T2 : List Int, T2 = T.set I.toNat V := ⟨_, rfl⟩
          have NT2 := Aside0.mk hT2
          have HTb2 : Aside0 (kT K T2 (i + 1)) := ⟨by rw [hT2, EI.out, Int.toNat_natCast]; exact kT_set HTb.out hik V HV.out.symm⟩
          obtain ⟨I2, hI2⟩ : ∃ x : Int, wrap64 (I + 1) = x := ⟨_, rfl⟩
          have hI2w : IntKind.i64.wrap (I + 1) = I2 := (i64_w _).trans hI2
          have EI2 : Aside0 (I2 = ((i + 1 : Nat) : Int)) := ⟨by have := HLs.out; rw [← hI2, EI.out, tkw _ (by omega) (by omega)]; rfl⟩
          have p0 : 0 ≤ I := i0
          have p1 : I < (T0.length : Int) := by rw [LT0.out]; omega
          replace i0 := eq_true i0
          replace i1 := eq_true i1
          have Hi2 : Aside0 (i + 1 ≤ L.length) := ⟨hi⟩
          clear hQ hV hkl hik hT2 HTb hi
          go_wp2_with (first | ((with_reducible refine gate_dst (N := 8) rfl ?_); refine box_event ?hg (N := 8) ?hd (cs := #[.int .i64 0, .int .i64 0, .int .i32 0, .bool false, .int .u8 0]) (t := 75) ?hr ?_; (case hd => rfl); (case hg => rfl); (case hr => first | (go_simp; done) | (go_simp; rfl)); intro gb hg w12 hbox hb; have n0_ := Aside0.mk (Kd.R_below (by (with_reducible repeat (first | apply Kd.R_alloc | apply Kd.R_drewN | apply Kd.R_drew)); exact HKK.out) hb); have n1_ := Aside0.mk (Kd.R_below (Kd.R_elderB (by (with_reducible repeat (first | apply Kd.R_alloc | apply Kd.R_drewN | apply Kd.R_drew)); exact HC.out) gb (Nat.le_of_eq hg.symm)) hb); have n2_ := Aside0.mk (below_step (by repeat (first | (with_reducible first | exact HB.out | apply below_alloc | apply pw_below_drewN | apply below_drew1) | exact HB.out)) hb); have n3_ := Aside0.mk hbox; have n5_ := Aside0.mk ((by rw [hg]; exact (below_size (by repeat (first | (with_reducible first | exact HB.out | apply below_alloc | apply pw_below_drewN | apply below_drew1) | exact HB.out)))) : w.heap.size ≤ gb); clear HKK HC HB; have HKK := n0_; have HC := n1_; have HB := n2_; have BK := n3_; have GE := n5_; clear n0_ n1_ n2_ n3_ n5_ hb hbox hg; have hcz_0 : w12.cell? ⟨gb, 0, none⟩ = some (.int .i64 0) := (blk_cell BK.out 0).trans rfl; have hcz_1 : w12.cell? ⟨gb, 1, none⟩ = some (.int .i64 0) := (blk_cell BK.out 1).trans rfl; have hcz_2 : w12.cell? ⟨gb, 2, none⟩ = some (.int .i32 0) := (blk_cell BK.out 2).trans rfl; have hcz_3 : w12.cell? ⟨gb, 3, none⟩ = some (.bool false) := (blk_cell BK.out 3).trans rfl; have hcz_4 : w12.cell? ⟨gb, 4, none⟩ = some (.int .u8 0) := (blk_cell BK.out 4).trans rfl; have hfz_0 := blk_frozen BK.out 0; have hfz_1 := blk_frozen BK.out 1; have hfz_2 := blk_frozen BK.out 2; have hfz_3 := blk_frozen BK.out 3; have hfz_4 := blk_frozen BK.out 4) | ((with_reducible refine gate_callee (f := 49) rfl ?_); refine goesL_ (some 31) rfl rfl Tryd.func49 (by kernel_rfl) rfl #[.agg #[.int .i64 q0, .int .i64 q1, .int .i32 q2, .bool q3, .int .u8 q4]] rfl (by (try simp only [List.map_toArray, List.map_cons, List.map_nil]); first | done | rfl) ?_; (with_reducible refine (kind_Cell.calls 16 q0 q1 q2 q3 q4 V _ HKC.out).mono ?_); rintro e w13 ⟨rfl, hb⟩; refine ⟨_, rfl, ?_⟩; have n0_ := Aside0.mk (Kd.R_below (by (with_reducible repeat (first | apply Kd.R_alloc | apply Kd.R_drewN | apply Kd.R_drew)); exact Kd.R_mono (Kd.R_far (p := ⟨gb, 4, none⟩) (Kd.R_far (p := ⟨gb, 3, none⟩) (Kd.R_far (p := ⟨gb, 2, none⟩) (Kd.R_far (p := ⟨gb, 1, none⟩) (Kd.R_far (p := ⟨gb, 0, none⟩) (Kd.R_types HKK.out BK.out (by decide)) (fun _ hk => hk.2) (.int .i64 q0)) (fun _ hk => hk.2) (.int .i64 q1)) (fun _ hk => hk.2) (.int .i32 q2)) (fun _ hk => hk.2) (.bool q3)) (fun _ hk => hk.2) (.int .u8 q4)) (fun _ hk => trivial)) hb); have n1_ := Aside0.mk (Kd.R_below (by (with_reducible repeat (first | apply Kd.R_alloc | apply Kd.R_drewN | apply Kd.R_drew)); exact Kd.R_mono (Kd.R_far (p := ⟨gb, 4, none⟩) (Kd.R_far (p := ⟨gb, 3, none⟩) (Kd.R_far (p := ⟨gb, 2, none⟩) (Kd.R_far (p := ⟨gb, 1, none⟩) (Kd.R_far (p := ⟨gb, 0, none⟩) (Kd.R_mono HC.out (fun k_ hk => (⟨hk, hk.2⟩ : _ ∧ k_ ≠ gb))) (fun _ hk => hk.2) (.int .i64 q0)) (fun _ hk => hk.2) (.int .i64 q1)) (fun _ hk => hk.2) (.int .i32 q2)) (fun _ hk => hk.2) (.bool q3)) (fun _ hk => hk.2) (.int .u8 q4)) (fun _ hk => trivial)) hb); have n2_ := Aside0.mk (below_step (by repeat (first | (with_reducible first | exact HB.out | apply below_alloc | apply pw_below_drewN | apply below_drew1 | refine below_set ?_ GE.out) | exact HB.out)) hb); clear HKK HC HB; have HKK := n0_; have HC := n1_; have HB := n2_; clear n0_ n1_ n2_ hb BK GE; obtain ⟨go, co, eo, gb_, gl, cl, HG⟩ := Kd.R_form HKK.out (by rw [← (Kd.R_reads' HKK.out).1]; omega); have ec := (Kd.R_reads' HKK.out).1; rw [← ec] at eo; clear ec gl; cases eo; have GB := Aside0.mk gb_; have GG := Aside0.mk HG; clear gb_ HG; obtain ⟨hx, hf⟩ := Kd.R_celln 0 HKK.out I p0 p1; have HP := Kd.R_putg HKK.out I V; replace p0 := eq_true p0; replace p1 := eq_true p1) | ((with_reducible refine gate_store (t := 3) (p := 32) rfl ?_); refine store_event (t := 3) (p := 32) (v := ?vo_w14) (w1 := (w13.setCell ⟨go, I.toNat, none⟩ (.int .i64 V))) ?hg ?ho ?hn ?hr ?_; (case ho => rfl); (case hg => rfl); (case hn => rfl); (case hr => first | (go_simp; done) | (go_simp; rfl)); intro w14 hw; have hg : w13.grownBy w14 (some go) := (by rw [hw]; exact HP.2); have hp_ : Kd.R (Kd.int .i64) 3 w14 w.heap.size (fun _ => True) (.slice (some ⟨go, 0, none⟩) T0.length c6) T2 := (by rw [hw, NT2.out]; exact HP.1); clear HP; have n0_ := Aside0.mk (Kd.R_over' (v := (.slice (some ⟨go, 0, none⟩) T0.length c6)) (by (with_reducible repeat (first | apply Kd.R_alloc | apply Kd.R_drewN | apply Kd.R_drew)); exact HC.out) (Kd.R_typed HKK.out) (by decide) hg); have n2_ := Aside0.mk hp_; have n3_ := Aside0.mk ((by rw [hw]; exact below_set (HB.out) GB.out : Below w.heap.size w w14)); clear HC HKK HB; have HC := n0_; have HKK := n2_; have HB := n3_; clear n0_ n2_ n3_ hg hw hp_))
          go_roundw
          case rel => exact ⟨i + 1, I2, T2, rfl, EI2, Hi2, HTb2, HC, HKK, HB⟩
          case measure => have := EI.out; have := EI2.out; have := Hi2.out; simp [intOf]; omega
        · have c1 : decide (I < (L.length : Int)) = false := decide_eq_false (by rw [EI.out]; omega)
          have ei : i = L.length := by have := Hi.out; omega
          clear hi
          subst ei
          have p0 : (0 : Int) ≤ (L.length : Int) := Int.natCast_nonneg _
          have p1 : (L.length : Int) < (T0.length : Int) := by rw [LT0.out]; omega
          obtain ⟨KL, hKL⟩ : ∃ x : List Int, x = T.set ((L.length : Int)).toNat (-1) := ⟨_, rfl⟩
          have NKL := Aside0.mk hKL
          have EKK : Aside0 (KL = KK) := ⟨by rw [hKL, Int.toNat_natCast, ← NKK.out, ← kT_end (by rw [HKG.out.1]; exact HTb.out), HKG.out.1]⟩
          clear hKL HTb
          obtain ⟨go, co, eo, gb_, gl, cl, HG⟩ := Kd.R_form HKK.out (by rw [← (Kd.R_reads' HKK.out).1]; omega); have ec := (Kd.R_reads' HKK.out).1; rw [← ec] at eo; clear ec gl; cases eo; have GB := Aside0.mk gb_; have GG := Aside0.mk HG; clear gb_ HG; obtain ⟨hx, hf⟩ := Kd.R_celln 0 HKK.out (L.length : Int) p0 p1
          simp only [Int.toNat_natCast] at hx hf
          have HP := Kd.R_putg HKK.out (L.length : Int) (-1)
          replace p0 := eq_true p0
          replace p1 := eq_true p1
          go_wp2_with ((with_reducible refine gate_store (t := 3) (p := 37) rfl ?_); refine store_event (t := 3) (p := 37) (v := ?vo_w15) (w1 := (wr.setCell ⟨go, L.length, none⟩ (.int .i64 (-1)))) ?hg ?ho ?hn ?hr ?_; (case ho => rfl); (case hg => rfl); (case hn => rfl); (case hr => first | (go_simp; done) | (go_simp; rfl)); intro w15 hw; have hg : wr.grownBy w15 (some go) := (by rw [hw]; exact HP.2); have hp_ : Kd.R (Kd.int .i64) 3 w15 w.heap.size (fun _ => True) (.slice (some ⟨go, 0, none⟩) T0.length c6) KL := (by rw [hw, NKL.out]; exact HP.1); clear HP; have n0_ := Aside0.mk (Kd.R_over' (v := (.slice (some ⟨go, 0, none⟩) T0.length c6)) (by (with_reducible repeat (first | apply Kd.R_alloc | apply Kd.R_drewN | apply Kd.R_drew)); exact HC.out) (Kd.R_typed HKK.out) (by decide) hg); have n2_ := Aside0.mk hp_; have n3_ := Aside0.mk ((by rw [hw]; exact below_set (HB.out) GB.out : Below w.heap.size w w15)); clear HC HKK HB; have HC := n0_; have HKK := n2_; have HB := n3_; clear n0_ n2_ n3_ hg hw hp_)
          go_step3
          go_step
          go_step
          refine fall _ _ (scanJ_mk ?_)
          exact ⟨0, L.length, 0, [], rfl, ⟨rfl⟩, ⟨Nat.zero_le _⟩, ⟨by omega⟩, ⟨Nat.zero_le _⟩, ⟨by rw [List.nil_append]; exact HRES.out⟩, HC, ⟨by rw [← EKK.out]; exact HKK.out⟩, ⟨Kd.R_nil _ _ _ _ _⟩, HB⟩
    case p0 =>
      refine scanJ_elim ?_
      intro wr v5 v6 v9 v10 v11 v12 U hF
      obtain ⟨i, f, I, acc, rfl, EI, Hi, Hf, Hacc, HRE, HC, HKK, HO, HB⟩ := hF
      clear HTb HT HGC HKG NT0 LT0 ES
      obtain ⟨A5, c5, e5⟩ := Kd.R_slice HC.out
      subst e5
      obtain ⟨A6, c6, e6⟩ := Kd.R_slice HKK.out
      subst e6
      by_cases hi : i < L.length
      · obtain ⟨f, rfl⟩ : ∃ g, f = g + 1 := ⟨f - 1, by have := Hf.out; omega⟩
        have Hf2 : Aside0 (L.length ≤ i + 1 + f) := ⟨by have := Hf.out; omega⟩
        have c1 : (I == (L.length : Int)) = false := beq_eq_false_iff_ne.2 (by rw [EI.out]; omega)
        have i0 : 0 ≤ I := by rw [EI.out]; exact Int.natCast_nonneg i
        have i1 : I < (L.length : Int) := by rw [EI.out]; exact Int.ofNat_lt.2 hi
        have k1 : I < (KK.length : Int) := by rw [HKL.out]; omega
        obtain ⟨ad, e, x⟩ := Kd.at_int (Kd.R_reads' HKK.out).2.2 I i0 k1
        cases e
        obtain ⟨q, hq⟩ : ∃ q, rd KK I = q := ⟨_, rfl⟩
        rw [hq] at x
        have HQ : Aside0 (rd KK (i : Int) = q) := ⟨by rw [← EI.out]; exact hq⟩
        have HI := Aside0.mk hi
        have i0' := eq_true i0
        have i1' := eq_true i1
        have k1' := eq_true k1
        clear hq Hf hi
        by_cases hw : wordyB q = true
        · have HW : Aside0 (scan_wordy.f q = some true) := ⟨by rw [wordy_eq, hw]⟩
          have HT2 : Aside0 (acc ++ tok1 a0 a1 L 1 i (wordE KK (L.length + 1) i) :: tokL a0 a1 L KK f (wordE KK (L.length + 1) i) = r) := ⟨by rw [← HRE.out, tokL_step a0 a1 L KK f i HI.out 1 _ (tokS_word L KK i (by rw [HQ.out]; exact hw))]⟩
          have HWW : Aside0 (wordyB (rd KK i) = true) := ⟨by rw [HQ.out]; exact hw⟩
          clear hw HRE
          go_wp2_with ((with_reducible refine gate_callee (f := 50) rfl ?_); refine goesL_ (some 49) rfl rfl Tryd.func50 (by kernel_rfl) rfl #[.int .i64 q] rfl (by (try simp only [List.map_toArray, List.map_cons, List.map_nil]); first | done | rfl) ?_; (with_reducible refine (scan_wordy.calls q true _ HW.out).mono ?_); rintro e w_ ⟨rfl, ⟨nd, rfl⟩⟩; refine ⟨_, rfl, ?_⟩)
          go_step3
          refine Or.inr (Or.inl ⟨rfl, scanJ_mk ?_, ?_⟩)
          · exact ⟨i, i, f, L.length + 1, _, I, I, acc, rfl, rfl, rfl, EI, EI, ⟨HI.out, Nat.le_refl _⟩, HWW, ⟨rfl, by omega⟩, Hf2, Hacc, HT2, ⟨(by (with_reducible repeat (first | apply Kd.R_alloc | apply Kd.R_drewN | apply Kd.R_drew)); exact HC.out)⟩, ⟨(by (with_reducible repeat (first | apply Kd.R_alloc | apply Kd.R_drewN | apply Kd.R_drew)); exact HKK.out)⟩, ⟨(by (with_reducible repeat (first | apply Kd.R_alloc | apply Kd.R_drewN | apply Kd.R_drew)); exact HO.out)⟩, ⟨(by repeat (first | (with_reducible first | exact HB.out | apply below_alloc | apply pw_below_drewN | apply below_drew1) | exact HB.out))⟩⟩
          · have := HI.out; have := EI.out; simp [intOf]
        · have HW : Aside0 (scan_wordy.f q = some false) := ⟨by rw [wordy_eq]; exact congrArg some (Bool.eq_false_iff.2 hw)⟩
          have HNW : Aside0 (¬ wordyB (rd KK i) = true) := ⟨by rw [HQ.out]; exact hw⟩
          obtain ⟨I2, hI2⟩ : ∃ x : Int, wrap64 (I + 1) = x := ⟨_, rfl⟩
          have hI2w : IntKind.i64.wrap (I + 1) = I2 := (i64_w _).trans hI2
          have EI2 : Aside0 (I2 = ((i + 1 : Nat) : Int)) := ⟨by have := HLs.out; have := HI.out; rw [← hI2, EI.out, tkw _ (by omega) (by omega)]; rfl⟩
          clear hw
          by_cases h5 : q = 5
          · subst h5
            have HT2 : Aside0 (acc ++ tok1 a0 a1 L 2 i (blankE KK (L.length + 1) i) :: tokL a0 a1 L KK f (blankE KK (L.length + 1) i) = r) := ⟨by rw [← HRE.out, tokL_step a0 a1 L KK f i HI.out 2 _ (tokS_blank L KK i HQ.out)]⟩
            clear HRE
            go_wp2_with ((with_reducible refine gate_callee (f := 50) rfl ?_); refine goesL_ (some 49) rfl rfl Tryd.func50 (by kernel_rfl) rfl #[.int .i64 _] rfl (by (try simp only [List.map_toArray, List.map_cons, List.map_nil]); first | done | rfl) ?_; (with_reducible refine (scan_wordy.calls _ false _ HW.out).mono ?_); rintro e w_ ⟨rfl, ⟨nd, rfl⟩⟩; refine ⟨_, rfl, ?_⟩)
            go_step3
            refine Or.inr (Or.inr (Or.inl ⟨rfl, scanJ_mk ?_, ?_⟩))
            · exact ⟨i, i, f, L.length + 1, _, I, I, acc, rfl, rfl, rfl, EI, EI, ⟨HI.out, Nat.le_refl _⟩, HQ, ⟨rfl, by omega⟩, Hf2, Hacc, HT2, ⟨(by (with_reducible repeat (first | apply Kd.R_alloc | apply Kd.R_drewN | apply Kd.R_drew)); exact HC.out)⟩, ⟨(by (with_reducible repeat (first | apply Kd.R_alloc | apply Kd.R_drewN | apply Kd.R_drew)); exact HKK.out)⟩, ⟨(by (with_reducible repeat (first | apply Kd.R_alloc | apply Kd.R_drewN | apply Kd.R_drew)); exact HO.out)⟩, ⟨(by repeat (first | (with_reducible first | exact HB.out | apply below_alloc | apply pw_below_drewN | apply below_drew1) | exact HB.out))⟩⟩
            · have := HI.out; have := EI.out; simp [intOf]
          · have b5 : (q == 5) = false := beq_eq_false_iff_ne.2 h5
            by_cases h6 : q = 6
            · subst h6
              obtain ⟨⟨q0, q1, q2, q3, q4⟩, hC⟩ : ∃ C, rd_T75 L I = C := ⟨_, rfl⟩
              have HCC : Aside0 (rd_T75 L (i : Int) = ⟨q0, q1, q2, q3, q4⟩) := ⟨by rw [← EI.out]; exact hC⟩
              obtain ⟨ad2, e2, x0, x1, x2, x3, x4⟩ := at_T75 (Kd.R_reads' HC.out).2.2 I i0 i1
              cases e2
              rw [hC] at x0 x1 x2 x3 x4
              dsimp only at x0 x1 x2 x3 x4
              clear hC
              by_cases h13 : q2 = 13
              · have b13 : (q2 == 13) = true := beq_iff_eq.2 h13
                by_cases hn : i + 1 < L.length
                · have c3 : decide (I2 < (L.length : Int)) = true := decide_eq_true (by rw [EI2.out]; exact Int.ofNat_lt.2 hn)
                  have j0 : 0 ≤ I2 := by rw [EI2.out]; exact Int.natCast_nonneg _
                  have j1 : I2 < (L.length : Int) := by rw [EI2.out]; exact Int.ofNat_lt.2 hn
                  obtain ⟨⟨p0, p1, p2, p3, p4⟩, hD⟩ : ∃ C, rd_T75 L I2 = C := ⟨_, rfl⟩
                  have HD : Aside0 (rd_T75 L ((i + 1 : Nat) : Int) = ⟨p0, p1, p2, p3, p4⟩) := ⟨by rw [← EI2.out]; exact hD⟩
                  obtain ⟨ad3, e3, y0, y1, y2, y3, y4⟩ := at_T75 (Kd.R_reads' HC.out).2.2 I2 j0 j1
                  cases e3
                  rw [hD] at y0 y1 y2 y3 y4
                  dsimp only at y0 y1 y2 y3 y4
                  replace j0 := eq_true j0
                  replace j1 := eq_true j1
                  have HN := Aside0.mk hn
                  clear hD hn
                  by_cases h10 : p2 = 10
                  · have b10 : (p2 == 10) = true := beq_iff_eq.2 h10
                    obtain ⟨I3, hI3⟩ : ∃ x : Int, wrap64 (I2 + 1) = x := ⟨_, rfl⟩
                    have hI3w : IntKind.i64.wrap (I2 + 1) = I3 := (i64_w _).trans hI3
                    have EI3 : Aside0 (I3 = ((i + 2 : Nat) : Int)) := ⟨by have := HLs.out; have := HI.out; rw [← hI3, EI2.out, tkw _ (by omega) (by omega)]; rfl⟩
                    have HH : Aside0 ((rd_T75 L i).f2 = 13 ∧ i + 1 < L.length ∧ (rd_T75 L ((i + 1 : Nat) : Int)).f2 = 10) := ⟨by rw [HCC.out, HD.out]; exact ⟨h13, HN.out, h10⟩⟩
                    clear h13 h10
                    have HT2 : Aside0 (acc ++ tok1 a0 a1 L 3 i (i + 2) :: tokL a0 a1 L KK f (i + 2) = r) := ⟨by rw [← HRE.out, tokL_step a0 a1 L KK f i HI.out 3 _ (tokS_line2 L KK i HQ.out HH.out)]⟩
                    clear HRE
                    go_wp2_with ((with_reducible refine gate_callee (f := 50) rfl ?_); refine goesL_ (some 49) rfl rfl Tryd.func50 (by kernel_rfl) rfl #[.int .i64 _] rfl (by (try simp only [List.map_toArray, List.map_cons, List.map_nil]); first | done | rfl) ?_; (with_reducible refine (scan_wordy.calls _ false _ HW.out).mono ?_); rintro e w_ ⟨rfl, ⟨nd, rfl⟩⟩; refine ⟨_, rfl, ?_⟩)
                    go_step3
                    refine Or.inr (Or.inr (Or.inr ⟨rfl, scanJ_mk ?_, ?_⟩))
                    · exact ⟨i + 2, i, f, I3, I, 3, acc, rfl, rfl, rfl, EI3, EI, ⟨by omega, by first | (have := HN.out; omega) | (have := HI.out; omega)⟩, Hf2, Hacc, HT2, ⟨(by (with_reducible repeat (first | apply Kd.R_alloc | apply Kd.R_drewN | apply Kd.R_drew)); exact HC.out)⟩, ⟨(by (with_reducible repeat (first | apply Kd.R_alloc | apply Kd.R_drewN | apply Kd.R_drew)); exact HKK.out)⟩, ⟨(by (with_reducible repeat (first | apply Kd.R_alloc | apply Kd.R_drewN | apply Kd.R_drew)); exact HO.out)⟩, ⟨(by repeat (first | (with_reducible first | exact HB.out | apply below_alloc | apply pw_below_drewN | apply below_drew1) | exact HB.out))⟩⟩
                    · have h1_ := HI.out; have h2_ := EI.out; have h3_ := EI3.out; simp [intOf]; omega
                  · have b10 : (p2 == 10) = false := beq_eq_false_iff_ne.2 h10
                    have HH : Aside0 (¬ ((rd_T75 L i).f2 = 13 ∧ i + 1 < L.length ∧ (rd_T75 L ((i + 1 : Nat) : Int)).f2 = 10)) := ⟨by rw [HD.out]; exact fun h => h10 h.2.2⟩
                    clear h13 h10
                    have HT2 : Aside0 (acc ++ tok1 a0 a1 L 3 i (i + 1) :: tokL a0 a1 L KK f (i + 1) = r) := ⟨by rw [← HRE.out, tokL_step a0 a1 L KK f i HI.out 3 _ (tokS_line1 L KK i HQ.out HH.out)]⟩
                    clear HRE
                    go_wp2_with ((with_reducible refine gate_callee (f := 50) rfl ?_); refine goesL_ (some 49) rfl rfl Tryd.func50 (by kernel_rfl) rfl #[.int .i64 _] rfl (by (try simp only [List.map_toArray, List.map_cons, List.map_nil]); first | done | rfl) ?_; (with_reducible refine (scan_wordy.calls _ false _ HW.out).mono ?_); rintro e w_ ⟨rfl, ⟨nd, rfl⟩⟩; refine ⟨_, rfl, ?_⟩)
                    go_step3
                    refine Or.inr (Or.inr (Or.inr ⟨rfl, scanJ_mk ?_, ?_⟩))
                    · exact ⟨i + 1, i, f, I2, I, 3, acc, rfl, rfl, rfl, EI2, EI, ⟨by omega, by first | (have := HN.out; omega) | (have := HI.out; omega)⟩, Hf2, Hacc, HT2, ⟨(by (with_reducible repeat (first | apply Kd.R_alloc | apply Kd.R_drewN | apply Kd.R_drew)); exact HC.out)⟩, ⟨(by (with_reducible repeat (first | apply Kd.R_alloc | apply Kd.R_drewN | apply Kd.R_drew)); exact HKK.out)⟩, ⟨(by (with_reducible repeat (first | apply Kd.R_alloc | apply Kd.R_drewN | apply Kd.R_drew)); exact HO.out)⟩, ⟨(by repeat (first | (with_reducible first | exact HB.out | apply below_alloc | apply pw_below_drewN | apply below_drew1) | exact HB.out))⟩⟩
                    · have h1_ := HI.out; have h2_ := EI.out; have h3_ := EI2.out; simp [intOf]; omega
                · have c3 : decide (I2 < (L.length : Int)) = false := decide_eq_false (by rw [EI2.out]; omega)
                  have HH : Aside0 (¬ ((rd_T75 L i).f2 = 13 ∧ i + 1 < L.length ∧ (rd_T75 L ((i + 1 : Nat) : Int)).f2 = 10)) := ⟨fun h => hn h.2.1⟩
                  clear h13 hn
                  have HT2 : Aside0 (acc ++ tok1 a0 a1 L 3 i (i + 1) :: tokL a0 a1 L KK f (i + 1) = r) := ⟨by rw [← HRE.out, tokL_step a0 a1 L KK f i HI.out 3 _ (tokS_line1 L KK i HQ.out HH.out)]⟩
                  clear HRE
                  go_wp2_with ((with_reducible refine gate_callee (f := 50) rfl ?_); refine goesL_ (some 49) rfl rfl Tryd.func50 (by kernel_rfl) rfl #[.int .i64 _] rfl (by (try simp only [List.map_toArray, List.map_cons, List.map_nil]); first | done | rfl) ?_; (with_reducible refine (scan_wordy.calls _ false _ HW.out).mono ?_); rintro e w_ ⟨rfl, ⟨nd, rfl⟩⟩; refine ⟨_, rfl, ?_⟩)
                  go_step3
                  refine Or.inr (Or.inr (Or.inr ⟨rfl, scanJ_mk ?_, ?_⟩))
                  · exact ⟨i + 1, i, f, I2, I, 3, acc, rfl, rfl, rfl, EI2, EI, ⟨by omega, by first | (have := HN.out; omega) | (have := HI.out; omega)⟩, Hf2, Hacc, HT2, ⟨(by (with_reducible repeat (first | apply Kd.R_alloc | apply Kd.R_drewN | apply Kd.R_drew)); exact HC.out)⟩, ⟨(by (with_reducible repeat (first | apply Kd.R_alloc | apply Kd.R_drewN | apply Kd.R_drew)); exact HKK.out)⟩, ⟨(by (with_reducible repeat (first | apply Kd.R_alloc | apply Kd.R_drewN | apply Kd.R_drew)); exact HO.out)⟩, ⟨(by repeat (first | (with_reducible first | exact HB.out | apply below_alloc | apply pw_below_drewN | apply below_drew1) | exact HB.out))⟩⟩
                  · have h1_ := HI.out; have h2_ := EI.out; have h3_ := EI2.out; simp [intOf]; omega
              · have b13 : (q2 == 13) = false := beq_eq_false_iff_ne.2 h13
                have HH : Aside0 (¬ ((rd_T75 L i).f2 = 13 ∧ i + 1 < L.length ∧ (rd_T75 L ((i + 1 : Nat) : Int)).f2 = 10)) := ⟨by rw [HCC.out]; exact fun h => h13 h.1⟩
                clear h13
                have HT2 : Aside0 (acc ++ tok1 a0 a1 L 3 i (i + 1) :: tokL a0 a1 L KK f (i + 1) = r) := ⟨by rw [← HRE.out, tokL_step a0 a1 L KK f i HI.out 3 _ (tokS_line1 L KK i HQ.out HH.out)]⟩
                clear HRE
                go_wp2_with ((with_reducible refine gate_callee (f := 50) rfl ?_); refine goesL_ (some 49) rfl rfl Tryd.func50 (by kernel_rfl) rfl #[.int .i64 _] rfl (by (try simp only [List.map_toArray, List.map_cons, List.map_nil]); first | done | rfl) ?_; (with_reducible refine (scan_wordy.calls _ false _ HW.out).mono ?_); rintro e w_ ⟨rfl, ⟨nd, rfl⟩⟩; refine ⟨_, rfl, ?_⟩)
                go_step3
                refine Or.inr (Or.inr (Or.inr ⟨rfl, scanJ_mk ?_, ?_⟩))
                · exact ⟨i + 1, i, f, I2, I, 3, acc, rfl, rfl, rfl, EI2, EI, ⟨by omega, by first | (have := HN.out; omega) | (have := HI.out; omega)⟩, Hf2, Hacc, HT2, ⟨(by (with_reducible repeat (first | apply Kd.R_alloc | apply Kd.R_drewN | apply Kd.R_drew)); exact HC.out)⟩, ⟨(by (with_reducible repeat (first | apply Kd.R_alloc | apply Kd.R_drewN | apply Kd.R_drew)); exact HKK.out)⟩, ⟨(by (with_reducible repeat (first | apply Kd.R_alloc | apply Kd.R_drewN | apply Kd.R_drew)); exact HO.out)⟩, ⟨(by repeat (first | (with_reducible first | exact HB.out | apply below_alloc | apply pw_below_drewN | apply below_drew1) | exact HB.out))⟩⟩
                · have h1_ := HI.out; have h2_ := EI.out; have h3_ := EI2.out; simp [intOf]; omega
            · have b6 : (q == 6) = false := beq_eq_false_iff_ne.2 h6
              by_cases h7 : q = 7
              · subst h7
                have HT2 : Aside0 (acc ++ tok1 a0 a1 L 4 i (i + 1) :: tokL a0 a1 L KK f (i + 1) = r) := ⟨by rw [← HRE.out, tokL_step a0 a1 L KK f i HI.out 4 _ (tokS_point L KK i (.inl HQ.out))]⟩
                clear HRE
                go_wp2_with ((with_reducible refine gate_callee (f := 50) rfl ?_); refine goesL_ (some 49) rfl rfl Tryd.func50 (by kernel_rfl) rfl #[.int .i64 _] rfl (by (try simp only [List.map_toArray, List.map_cons, List.map_nil]); first | done | rfl) ?_; (with_reducible refine (scan_wordy.calls _ false _ HW.out).mono ?_); rintro e w_ ⟨rfl, ⟨nd, rfl⟩⟩; refine ⟨_, rfl, ?_⟩)
                go_step3
                refine Or.inr (Or.inr (Or.inr ⟨rfl, scanJ_mk ?_, ?_⟩))
                · exact ⟨i + 1, i, f, I2, I, 4, acc, rfl, rfl, rfl, EI2, EI, ⟨by omega, by first | (have := HN.out; omega) | (have := HI.out; omega)⟩, Hf2, Hacc, HT2, ⟨(by (with_reducible repeat (first | apply Kd.R_alloc | apply Kd.R_drewN | apply Kd.R_drew)); exact HC.out)⟩, ⟨(by (with_reducible repeat (first | apply Kd.R_alloc | apply Kd.R_drewN | apply Kd.R_drew)); exact HKK.out)⟩, ⟨(by (with_reducible repeat (first | apply Kd.R_alloc | apply Kd.R_drewN | apply Kd.R_drew)); exact HO.out)⟩, ⟨(by repeat (first | (with_reducible first | exact HB.out | apply below_alloc | apply pw_below_drewN | apply below_drew1) | exact HB.out))⟩⟩
                · have h1_ := HI.out; have h2_ := EI.out; have h3_ := EI2.out; simp [intOf]; omega
              · have b7 : (q == 7) = false := beq_eq_false_iff_ne.2 h7
                by_cases h4 : q = 4
                · subst h4
                  have HT2 : Aside0 (acc ++ tok1 a0 a1 L 4 i (i + 1) :: tokL a0 a1 L KK f (i + 1) = r) := ⟨by rw [← HRE.out, tokL_step a0 a1 L KK f i HI.out 4 _ (tokS_point L KK i (.inr HQ.out))]⟩
                  clear HRE
                  go_wp2_with ((with_reducible refine gate_callee (f := 50) rfl ?_); refine goesL_ (some 49) rfl rfl Tryd.func50 (by kernel_rfl) rfl #[.int .i64 _] rfl (by (try simp only [List.map_toArray, List.map_cons, List.map_nil]); first | done | rfl) ?_; (with_reducible refine (scan_wordy.calls _ false _ HW.out).mono ?_); rintro e w_ ⟨rfl, ⟨nd, rfl⟩⟩; refine ⟨_, rfl, ?_⟩)
                  go_step3
                  refine Or.inr (Or.inr (Or.inr ⟨rfl, scanJ_mk ?_, ?_⟩))
                  · exact ⟨i + 1, i, f, I2, I, 4, acc, rfl, rfl, rfl, EI2, EI, ⟨by omega, by first | (have := HN.out; omega) | (have := HI.out; omega)⟩, Hf2, Hacc, HT2, ⟨(by (with_reducible repeat (first | apply Kd.R_alloc | apply Kd.R_drewN | apply Kd.R_drew)); exact HC.out)⟩, ⟨(by (with_reducible repeat (first | apply Kd.R_alloc | apply Kd.R_drewN | apply Kd.R_drew)); exact HKK.out)⟩, ⟨(by (with_reducible repeat (first | apply Kd.R_alloc | apply Kd.R_drewN | apply Kd.R_drew)); exact HO.out)⟩, ⟨(by repeat (first | (with_reducible first | exact HB.out | apply below_alloc | apply pw_below_drewN | apply below_drew1) | exact HB.out))⟩⟩
                  · have h1_ := HI.out; have h2_ := EI.out; have h3_ := EI2.out; simp [intOf]; omega
                · have b4 : (q == 4) = false := beq_eq_false_iff_ne.2 h4
                  have H5 : Aside0 (¬ rd KK i = 5) := ⟨by rw [HQ.out]; exact h5⟩
                  have H6 : Aside0 (¬ rd KK i = 6) := ⟨by rw [HQ.out]; exact h6⟩
                  have H7 : Aside0 (¬ (rd KK i = 7 ∨ rd KK i = 4)) := ⟨by rw [HQ.out]; exact fun h => h.elim h7 h4⟩
                  clear h5 h6 h7 h4
                  have HT2 : Aside0 (acc ++ tok1 a0 a1 L 5 i (i + 1) :: tokL a0 a1 L KK f (i + 1) = r) := ⟨by rw [← HRE.out, tokL_step a0 a1 L KK f i HI.out 5 _ (tokS_other L KK i HNW.out H5.out H6.out H7.out)]⟩
                  clear HRE
                  go_wp2_with ((with_reducible refine gate_callee (f := 50) rfl ?_); refine goesL_ (some 49) rfl rfl Tryd.func50 (by kernel_rfl) rfl #[.int .i64 _] rfl (by (try simp only [List.map_toArray, List.map_cons, List.map_nil]); first | done | rfl) ?_; (with_reducible refine (scan_wordy.calls _ false _ HW.out).mono ?_); rintro e w_ ⟨rfl, ⟨nd, rfl⟩⟩; refine ⟨_, rfl, ?_⟩)
                  go_step3
                  refine Or.inr (Or.inr (Or.inr ⟨rfl, scanJ_mk ?_, ?_⟩))
                  · exact ⟨i + 1, i, f, I2, I, 5, acc, rfl, rfl, rfl, EI2, EI, ⟨by omega, by first | (have := HN.out; omega) | (have := HI.out; omega)⟩, Hf2, Hacc, HT2, ⟨(by (with_reducible repeat (first | apply Kd.R_alloc | apply Kd.R_drewN | apply Kd.R_drew)); exact HC.out)⟩, ⟨(by (with_reducible repeat (first | apply Kd.R_alloc | apply Kd.R_drewN | apply Kd.R_drew)); exact HKK.out)⟩, ⟨(by (with_reducible repeat (first | apply Kd.R_alloc | apply Kd.R_drewN | apply Kd.R_drew)); exact HO.out)⟩, ⟨(by repeat (first | (with_reducible first | exact HB.out | apply below_alloc | apply pw_below_drewN | apply below_drew1) | exact HB.out))⟩⟩
                  · have h1_ := HI.out; have h2_ := EI.out; have h3_ := EI2.out; simp [intOf]; omega
      · have c1 : (I == (L.length : Int)) = true := beq_iff_eq.2 (by rw [EI.out]; have := Hi.out; omega)
        have HF : Aside0 (acc = r) := ⟨by have := HRE.out; rw [tokL_end _ _ _ _ _ _ hi, List.append_nil] at this; exact this⟩
        clear hi HRE
        go_wp2
        simp only [jump4]
        go_ret
        exact ⟨_, rfl, by rw [← HF.out]; exact HO.out, HB.out⟩
    case p1 =>
      refine scanJ_elim ?_
      intro wr v5 v6 v9 v10 v11 v12 U hF
      obtain ⟨i, j, f, g, e, I, J, acc, rfl, rfl, rfl, EI, EJ, Hij, HWW, HE, Hf, Hacc, HT2, HC, HKK, HO, HB⟩ := hF
      clear HTb HT HGC HKG NT0 LT0 ES HRES
      obtain ⟨A5, c5, e5⟩ := Kd.R_slice HC.out
      subst e5
      obtain ⟨A6, c6, e6⟩ := Kd.R_slice HKK.out
      subst e6
      go_wp2
      go_loopw [10] (fun v10 w' => ∃ (i' g' : Nat) (I' : Int), v10 = .int .i64 I' ∧ Aside0 (I' = (i' : Int)) ∧ Aside0 (i ≤ i' ∧ i' ≤ L.length) ∧ Aside0 (wordE KK g' i' = e ∧ L.length + 1 ≤ i' + g') ∧ Aside0 (Kd.R k75 75 w' w.heap.size (fun _ => True) (.slice A5 L.length c5) L) ∧ Aside0 (Kd.R (Kd.int .i64) 3 w' w.heap.size (fun _ => True) (.slice A6 KK.length c6) KK) ∧ Aside0 (Kd.R k51 51 w' w.heap.size (fun _ => True) v9 acc) ∧ Aside0 (Below w.heap.size w w')) (fun v10 _ => L.length - (intOf v10).toNat)
      case atStart => exact ⟨i, g, I, rfl, EI, ⟨Nat.le_refl _, by have := Hij.out; omega⟩, HE, HC, HKK, HO, HB⟩
      case round =>
        clear HC HKK HO HB HE
        obtain ⟨i', g', I', rfl, EI2', Hi2, HE, HC, HKK, HO, HB⟩ := hrel
        obtain ⟨g', rfl⟩ : ∃ z, g' = z + 1 := ⟨g' - 1, by have := HE.out.2; have := Hi2.out; omega⟩
        obtain ⟨I2, hI2⟩ : ∃ x : Int, wrap64 (I' + 1) = x := ⟨_, rfl⟩
        have hI2w : IntKind.i64.wrap (I' + 1) = I2 := (i64_w _).trans hI2
        have EI2 : Aside0 (I2 = ((i' + 1 : Nat) : Int)) := ⟨by have := HLs.out; have := Hi2.out; rw [← hI2, EI2'.out, tkw _ (by omega) (by omega)]; rfl⟩
        have i0 : 0 ≤ I' := by rw [EI2'.out]; exact Int.natCast_nonneg _
        have k1 : I' < (KK.length : Int) := by rw [HKL.out, EI2'.out]; have := Hi2.out; omega
        obtain ⟨ad, e0, x⟩ := Kd.at_int (Kd.R_reads' HKK.out).2.2 I' i0 k1
        cases e0
        obtain ⟨q, hq⟩ : ∃ q, rd KK I' = q := ⟨_, rfl⟩
        rw [hq] at x
        have HQ : Aside0 (rd KK (i' : Int) = q) := ⟨by rw [← EI2'.out]; exact hq⟩
        replace i0 := eq_true i0
        replace k1 := eq_true k1
        clear hq
        by_cases hw : wordyB q = true
        · have HW : Aside0 (scan_wordy.f q = some true) := ⟨by rw [wordy_eq, hw]⟩
          have HN : Aside0 (i' < L.length) := ⟨by
            refine Classical.byContradiction fun hn => ?_
            have h1 := HKE.out i' (by omega)
            rw [HQ.out] at h1
            rcases h1 with h1 | h1 <;> (rw [h1] at hw; exact absurd hw (by decide))⟩
          have HE2 : Aside0 (wordE KK g' (i' + 1) = e ∧ L.length + 1 ≤ (i' + 1) + g') := ⟨by have h1 := HE.out.1; rw [wordE, if_pos (by rw [HQ.out]; exact hw)] at h1; exact ⟨h1, by have := HE.out.2; omega⟩⟩
          clear hw HE
          go_wp2_with ((with_reducible refine gate_callee (f := 50) rfl ?_); refine goesL_ (some 103) rfl rfl Tryd.func50 (by kernel_rfl) rfl #[.int .i64 q] rfl (by (try simp only [List.map_toArray, List.map_cons, List.map_nil]); first | done | rfl) ?_; (with_reducible refine (scan_wordy.calls q true _ HW.out).mono ?_); rintro e w_ ⟨rfl, ⟨nd, rfl⟩⟩; refine ⟨_, rfl, ?_⟩)
          go_roundw
          case rel => exact ⟨i' + 1, g', I2, rfl, EI2, ⟨by have := Hi2.out; have := HN.out; omega⟩, HE2, ⟨(by (with_reducible repeat (first | apply Kd.R_alloc | apply Kd.R_drewN | apply Kd.R_drew)); exact HC.out)⟩, ⟨(by (with_reducible repeat (first | apply Kd.R_alloc | apply Kd.R_drewN | apply Kd.R_drew)); exact HKK.out)⟩, ⟨(by (with_reducible repeat (first | apply Kd.R_alloc | apply Kd.R_drewN | apply Kd.R_drew)); exact HO.out)⟩, ⟨(by repeat (first | (with_reducible first | exact HB.out | apply below_alloc | apply pw_below_drewN | apply below_drew1) | exact HB.out))⟩⟩
          case measure => have h1_ := EI2.out; have h2_ := EI2'.out; have h3_ := HN.out; simp [intOf]; omega
        · have HW : Aside0 (scan_wordy.f q = some false) := ⟨by rw [wordy_eq]; exact congrArg some (Bool.eq_false_iff.2 hw)⟩
          have HNW : Aside0 (¬ wordyB (rd KK i') = true) := ⟨by rw [HQ.out]; exact hw⟩
          have HII : Aside0 (i < i') := ⟨by
            refine Classical.byContradiction fun hn => ?_
            have h1 : i' = i := by have := Hi2.out; omega
            subst h1
            exact HNW.out HWW.out⟩
          clear hw
          by_cases h4 : q = 4
          · subst h4
            have HN : Aside0 (i' < L.length) := ⟨by
              refine Classical.byContradiction fun hn => ?_
              have h1 := HKE.out i' (by omega)
              rw [HQ.out] at h1
              rcases h1 with h1 | h1 <;> exact absurd h1 (by decide)⟩
            have j0 : 0 ≤ I2 := by rw [EI2.out]; exact Int.natCast_nonneg _
            have j1 : I2 < (KK.length : Int) := by rw [EI2.out, HKL.out]; have := HN.out; omega
            obtain ⟨ad2, e2, y⟩ := Kd.at_int (Kd.R_reads' HKK.out).2.2 I2 j0 j1
            cases e2
            obtain ⟨q2, hq2⟩ : ∃ q, rd KK I2 = q := ⟨_, rfl⟩
            rw [hq2] at y
            have HQ2 : Aside0 (rd KK ((i' + 1 : Nat) : Int) = q2) := ⟨by rw [← EI2.out]; exact hq2⟩
            replace j0 := eq_true j0
            replace j1 := eq_true j1
            clear hq2
            by_cases hw2 : wordyB q2 = true
            · have HW2 : Aside0 (scan_wordy.f q2 = some true) := ⟨by rw [wordy_eq, hw2]⟩
              have HWW2 : Aside0 (wordyB (rd KK ((i' + 1 : Nat) : Int)) = true) := ⟨by rw [HQ2.out]; exact hw2⟩
              have HN2 : Aside0 (i' + 1 < L.length) := ⟨by
                refine Classical.byContradiction fun hn => ?_
                have h1 := HKE.out (i' + 1) (by omega)
                rw [HQ2.out] at h1
                rcases h1 with h1 | h1 <;> (rw [h1] at hw2; exact absurd hw2 (by decide))⟩
              have HE2 : Aside0 (wordE KK g' (i' + 1) = e ∧ L.length + 1 ≤ (i' + 1) + g') := ⟨by have h1 := HE.out.1; rw [wordE, if_neg HNW.out, if_pos ⟨HQ.out, HWW2.out⟩] at h1; exact ⟨h1, by have := HE.out.2; omega⟩⟩
              clear hw2 HE
              go_wp2_with ((with_reducible refine gate_callee (f := 50) rfl ?_); refine goesL_ (some 103) rfl rfl Tryd.func50 (by kernel_rfl) rfl #[.int .i64 _] rfl (by (try simp only [List.map_toArray, List.map_cons, List.map_nil]); first | done | rfl) ?_; (with_reducible refine (scan_wordy.calls _ false _ HW.out).mono ?_); rintro e w_ ⟨rfl, ⟨nd, rfl⟩⟩; refine ⟨_, rfl, ?_⟩)
              refine (scan_wordy.calls q2 true _ HW2.out).mono ?_
              rintro e9 w9 ⟨rfl, ⟨nd2, rfl⟩⟩
              go_wp2
              go_step3
              refine Or.inr (Or.inl ⟨rfl, scanJ_mk ?_, ?_⟩)
              · exact ⟨i' + 1, j, f, g', e, I2, J, acc, rfl, rfl, rfl, EI2, EJ, ⟨HN2.out, by have := HII.out; have := Hij.out; omega⟩, HWW2, HE2, Hf, Hacc, HT2, ⟨(by (with_reducible repeat (first | apply Kd.R_alloc | apply Kd.R_drewN | apply Kd.R_drew)); exact HC.out)⟩, ⟨(by (with_reducible repeat (first | apply Kd.R_alloc | apply Kd.R_drewN | apply Kd.R_drew)); exact HKK.out)⟩, ⟨(by (with_reducible repeat (first | apply Kd.R_alloc | apply Kd.R_drewN | apply Kd.R_drew)); exact HO.out)⟩, ⟨(by repeat (first | (with_reducible first | exact HB.out | apply below_alloc | apply pw_below_drewN | apply below_drew1) | exact HB.out))⟩⟩
              · have h1_ := EI2.out; have h2_ := EI.out; have h3_ := HN2.out; have h4_ := HII.out; simp [intOf]; omega
            · have HW2 : Aside0 (scan_wordy.f q2 = some false) := ⟨by rw [wordy_eq]; exact congrArg some (Bool.eq_false_iff.2 hw2)⟩
              have HE2 : Aside0 (i' = e) := ⟨by have h1 := HE.out.1; rw [wordE, if_neg HNW.out, if_neg (fun h => hw2 (by rw [← HQ2.out]; exact h.2))] at h1; exact h1⟩
              clear hw2 HE
              go_wp2_with ((with_reducible refine gate_callee (f := 50) rfl ?_); refine goesL_ (some 103) rfl rfl Tryd.func50 (by kernel_rfl) rfl #[.int .i64 _] rfl (by (try simp only [List.map_toArray, List.map_cons, List.map_nil]); first | done | rfl) ?_; (with_reducible refine (scan_wordy.calls _ false _ HW.out).mono ?_); rintro e w_ ⟨rfl, ⟨nd, rfl⟩⟩; refine ⟨_, rfl, ?_⟩)
              refine (scan_wordy.calls q2 false _ HW2.out).mono ?_
              rintro e9 w9 ⟨rfl, ⟨nd2, rfl⟩⟩
              go_wp2
              go_step3
              refine Or.inr (Or.inr (Or.inr ⟨rfl, scanJ_mk ?_, ?_⟩))
              · exact ⟨i', j, f, I', J, 1, acc, rfl, rfl, rfl, EI2', EJ, ⟨by have := HII.out; have := Hij.out; omega, Hi2.out.2⟩, Hf, Hacc, ⟨by rw [HE2.out]; exact HT2.out⟩, ⟨(by (with_reducible repeat (first | apply Kd.R_alloc | apply Kd.R_drewN | apply Kd.R_drew)); exact HC.out)⟩, ⟨(by (with_reducible repeat (first | apply Kd.R_alloc | apply Kd.R_drewN | apply Kd.R_drew)); exact HKK.out)⟩, ⟨(by (with_reducible repeat (first | apply Kd.R_alloc | apply Kd.R_drewN | apply Kd.R_drew)); exact HO.out)⟩, ⟨(by repeat (first | (with_reducible first | exact HB.out | apply below_alloc | apply pw_below_drewN | apply below_drew1) | exact HB.out))⟩⟩
              · have h1_ := EI2'.out; have h2_ := EI.out; have h3_ := HII.out; have h4_ := Hi2.out; simp [intOf]; omega
          · have b4 : (q == 4) = false := beq_eq_false_iff_ne.2 h4
            have HE2 : Aside0 (i' = e) := ⟨by have h1 := HE.out.1; rw [wordE, if_neg HNW.out, if_neg (fun h => h4 (by rw [← HQ.out]; exact h.1))] at h1; exact h1⟩
            clear h4 HE
            go_wp2_with ((with_reducible refine gate_callee (f := 50) rfl ?_); refine goesL_ (some 103) rfl rfl Tryd.func50 (by kernel_rfl) rfl #[.int .i64 _] rfl (by (try simp only [List.map_toArray, List.map_cons, List.map_nil]); first | done | rfl) ?_; (with_reducible refine (scan_wordy.calls _ false _ HW.out).mono ?_); rintro e w_ ⟨rfl, ⟨nd, rfl⟩⟩; refine ⟨_, rfl, ?_⟩)
            go_step3
            refine Or.inr (Or.inr (Or.inr ⟨rfl, scanJ_mk ?_, ?_⟩))
            · exact ⟨i', j, f, I', J, 1, acc, rfl, rfl, rfl, EI2', EJ, ⟨by have := HII.out; have := Hij.out; omega, Hi2.out.2⟩, Hf, Hacc, ⟨by rw [HE2.out]; exact HT2.out⟩, ⟨(by (with_reducible repeat (first | apply Kd.R_alloc | apply Kd.R_drewN | apply Kd.R_drew)); exact HC.out)⟩, ⟨(by (with_reducible repeat (first | apply Kd.R_alloc | apply Kd.R_drewN | apply Kd.R_drew)); exact HKK.out)⟩, ⟨(by (with_reducible repeat (first | apply Kd.R_alloc | apply Kd.R_drewN | apply Kd.R_drew)); exact HO.out)⟩, ⟨(by repeat (first | (with_reducible first | exact HB.out | apply below_alloc | apply pw_below_drewN | apply below_drew1) | exact HB.out))⟩⟩
            · have h1_ := EI2'.out; have h2_ := EI.out; have h3_ := HII.out; have h4_ := Hi2.out; simp [intOf]; omega
    case p2 =>
      intro fall3
      refine scanJ_elim ?_
      intro wr v5 v6 v9 v10 v11 v12 U hF
      obtain ⟨i, j, f, g, e, I, J, acc, rfl, rfl, rfl, EI, EJ, Hij, HWW, HE, Hf, Hacc, HT2, HC, HKK, HO, HB⟩ := hF
      clear HTb HT HGC HKG NT0 LT0 ES HRES
      obtain ⟨A5, c5, e5⟩ := Kd.R_slice HC.out
      subst e5
      obtain ⟨A6, c6, e6⟩ := Kd.R_slice HKK.out
      subst e6
      go_wp2
      go_loopw [10] (fun v10 w' => ∃ (i' g' : Nat) (I' : Int), v10 = .int .i64 I' ∧ Aside0 (I' = (i' : Int)) ∧ Aside0 (i ≤ i' ∧ i' ≤ L.length) ∧ Aside0 (blankE KK g' i' = e ∧ L.length + 1 ≤ i' + g') ∧ Aside0 (Kd.R k75 75 w' w.heap.size (fun _ => True) (.slice A5 L.length c5) L) ∧ Aside0 (Kd.R (Kd.int .i64) 3 w' w.heap.size (fun _ => True) (.slice A6 KK.length c6) KK) ∧ Aside0 (Kd.R k51 51 w' w.heap.size (fun _ => True) v9 acc) ∧ Aside0 (Below w.heap.size w w')) (fun v10 _ => L.length - (intOf v10).toNat)
      case atStart => exact ⟨i, g, I, rfl, EI, ⟨Nat.le_refl _, by have := Hij.out; omega⟩, HE, HC, HKK, HO, HB⟩
      case round =>
        clear HC HKK HO HB HE
        obtain ⟨i', g', I', rfl, EI2', Hi2, HE, HC, HKK, HO, HB⟩ := hrel
        obtain ⟨g', rfl⟩ : ∃ z, g' = z + 1 := ⟨g' - 1, by have := HE.out.2; have := Hi2.out; omega⟩
        obtain ⟨I2, hI2⟩ : ∃ x : Int, wrap64 (I' + 1) = x := ⟨_, rfl⟩
        have hI2w : IntKind.i64.wrap (I' + 1) = I2 := (i64_w _).trans hI2
        have EI2 : Aside0 (I2 = ((i' + 1 : Nat) : Int)) := ⟨by have := HLs.out; have := Hi2.out; rw [← hI2, EI2'.out, tkw _ (by omega) (by omega)]; rfl⟩
        have i0 : 0 ≤ I' := by rw [EI2'.out]; exact Int.natCast_nonneg _
        have k1 : I' < (KK.length : Int) := by rw [HKL.out, EI2'.out]; have := Hi2.out; omega
        obtain ⟨ad, e0, x⟩ := Kd.at_int (Kd.R_reads' HKK.out).2.2 I' i0 k1
        cases e0
        obtain ⟨q, hq⟩ : ∃ q, rd KK I' = q := ⟨_, rfl⟩
        rw [hq] at x
        have HQ : Aside0 (rd KK (i' : Int) = q) := ⟨by rw [← EI2'.out]; exact hq⟩
        replace i0 := eq_true i0
        replace k1 := eq_true k1
        clear hq
        by_cases h5 : q = 5
        · subst h5
          have HN : Aside0 (i' < L.length) := ⟨by
            refine Classical.byContradiction fun hn => ?_
            have h1 := HKE.out i' (by omega)
            rw [HQ.out] at h1
            rcases h1 with h1 | h1 <;> exact absurd h1 (by decide)⟩
          have HE2 : Aside0 (blankE KK g' (i' + 1) = e ∧ L.length + 1 ≤ (i' + 1) + g') := ⟨by have h1 := HE.out.1; rw [blankE, if_pos HQ.out] at h1; exact ⟨h1, by have := HE.out.2; omega⟩⟩
          clear HE
          go_wp2
          go_roundw
          case rel => exact ⟨i' + 1, g', I2, rfl, EI2, ⟨by have := Hi2.out; have := HN.out; omega⟩, HE2, ⟨(by (with_reducible repeat (first | apply Kd.R_alloc | apply Kd.R_drewN | apply Kd.R_drew)); exact HC.out)⟩, ⟨(by (with_reducible repeat (first | apply Kd.R_alloc | apply Kd.R_drewN | apply Kd.R_drew)); exact HKK.out)⟩, ⟨(by (with_reducible repeat (first | apply Kd.R_alloc | apply Kd.R_drewN | apply Kd.R_drew)); exact HO.out)⟩, ⟨(by repeat (first | (with_reducible first | exact HB.out | apply below_alloc | apply pw_below_drewN | apply below_drew1) | exact HB.out))⟩⟩
          case measure => have h1_ := EI2.out; have h2_ := EI2'.out; have h3_ := HN.out; simp [intOf]; omega
        · have b5 : (q == 5) = false := beq_eq_false_iff_ne.2 h5
          have HII : Aside0 (i < i') := ⟨by
            refine Classical.byContradiction fun hn => ?_
            have h1 : i' = i := by have := Hi2.out; omega
            subst h1
            exact h5 (HQ.out.symm.trans HWW.out)⟩
          have HE2 : Aside0 (i' = e) := ⟨by have h1 := HE.out.1; rw [blankE, if_neg (by rw [HQ.out]; exact h5)] at h1; exact h1⟩
          clear h5 HE
          go_wp2
          go_step3
          go_step
          go_step
          refine fall3 _ _ _ (scanJ_mk ?_) ?_
          · exact ⟨i', j, f, I', J, 2, acc, rfl, rfl, rfl, EI2', EJ, ⟨by have := HII.out; have := Hij.out; omega, Hi2.out.2⟩, Hf, Hacc, ⟨by rw [HE2.out]; exact HT2.out⟩, ⟨(by (with_reducible repeat (first | apply Kd.R_alloc | apply Kd.R_drewN | apply Kd.R_drew)); exact HC.out)⟩, ⟨(by (with_reducible repeat (first | apply Kd.R_alloc | apply Kd.R_drewN | apply Kd.R_drew)); exact HKK.out)⟩, ⟨(by (with_reducible repeat (first | apply Kd.R_alloc | apply Kd.R_drewN | apply Kd.R_drew)); exact HO.out)⟩, ⟨(by repeat (first | (with_reducible first | exact HB.out | apply below_alloc | apply pw_below_drewN | apply below_drew1) | exact HB.out))⟩⟩
          · have h1_ := EI2'.out; have h2_ := EI.out; have h3_ := HII.out; have h4_ := Hi2.out; simp [intOf]; omega
    case p3 =>
      refine scanJ_elim ?_
      intro wr v5 v6 v9 v10 v11 v12 U hF
      obtain ⟨e, j, f, E, J, t, acc, rfl, rfl, rfl, EE, EJ, Hje, Hf, Hacc, HT2, HC, HKK, HO, HB⟩ := hF
      clear HTb HT HGC HKG NT0 LT0 ES HRES HKE
      obtain ⟨A5, c5, e5⟩ := Kd.R_slice HC.out
      subst e5
      have hj : j < L.length := by have := Hje.out; omega
      have i0 : 0 ≤ J := by rw [EJ.out]; exact Int.natCast_nonneg _
      have i1 : J < (L.length : Int) := by rw [EJ.out]; exact Int.ofNat_lt.2 hj
      obtain ⟨⟨q0, q1, q2, q3, q4⟩, hC⟩ : ∃ C, rd_T75 L J = C := ⟨_, rfl⟩
      have HCC : Aside0 (rd_T75 L (j : Int) = ⟨q0, q1, q2, q3, q4⟩) := ⟨by rw [← EJ.out]; exact hC⟩
      obtain ⟨ad, e0, x0, x1, x2, x3, x4⟩ := at_T75 (Kd.R_reads' HC.out).2.2 J i0 i1
      cases e0
      rw [hC] at x0 x1 x2 x3 x4
      dsimp only at x0 x1 x2 x3 x4
      have hin := HIN.out j hj
      have hge := getCell L j hj
      rw [HCC.out] at hge
      rw [← hge] at hin
      dsimp only at hin
      have QI := Aside0.mk hin
      obtain ⟨B, hBs⟩ : ∃ x : Int, wrap64 (a1 + q0) = x := ⟨_, rfl⟩
      have hBsw : IntKind.i64.wrap (a1 + q0) = B := (i64_w _).trans hBs
      have EB : Aside0 (B = a1 + q0) := ⟨by have := HA0.out; have := HSZ.out; rw [← hBs, tkw _ (by omega) (by omega)]⟩
      replace i0 := eq_true i0
      replace i1 := eq_true i1
      have HJL := Aside0.mk hj
      have s0 : (0 ≤ q0) = True := eq_true hin.1
      have s0d : decide (0 ≤ q0) = true := decide_eq_true hin.1
      clear hC hin hge hj
      by_cases he : e < L.length
      · have c1 : decide (E < (L.length : Int)) = true := decide_eq_true (by rw [EE.out]; exact Int.ofNat_lt.2 he)
        have j0 : 0 ≤ E := by rw [EE.out]; exact Int.natCast_nonneg _
        have j1 : E < (L.length : Int) := by rw [EE.out]; exact Int.ofNat_lt.2 he
        obtain ⟨⟨p0, p1, p2, p3, p4⟩, hD⟩ : ∃ C, rd_T75 L E = C := ⟨_, rfl⟩
        have HD : Aside0 (rd_T75 L (e : Int) = ⟨p0, p1, p2, p3, p4⟩) := ⟨by rw [← EE.out]; exact hD⟩
        obtain ⟨ad3, e3, y0, y1, y2, y3, y4⟩ := at_T75 (Kd.R_reads' HC.out).2.2 E j0 j1
        cases e3
        rw [hD] at y0 y1 y2 y3 y4
        dsimp only at y0 y1 y2 y3 y4
        have hin2 := HIN.out e he
        have hinc := HINC.out j e HJL.out he Hje.out.1
        have hge := getCell L j HJL.out
        have hge2 := getCell L e he
        rw [HCC.out] at hge
        rw [HD.out] at hge2
        rw [← hge, ← hge2] at hinc
        rw [← hge2] at hin2
        dsimp only at hinc hin2
        obtain ⟨X, hX⟩ : ∃ X, a0.extract q0.toNat p0.toNat = X := ⟨_, rfl⟩
        have HT3 : Aside0 ((acc ++ [(⟨t, B, X⟩ : S51)]) ++ tokL a0 a1 L KK f e = r) := ⟨by
          rw [← HT2.out, List.append_assoc, List.singleton_append, ← hX, EB.out]
          unfold tok1 cellAt
          rw [if_pos he, HCC.out, HD.out]⟩
        have s1 : (q0 ≤ p0) = True := eq_true (Int.le_of_lt hinc)
        have s1d : decide (q0 ≤ p0) = true := decide_eq_true (Int.le_of_lt hinc)
        have s2 : (p0 ≤ (a0.size : Int)) = True := eq_true (Int.le_of_lt hin2.2)
        have s2d : decide (p0 ≤ (a0.size : Int)) = true := decide_eq_true (Int.le_of_lt hin2.2)
        replace j0 := eq_true j0
        replace j1 := eq_true j1
        clear hD he hin2 hinc hge hge2 HT2
        go_wp2_with ((with_reducible refine gate_builtin (b := .append) (xs := #[.tmp 144, .tmp 154]) rfl ?_); at_builtin; refine Kd.R_append k51 (w0 := w) w.heap.size rfl (.tmp 144) (.tmp 154) 44 51 (.agg #[(.int .i64 0), (.int .i64 0), (.string ⟨#[]⟩)]) 32 rfl Tryd.underlying44 infoTok rfl (by decide) (by omega) v9 acc (⟨t, B, X⟩ : S51) [.int .i64 t, .int .i64 B, .string X] (fun _ => True) (fun _ => False) rfl (by first | (go_simp; done) | (go_simp; rfl)) ?aP (fun _ hk => hk.elim) ?aF ?aO ?aB ?aS ?aL ?_; (case aP => exact k51_mkM _ _ _ (⟨t, B, X⟩ : S51)); (case aB => exact (by repeat (first | (with_reducible first | exact HB.out | apply below_alloc | apply pw_below_drewN | apply below_drew1) | exact HB.out))); (case aF => exact (fun _ _ => trivial)); (case aO => exact (by (with_reducible repeat (first | apply Kd.R_alloc | apply Kd.R_drewN | apply Kd.R_drew)); exact HO.out)); (case aS => exact (below_size (by repeat (first | (with_reducible first | exact HB.out | apply below_alloc | apply pw_below_drewN | apply below_drew1) | exact HB.out)))); (case aL => have := Hacc.out; have := HLs.out; have := Hje.out; omega); intro v19 w19 ho hb hg hat; have n0_ := Aside0.mk (Kd.R_over' (by (with_reducible repeat (first | apply Kd.R_alloc | apply Kd.R_drewN | apply Kd.R_drew)); exact HC.out) (Kd.R_typed (by (with_reducible repeat (first | apply Kd.R_alloc | apply Kd.R_drewN | apply Kd.R_drew)); exact HO.out)) (by decide) hg); have n1_ := Aside0.mk (Kd.R_over' (by (with_reducible repeat (first | apply Kd.R_alloc | apply Kd.R_drewN | apply Kd.R_drew)); exact HKK.out) (Kd.R_typed (by (with_reducible repeat (first | apply Kd.R_alloc | apply Kd.R_drewN | apply Kd.R_drew)); exact HO.out)) (by decide) hg); have n2_ := Aside0.mk hb; have n3_ := Aside0.mk ho; clear HC HKK HO HB; have HC := n0_; have HKK := n1_; have HB := n2_; have HO := n3_; clear n0_ n1_ n2_ n3_ ho hb hg hat)
        go_step3
        refine Or.inl ⟨rfl, scanJ_mk ?_, ?_⟩
        · exact ⟨e, f, E, acc ++ [(⟨t, B, X⟩ : S51)], rfl, EE, ⟨Hje.out.2⟩, ⟨by have := Hf.out; have := Hje.out; omega⟩, ⟨by rw [List.length_append]; have := Hacc.out; have := Hje.out; simp; omega⟩, HT3, ⟨(by (with_reducible repeat (first | apply Kd.R_alloc | apply Kd.R_drewN | apply Kd.R_drew)); exact HC.out)⟩, ⟨(by (with_reducible repeat (first | apply Kd.R_alloc | apply Kd.R_drewN | apply Kd.R_drew)); exact HKK.out)⟩, ⟨(by (with_reducible repeat (first | apply Kd.R_alloc | apply Kd.R_drewN | apply Kd.R_drew)); exact HO.out)⟩, ⟨(by repeat (first | (with_reducible first | exact HB.out | apply below_alloc | apply pw_below_drewN | apply below_drew1) | exact HB.out))⟩⟩
        · simp [intOf]
      · have c1 : decide (E < (L.length : Int)) = false := decide_eq_false (by rw [EE.out]; omega)
        obtain ⟨X, hX⟩ : ∃ X, a0.extract q0.toNat ((a0.size : Int)).toNat = X := ⟨_, rfl⟩
        have hX2 : a0.extract q0.toNat a0.size = X := hX
        have HT3 : Aside0 ((acc ++ [(⟨t, B, X⟩ : S51)]) ++ tokL a0 a1 L KK f e = r) := ⟨by
          rw [← HT2.out, List.append_assoc, List.singleton_append, ← hX, EB.out]
          unfold tok1 cellAt
          rw [if_neg he, HCC.out]⟩
        have s1 : (q0 ≤ (a0.size : Int)) = True := eq_true (Int.le_of_lt QI.out.2)
        have s1d : decide (q0 ≤ (a0.size : Int)) = true := decide_eq_true (Int.le_of_lt QI.out.2)
        clear he HT2
        go_wp2_with ((with_reducible refine gate_builtin (b := .append) (xs := #[.tmp 144, .tmp 154]) rfl ?_); at_builtin; refine Kd.R_append k51 (w0 := w) w.heap.size rfl (.tmp 144) (.tmp 154) 44 51 (.agg #[(.int .i64 0), (.int .i64 0), (.string ⟨#[]⟩)]) 32 rfl Tryd.underlying44 infoTok rfl (by decide) (by omega) v9 acc (⟨t, B, X⟩ : S51) [.int .i64 t, .int .i64 B, .string X] (fun _ => True) (fun _ => False) rfl (by first | (go_simp; done) | (go_simp; rfl)) ?aP (fun _ hk => hk.elim) ?aF ?aO ?aB ?aS ?aL ?_; (case aP => exact k51_mkM _ _ _ (⟨t, B, X⟩ : S51)); (case aB => exact (by repeat (first | (with_reducible first | exact HB.out | apply below_alloc | apply pw_below_drewN | apply below_drew1) | exact HB.out))); (case aF => exact (fun _ _ => trivial)); (case aO => exact (by (with_reducible repeat (first | apply Kd.R_alloc | apply Kd.R_drewN | apply Kd.R_drew)); exact HO.out)); (case aS => exact (below_size (by repeat (first | (with_reducible first | exact HB.out | apply below_alloc | apply pw_below_drewN | apply below_drew1) | exact HB.out)))); (case aL => have := Hacc.out; have := HLs.out; have := Hje.out; omega); intro v19 w19 ho hb hg hat; have n0_ := Aside0.mk (Kd.R_over' (by (with_reducible repeat (first | apply Kd.R_alloc | apply Kd.R_drewN | apply Kd.R_drew)); exact HC.out) (Kd.R_typed (by (with_reducible repeat (first | apply Kd.R_alloc | apply Kd.R_drewN | apply Kd.R_drew)); exact HO.out)) (by decide) hg); have n1_ := Aside0.mk (Kd.R_over' (by (with_reducible repeat (first | apply Kd.R_alloc | apply Kd.R_drewN | apply Kd.R_drew)); exact HKK.out) (Kd.R_typed (by (with_reducible repeat (first | apply Kd.R_alloc | apply Kd.R_drewN | apply Kd.R_drew)); exact HO.out)) (by decide) hg); have n2_ := Aside0.mk hb; have n3_ := Aside0.mk ho; clear HC HKK HO HB; have HC := n0_; have HKK := n1_; have HB := n2_; have HO := n3_; clear n0_ n1_ n2_ n3_ ho hb hg hat)
        go_step3
        refine Or.inl ⟨rfl, scanJ_mk ?_, ?_⟩
        · exact ⟨e, f, E, acc ++ [(⟨t, B, X⟩ : S51)], rfl, EE, ⟨Hje.out.2⟩, ⟨by have := Hf.out; have := Hje.out; omega⟩, ⟨by rw [List.length_append]; have := Hacc.out; have := Hje.out; simp; omega⟩, HT3, ⟨(by (with_reducible repeat (first | apply Kd.R_alloc | apply Kd.R_drewN | apply Kd.R_drew)); exact HC.out)⟩, ⟨(by (with_reducible repeat (first | apply Kd.R_alloc | apply Kd.R_drewN | apply Kd.R_drew)); exact HKK.out)⟩, ⟨(by (with_reducible repeat (first | apply Kd.R_alloc | apply Kd.R_drewN | apply Kd.R_drew)); exact HO.out)⟩, ⟨(by repeat (first | (with_reducible first | exact HB.out | apply below_alloc | apply pw_below_drewN | apply below_drew1) | exact HB.out))⟩⟩
        · simp [intOf]
  · rw [if_neg hs] at h
    cases h

end Go.Proofs.YtalogampkkjcdaaDoor.F
