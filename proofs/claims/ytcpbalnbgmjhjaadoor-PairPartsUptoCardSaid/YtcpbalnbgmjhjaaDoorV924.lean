import Derived.Test.YtcpbalnbgmjhjaaDoorV3E
import Derived.Test.YtcpbalnbgmjhjaaDoorV317
import Derived.Test.YtcpbalnbgmjhjaaDoorV918
import Derived.Test.YtcpbalnbgmjhjaaDoorV923
import Derived.Test.YtcpbalnbgmjhjaaDoorV312
/-
  PairParts: lists put behind others cost no more than both by themselves.
-/
namespace Go.Proofs.YtcpbalnbgmjhjaaDoor.Pure
open Go.RowKit Go.Proofs.YtcpbalnbgmjhjaaDoor.G Go.Proofs.YtcpbalnbgmjhjaaDoorW.PrintWords Go.Proofs.YtcpbalnbgmjhjaaDoorW.PrintLast Go.Proofs.YtcpbalnbgmjhjaaDoorW.PrintMore
theorem dL_skipr {α : Type} (w : α → α → Int) (gap : Int) (X : List α) (y : α) (Y : List α) : dL w gap X (y :: Y) ≤ dL w gap X Y + gap := by
  cases X with
  | nil => rw [dL_nil, dL_nil, List.length_cons, succ_mul_gap]; omega
  | cons x xs => rw [dL_cons]; omega
theorem dL_skipl {α : Type} (w : α → α → Int) (gap : Int) (x : α) (X Y : List α) : dL w gap (x :: X) Y ≤ dL w gap X Y + gap := by
  cases Y with
  | nil => rw [dL_nil', dL_nil', List.length_cons, succ_mul_gap]; omega
  | cons y ys => rw [dL_cons]; omega
theorem dL_parts {α : Type} (w : α → α → Int) (gap : Int) (C D : List α) : ∀ A B, dL w gap (A ++ C) (B ++ D) ≤ dL w gap A B + dL w gap C D := by
  refine two_ind (fun ys => ?_) (fun x xs => ?_) (fun x xs y ys h1 h2 h3 => ?_)
  · rw [dL_nil, List.nil_append]
    induction ys with
    | nil => simp
    | cons y ys ih =>
      have := dL_skipr w gap C y (ys ++ D)
      rw [List.length_cons, succ_mul_gap, List.cons_append]
      omega
  · rw [dL_nil', List.nil_append]
    generalize x :: xs = l
    induction l with
    | nil => simp
    | cons y ys ih =>
      have := dL_skipl w gap y (ys ++ C) D
      rw [List.length_cons, succ_mul_gap, List.cons_append]
      omega
  · rw [List.cons_append, List.cons_append] at *
    rw [dL_cons w gap x y (xs ++ C) (ys ++ D), dL_cons w gap x y xs ys]
    omega
theorem small_app {X Y : List ByteArray} (h : smallL X) (k : smallL Y) : smallL (X ++ Y) := fun s hs => (List.mem_append.1 hs).elim (h s) (k s)
theorem long_app {X Y : List ByteArray} {o : Int} (h : ¬ longL X o) (k : ¬ longL Y o) (hl : X.length + Y.length ≤ 1024) : ¬ longL (X ++ Y) o := by
  unfold longL at *
  rw [List.length_append, List.any_append]
  intro e
  rcases e with e | e
  · omega
  · rw [Bool.or_eq_true] at e
    exact e.elim (fun z => h (.inr z)) (fun z => k (.inr z))
theorem grid_parts {A B C D : List ByteArray} {g n f o : Int} (h1 : (gridR A B g n f o).2 = 0) (h2 : (gridR C D g n f o).2 = 0) (l1 : A.length + C.length ≤ 1024) (l2 : B.length + D.length ≤ 1024) : (gridR (A ++ C) (B ++ D) g n f o).2 = 0 := by
  unfold gridR at h1 h2 ⊢
  by_cases hs : scaleOk g n f o
  · rw [if_pos hs] at h1 h2 ⊢
    by_cases hl : longL A o ∨ longL B o
    · rw [if_pos hl] at h1; cases h1
    · by_cases hk : longL C o ∨ longL D o
      · rw [if_pos hk] at h2; cases h2
      · rw [if_neg (fun e => e.elim (long_app (fun z => hl (.inl z)) (fun z => hk (.inl z)) l1) (long_app (fun z => hl (.inr z)) (fun z => hk (.inr z)) l2))]
  · rw [if_neg hs] at h1; cases h1
theorem align_ok {X Y : List ByteArray} {g n f o : Int} (h : (gridR X Y g n f o).2 = 0) : alignR X Y g n f o = (pL (wO n f o) g X Y 0 0, dL (wO n f o) g X Y, 0) := by unfold alignR; rw [if_pos h]
theorem align_err {X Y : List ByteArray} {g n f o : Int} (h : ¬ (gridR X Y g n f o).2 = 0) : (alignR X Y g n f o).2.2 ≠ 0 := by unfold alignR; rw [if_neg h]; exact h
theorem PairPartsP (A B C D : List ByteArray) (g n f o : Int) (hA : smallL A) (hB : smallL B) (hC : smallL C) (hD : smallL D) (lA : A.length ≤ 1048576) (lB : B.length ≤ 1048576) (lC : C.length ≤ 1048576) (lD : D.length ≤ 1048576) : ∃ k, siglumlaw10_PairParts.f k A B C D g n f o = some true := by
  have triv : Ev (fun k => siglumlaw10_PairParts.j0 k A B C D true g n f o) true := Ev.step (f := fun _ => some true) (fun k => by rw [siglumlaw10_PairParts.j0, if_pos rfl]) (Ev.now _)
  have main : A.length + C.length ≤ 1024 → B.length + D.length ≤ 1024 → Ev (fun k => siglumlaw10_PairParts.j0 k A B C D false g n f o) true := fun l1 l2 => by
    refine Ev.step (f := fun k => (siglumref09_Light.f k (A ++ C) (B ++ D)).bind fun t => if t = true then (pair_Align.f k A B g n f o).bind fun p => (pair_Align.f k C D g n f o).bind fun q => if p.2.2 = 0 then (if q.2.2 = 0 then (pair_Align.f k (A ++ C) (B ++ D) g n f o).bind fun r => if r.2.2 = 0 then some (decide (r.2.1 ≤ wrap64 (p.2.1 + q.2.1))) else some false else some true) else some true else some true) (fun k => by
      rw [siglumlaw10_PairParts.j0, if_neg (by decide), if_pos (by rw [List.length_nil]; omega), Option.bind_some, if_pos (by rw [List.nil_append]; omega), Option.bind_some, if_pos (by rw [List.length_nil]; omega), Option.bind_some, if_pos (by rw [List.nil_append]; omega), Option.bind_some, List.nil_append, List.nil_append]) ?_
    obtain ⟨r, hr⟩ := light_any (A ++ C) (B ++ D) (small_app hA hC) (small_app hB hD)
    refine ev_bind hr ?_
    cases r with
    | false => exact Ev.congr (fun k => by rw [if_neg (by decide)]) (Ev.now _)
    | true =>
      refine Ev.congr (fun k => by rw [if_pos rfl]) (ev_bind (align_eq A B hA hB g n f o) (ev_bind (align_eq C D hC hD g n f o) ?_))
      by_cases h1 : (gridR A B g n f o).2 = 0
      · by_cases h2 : (gridR C D g n f o).2 = 0
        · have h3 := grid_parts h1 h2 l1 l2
          obtain ⟨_, hs, m1, m2⟩ := gridR_ok h1
          obtain ⟨_, _, m3, m4⟩ := gridR_ok h2
          unfold scaleOk at hs
          have hw : ∀ x y, 0 ≤ wO n f o x y := fun x y => (wO_range n f o hs.2.1.1 hs.2.2.1 x y).1
          have r1 := dR_range (wO n f o) g (by omega) hw A B m1 m2 0 0
          have r2 := dR_range (wO n f o) g (by omega) hw C D m3 m4 0 0
          unfold dR at r1 r2
          rw [List.drop_zero, List.drop_zero] at r1 r2
          rw [align_ok h1, align_ok h2]
          refine Ev.congr (fun k => by rw [if_pos rfl, if_pos rfl]) (ev_bind (align_eq (A ++ C) (B ++ D) (small_app hA hC) (small_app hB hD) g n f o) ?_)
          rw [align_ok h3]
          refine Ev.congr (f := fun _ => some true) (fun k => ?_) (Ev.now _)
          rw [if_pos rfl]
          dsimp only
          rw [ws _ (by omega) (by omega), decide_eq_true (dL_parts (wO n f o) g C D A B)]
        · exact Ev.congr (fun k => by rw [align_ok h1, if_pos rfl, if_neg (align_err h2)]) (Ev.now _)
      · exact Ev.congr (fun k => by rw [if_neg (align_err h1)]) (Ev.now _)
  refine Ev.rounds (ev_bind (f := fun k t => if t = true then (if (wrap64 ((A.length : Int) + (C.length : Int))) > 1024 then siglumlaw10_PairParts.j0 k A B C D true g n f o else siglumlaw10_PairParts.j0 k A B C D (decide ((wrap64 ((B.length : Int) + (D.length : Int))) > 1024)) g n f o) else some false) awake10 (Ev.congr (fun k => by rw [if_pos rfl]) ?_))
  rw [ws _ (by omega) (by omega), ws _ (by omega) (by omega)]
  by_cases h1 : ((A.length : Int) + (C.length : Int)) > 1024
  · exact Ev.congr (fun k => by rw [if_pos h1]) triv
  · refine Ev.congr (fun k => by rw [if_neg h1]) ?_
    by_cases h2 : ((B.length : Int) + (D.length : Int)) > 1024
    · rw [decide_eq_true h2]; exact triv
    · rw [decide_eq_false h2]; exact main (by omega) (by omega)
theorem sumLen (L : List ByteArray) : L.length ≤ (L.map fun y => (y.size + 1)).sum := by
  induction L with
  | nil => exact Nat.zero_le _
  | cons y L ih => rw [List.map_cons, List.sum_cons, List.length_cons]; omega
theorem PairParts (A B C D : List ByteArray) (g n f o : Int) (_ : ((∀ y ∈ A, (y.size ≤ maxLen)) ∧ A.length ≤ maxLen) ∧ ((∀ y ∈ B, (y.size ≤ maxLen)) ∧ B.length ≤ maxLen) ∧ ((∀ y ∈ C, (y.size ≤ maxLen)) ∧ C.length ≤ maxLen) ∧ ((∀ y ∈ D, (y.size ≤ maxLen)) ∧ D.length ≤ maxLen) ∧ (((Lit.int .i64 g).wf = true) ∧ ((Lit.int .i64 n).wf = true) ∧ ((Lit.int .i64 f).wf = true) ∧ ((Lit.int .i64 o).wf = true))) (hb : (((A.map fun y => (y.size + 1)).sum + 1) + ((B.map fun y => (y.size + 1)).sum + 1) + ((C.map fun y => (y.size + 1)).sum + 1) + ((D.map fun y => (y.size + 1)).sum + 1) + (1 + 1 + 1 + 1 + 1) + 1) ≤ 1048576) : ∃ k, siglumlaw10_PairParts.f k A B C D g n f o = some true := by
  have a1 := sumLen A
  have a2 := sumLen B
  have a3 := sumLen C
  have a4 := sumLen D
  exact PairPartsP A B C D g n f o (smallSum A (by omega)) (smallSum B (by omega)) (smallSum C (by omega)) (smallSum D (by omega)) (by omega) (by omega) (by omega) (by omega)
end Go.Proofs.YtcpbalnbgmjhjaaDoor.Pure
