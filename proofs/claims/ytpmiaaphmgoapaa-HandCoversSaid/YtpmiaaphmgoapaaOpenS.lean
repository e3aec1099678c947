/-
  As Open, where the data's weights are known: every string and every slice inside an argument is no larger than what a run can reach.
-/
import Derived.Test.YtpmiaaphmgoapaaOpen
namespace Go.Proofs.Ytpmiaaphmgoapaa.Op
open Go.RowKit Go.ChangeShapes Go.WideShapes Go.Deep Go.Proofs.YtpmiaaphmgoapaaW.PrintWords
/-- A reading of type t whose weights a run can reach gives a value of kind d, good. -/
def OpensS (P : Program) {α : Type} (t : TypeId) (d : Kd α) (good : α → Prop) : Prop :=
  ∀ {H : Type} {enc : TypeId × Value → H} {w : World} {base : Nat} {spare : Nat → Bool} {held : Bool} {fuel : Nat} {cs : List Value} {x : DataW H × List MemPlace},
    DataW.trod enc P w base spare held fuel t cs = some x → (∀ n ∈ x.1.weights P t, n ≤ 140737488351232) → ∃ a : α, d.K w a cs ∧ good a
variable {P : Program}
theorem all_le {l : List Nat} (h : l.all (· ≤ reachBytes) = true) : ∀ n ∈ l, n ≤ 140737488351232 := fun n hn => of_decide_eq_true (List.all_eq_true.1 h n hn)
theorem weights_arg {H : Type} {ts : List TypeId} {ds : List (DataW H)} (h : (DataW.weightsEach P ts ds).all (· ≤ reachBytes) = true) {j : Nat} {t : TypeId} {d : DataW H} (ht : ts[j]? = some t) (hd : ds[j]? = some d) : ∀ n ∈ d.weights P t, n ≤ 140737488351232 :=
  fun n hn => all_le h n (DataW.weights_mem_each ht hd n hn)
theorem opensS_int {t : TypeId} {k : IntKind} (ht : P.underlying t = some (.int k)) : OpensS P t (Kd.int k) (fun n => (Lit.int k n).wf = true) := by
  intro H enc w base spare held fuel cs x h _
  obtain ⟨n, rfl, rfl, hw⟩ := DataW.trod_int ht h
  exact ⟨n, rfl, hw⟩
theorem opensS_bool {t : TypeId} (ht : P.underlying t = some .bool) : OpensS P t Kd.bool (fun _ => True) := by
  intro H enc w base spare held fuel cs x h _
  obtain ⟨n, rfl, rfl⟩ := DataW.trod_bool ht h
  exact ⟨n, rfl, trivial⟩
theorem opensS_string {t : TypeId} (ht : P.underlying t = some .string) : OpensS P t Kd.string (fun s => s.size ≤ 140737488351232) := by
  intro H enc w base spare held fuel cs x h hz
  obtain ⟨n, rfl, rfl, hw⟩ := DataW.trod_string ht h
  refine ⟨n, rfl, ?_⟩
  have := hz n.data.toList.length (by simp [DataW.weights])
  rw [Array.length_toList] at this
  exact this
theorem weights_all {H : Type} {e : TypeId} : ∀ {l : List (DataW H)} {d : DataW H}, d ∈ l → ∀ n ∈ d.weights P e, n ∈ DataW.weightsAll P e l
  | x :: l, d, hd, n, hn => by
    simp only [DataW.weightsAll, List.mem_append]
    rcases List.mem_cons.1 hd with rfl | hd
    · exact Or.inl hn
    · exact Or.inr (weights_all hd n hn)
  | [], _, hd, _, _ => by cases hd
theorem opensS_slice {α : Type} {t e : TypeId} {d : Kd α} {good : α → Prop} (ht : P.underlying t = some (.slice e)) (hc : P.cellsOf e = d.sz) {B : Nat} (hB : P.bytesOf e = B) (h : OpensS P e d good) :
    OpensS P t (Kd.slice e d) (fun l => (∀ x ∈ l, good x) ∧ l.length * B ≤ 140737488351232) := by
  intro H enc w base spare held fuel cs x hx hz
  rcases open_slice ht hx with ⟨rfl, rfl⟩ | ⟨a, len, cap, m, n, D, Pl, rfl, hb, hl, hm, hmm, rfl, hi⟩
  · exact ⟨[], ⟨none, 0, rfl, Nat.le_refl _, rfl, Nat.zero_le _, fun h0 => absurd h0 (Nat.lt_irrefl _)⟩, ⟨fun _ hx => absurd hx (List.not_mem_nil), by simp⟩⟩
  · have hlm : len ≤ m := by rw [hmm]; split <;> omega
    have hz1 : (len + (m - len)) * B ≤ 140737488351232 := hz _ (by simp [DataW.weights, ht, hB])
    have hz2 : ∀ j, j < len → ∀ q ∈ (D j).weights P e, q ≤ 140737488351232 := fun j hj q hq => hz q (by
      simp only [DataW.weights, ht]
      refine List.mem_cons_of_mem _ (List.mem_append_left _ (weights_all ?_ q hq))
      exact List.mem_map.2 ⟨j, List.mem_range.2 hj, rfl⟩)
    have key : ∀ j, j ≤ len → ∃ l : List α, l.length = j ∧ (∀ i p, l[i]? = some p → ∃ c, w.cells? base (a.add (i * P.cellsOf e)) (P.cellsOf e) = some c ∧ d.K w p c) ∧ (∀ x ∈ l, good x) := by
      intro j
      induction j with
      | zero => intro _; exact ⟨[], rfl, fun i p hp => by simp at hp, fun _ hx => absurd hx (List.not_mem_nil)⟩
      | succ j ih =>
        intro hj
        obtain ⟨l, hll, h1, h2⟩ := ih (by omega)
        obtain ⟨cs', hcs, htr⟩ := hi j (by omega)
        obtain ⟨p, hK, hg⟩ := h htr (hz2 j (by omega))
        refine ⟨l ++ [p], by simp [hll], fun i q hq => ?_, fun x hx => ?_⟩
        · rcases Nat.lt_trichotomy i l.length with hlt | heq | hgt
          · rw [List.getElem?_append_left hlt] at hq
            exact h1 i q hq
          · subst heq
            simp at hq
            subst hq
            rw [hll]
            exact ⟨cs', hcs, hK⟩
          · rw [List.getElem?_eq_none (by simp; omega)] at hq
            cases hq
        · rcases List.mem_append.1 hx with hx | hx
          · exact h2 x hx
          · rw [List.mem_singleton.1 hx]; exact hg
    obtain ⟨l, hll, h1, h2⟩ := key len (Nat.le_refl _)
    refine ⟨l, ⟨some a, cap, by rw [hll], by omega, rfl, by rw [hll]; unfold maxLen at hm; omega, fun _ => ⟨a, rfl, fun j p hp => ?_⟩⟩, ⟨h2, by rw [hll]; exact Nat.le_trans (Nat.mul_le_mul_right _ (Nat.le_add_right _ _)) hz1⟩⟩
    obtain ⟨c, hcc, hK⟩ := h1 j p hp
    obtain ⟨_, hcl, hat⟩ := World.cells?_some hcc
    refine ⟨c, by rw [hcl, hc], hK, fun i u hu => ?_⟩
    have hil : i < P.cellsOf e := by
      rw [← hcl]
      exact (List.getElem?_eq_some_iff.1 hu).1
    rw [← hc, ← Go.Deep.add_add, hat i hil, hu]
/-- A field's weights are the struct's. -/
theorem weights_field {H : Type} {t : TypeId} {fs : Array Field} {x : DataW H × List MemPlace} {ys : List (DataW H × List MemPlace)} (he : P.underlying t = some (.struct fs)) (hx : x.1 = .agg (ys.map (·.1))) (hz : ∀ n ∈ x.1.weights P t, n ≤ 140737488351232)
    {j : Nat} {f : Field} {y : DataW H × List MemPlace} (hj : fs[j]? = some f) (hy : ys[j]? = some y) : ∀ n ∈ y.1.weights P f.type, n ≤ 140737488351232 := fun n hn => hz n (by
  rw [hx]
  simp only [DataW.weights, he]
  refine DataW.weights_mem_each (j := j) (t := f.type) (d := y.1) ?_ ?_ n hn
  · rw [List.getElem?_map, Array.getElem?_toList, hj]; rfl
  · rw [List.getElem?_map, hy]; rfl)
end Go.Proofs.Ytpmiaaphmgoapaa.Op
