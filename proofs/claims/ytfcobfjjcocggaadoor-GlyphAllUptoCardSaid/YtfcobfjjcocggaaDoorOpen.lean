/-
  How an argument's reading as data gives the kinds that the print speaks of: integers, bools, strings, slices, structs of one-cell fields; and that the bulk of what is read is no more than the data's bulk.
-/
import Derived.Test.YtfcobfjjcocggaaDoorRows
import Derived.Test.YtfcobfjjcocggaaDoorWWords
import Derived.ProofKit
import Derived.Deep.Slices
import Derived.Deep.Fields
import Derived.ChangeSame
import Derived.SizedLaws
namespace Go.Proofs.YtfcobfjjcocggaaDoor.Op
open Go.RowKit Go.ChangeShapes Go.WideShapes Go.Deep Go.Proofs.YtfcobfjjcocggaaDoorW.PrintWords

theorem bulk_pos {H : Type} (d : DataW H) : 1 ≤ Rows.uptoBulk d := by
  cases d with
  | lit l => cases l <;> simp [Rows.uptoBulk]
  | nil => simp [Rows.uptoBulk]
  | ptr d => simp [Rows.uptoBulk]
  | slice elems spare => simp [Rows.uptoBulk]
  | agg parts => simp [Rows.uptoBulk]
  | iface t d => simp [Rows.uptoBulk]
  | map entries => simp [Rows.uptoBulk]
  | held h => simp [Rows.uptoBulk]
theorem bulk_append {H : Type} (l r : List (DataW H)) : Rows.uptoBulkAll (l ++ r) = Rows.uptoBulkAll l + Rows.uptoBulkAll r := by
  induction l with
  | nil => simp [Rows.uptoBulkAll]
  | cons x l ih => simp only [List.cons_append, Rows.uptoBulkAll, ih]; omega
theorem bulk_bound {H : Type} {l : List (DataW H)} (hk : Rows.uptoSmall H l = true) : Rows.uptoBulkAll l ≤ 1048576 := of_decide_eq_true hk

/-- A reading of type t gives a value of kind d, good, of no more bulk. -/
def Opens (P : Program) {α : Type} (t : TypeId) (d : Kd α) (good : α → Prop) (bulk : α → Nat) : Prop :=
  ∀ {H : Type} {enc : TypeId × Value → H} {w : World} {base : Nat} {spare : Nat → Bool} {held : Bool} {fuel : Nat} {cs : List Value} {x : DataW H × List MemPlace},
    DataW.trod enc P w base spare held fuel t cs = some x → ∃ a : α, d.K w a cs ∧ good a ∧ bulk a ≤ Rows.uptoBulk x.1

variable {P : Program}
theorem opens_int {t : TypeId} {k : IntKind} (ht : P.underlying t = some (.int k)) : Opens P t (Kd.int k) (fun n => (Lit.int k n).wf = true) (fun _ => 1) := by
  intro H enc w base spare held fuel cs x h
  obtain ⟨n, rfl, rfl, hw⟩ := DataW.trod_int ht h
  exact ⟨n, rfl, hw, bulk_pos _⟩
theorem opens_bool {t : TypeId} (ht : P.underlying t = some .bool) : Opens P t Kd.bool (fun _ => True) (fun _ => 1) := by
  intro H enc w base spare held fuel cs x h
  obtain ⟨n, rfl, rfl⟩ := DataW.trod_bool ht h
  exact ⟨n, rfl, trivial, bulk_pos _⟩
theorem opens_string {t : TypeId} (ht : P.underlying t = some .string) : Opens P t Kd.string (fun s => s.size ≤ maxLen) (fun s => s.size + 1) := by
  intro H enc w base spare held fuel cs x h
  obtain ⟨n, rfl, rfl, hw⟩ := DataW.trod_string ht h
  refine ⟨n, rfl, hw, ?_⟩
  simp [Rows.uptoBulk]
theorem opens_slice {α : Type} {t e : TypeId} {d : Kd α} {good : α → Prop} {bulk : α → Nat} (ht : P.underlying t = some (.slice e)) (hc : P.cellsOf e = d.sz) (h : Opens P e d good bulk) :
    Opens P t (Kd.slice e d) (fun l => (∀ x ∈ l, good x) ∧ l.length ≤ maxLen) (fun l => (l.map bulk).sum + 1) := by
  intro H enc w base spare held fuel cs x hx
  rcases open_slice ht hx with ⟨rfl, rfl⟩ | ⟨a, len, cap, m, n, D, Pl, rfl, hb, hl, hm, hmm, rfl, hi⟩
  · exact ⟨[], ⟨none, 0, rfl, Nat.le_refl _, rfl, Nat.zero_le _, fun h0 => absurd h0 (Nat.lt_irrefl _)⟩, ⟨fun _ hx => absurd hx (List.not_mem_nil), Nat.zero_le _⟩, bulk_pos _⟩
  · have hlm : len ≤ m := by rw [hmm]; split <;> omega
    have key : ∀ j, j ≤ len → ∃ l : List α, l.length = j ∧ (∀ i p, l[i]? = some p → ∃ c, w.cells? base (a.add (i * P.cellsOf e)) (P.cellsOf e) = some c ∧ d.K w p c) ∧ (∀ x ∈ l, good x) ∧ (l.map bulk).sum ≤ Rows.uptoBulkAll ((List.range j).map D) := by
      intro j
      induction j with
      | zero => intro _; exact ⟨[], rfl, fun i p hp => by simp at hp, fun _ hx => absurd hx (List.not_mem_nil), by simp⟩
      | succ j ih =>
        intro hj
        obtain ⟨l, hll, h1, h2, h3⟩ := ih (by omega)
        obtain ⟨cs', hcs, htr⟩ := hi j (by omega)
        obtain ⟨p, hK, hg, hbk⟩ := h htr
        refine ⟨l ++ [p], by simp [hll], fun i q hq => ?_, fun x hx => ?_, ?_⟩
        · rcases Nat.lt_trichotomy i l.length with hlt | heq | hgt
          · rw [List.getElem?_append_left hlt] at hq
            exact h1 i q hq
          · subst heq
            simp at hq
            subst hq
            rw [hll]
            exact ⟨cs', hcs, hK⟩
          · rw [List.getElem?_eq_none (by simp; omega)] at hq
            cases hq
        · rcases List.mem_append.1 hx with hx | hx
          · exact h2 x hx
          · rw [List.mem_singleton.1 hx]; exact hg
        · rw [List.map_append, List.sum_append, List.range_succ, List.map_append, bulk_append]
          simp only [List.map_cons, List.map_nil, List.sum_cons, List.sum_nil, Rows.uptoBulkAll]
          have hbk' : bulk p ≤ Rows.uptoBulk (D j) := hbk
          omega
    obtain ⟨l, hll, h1, h2, h3⟩ := key len (Nat.le_refl _)
    refine ⟨l, ⟨some a, cap, by rw [hll], by omega, rfl, by rw [hll]; unfold maxLen at hm; omega, fun _ => ⟨a, rfl, fun j p hp => ?_⟩⟩, ⟨h2, by rw [hll]; omega⟩, ?_⟩
    · obtain ⟨c, hcc, hK⟩ := h1 j p hp
      obtain ⟨_, hcl, hat⟩ := World.cells?_some hcc
      refine ⟨c, by rw [hcl, hc], hK, fun i u hu => ?_⟩
      have hil : i < P.cellsOf e := by
        rw [← hcl]
        exact (List.getElem?_eq_some_iff.1 hu).1
      rw [← hc, ← Go.Deep.add_add, hat i hil, hu]
    · show (l.map bulk).sum + 1 ≤ Rows.uptoBulkAll ((List.range len).map D) + Rows.uptoBulkAll _ + 1
      omega
/-- A slice is no longer than its weight allows. -/
theorem sized_len {H : Type} {enc : TypeId × Value → H} {W : World} {base : Nat} {spare : Nat → Bool} {held : Bool} {t e : TypeId} {a : Option Addr} {len cap fuel : Nat} {d : DataW H} {ps : List MemPlace} {ts : List TypeId} {ds : List (DataW H)} {j : Nat}
    (hsz : (DataW.weightsEach P ts ds).all (· ≤ reachBytes) = true) (ht : ts[j]? = some t) (hd : ds[j]? = some d) (hu : P.underlying t = some (.slice e)) {B : Nat} (hB : P.bytesOf e = B)
    (h : DataW.trod enc P W base spare held fuel t [.slice a len cap] = some (d, ps)) : len * B ≤ 140737488351232 := by
  rcases open_slice hu h with ⟨hcs, _⟩ | ⟨a', len', cap', m, n, D, Pl, hcs, _, _, _, _, hx, _⟩
  · simp at hcs
    obtain ⟨rfl, rfl, rfl⟩ := hcs
    simp
  · simp at hcs
    obtain ⟨rfl, rfl, rfl⟩ := hcs
    obtain ⟨rfl, _⟩ := Prod.mk.inj hx
    have z := sized_slice hsz ht hd hu
    rw [hB, List.length_map, List.length_range] at z
    exact Nat.le_trans (Nat.mul_le_mul_right _ (Nat.le_add_right _ _)) z
/-- A struct of one-cell fields. -/
theorem open_fields {H : Type} {enc : TypeId × Value → H} {w : World} {base : Nat} {spare : Nat → Bool} {held : Bool} {t : TypeId} {fs : Array Field} {fuel : Nat} {cs : List Value} {x : DataW H × List MemPlace} (he : P.underlying t = some (.struct fs))
    (hone : oneCellFields P fs = true) (hC : P.cellsOf t = fs.size) (h : DataW.trod enc P w base spare held fuel t cs = some x) :
    ∃ (ys : List (DataW H × List MemPlace)) (n : Nat), x.1 = .agg (ys.map (·.1)) ∧ ys.length = fs.size ∧ cs.length = fs.size ∧
      ∀ (j : Nat) (f : Field), fs[j]? = some f → ∃ (v : Value) (y : DataW H × List MemPlace), cs[j]? = some v ∧ ys[j]? = some y ∧ DataW.trod enc P w base spare held n f.type [v] = some y := by
  obtain ⟨ys, n', hn', hy, hlen, hyl, hf⟩ := DataW.trod_struct he h
  refine ⟨ys, n', by rw [hy], hyl, by rw [hlen, hC], fun j f hj => ?_⟩
  obtain ⟨ho, hk⟩ := hone_of hone j f hj
  have hjl : j < fs.size := (Array.getElem?_eq_some_iff.1 hj).1
  have hcl : j < cs.length := by rw [hlen, hC]; exact hjl
  have h1 := hf j f hj
  rw [ho, hk] at h1
  have hone' : (cs.drop j).take 1 = [cs[j]] := by
    rw [List.drop_eq_getElem_cons hcl]
    rfl
  rw [hone'] at h1
  have hys : ys[j]? = some (ys[j]'(by omega)) := List.getElem?_eq_getElem (by omega)
  exact ⟨_, _, List.getElem?_eq_getElem hcl, hys, h1.trans hys⟩
end Go.Proofs.YtfcobfjjcocggaaDoor.Op
