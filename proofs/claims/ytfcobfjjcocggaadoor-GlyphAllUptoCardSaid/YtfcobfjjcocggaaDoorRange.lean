/-
  A range over glyph.All: the iterator's contract, and glyph.Place, which leaves it early.
-/
import Derived.RangeFuncNested
import Derived.RangeFuncBound
import Derived.RangeFuncCalls
import Derived.RangeFuncLeaves
import Derived.Shelf.Abstract
import Derived.Shelf.RegionOpen
import Derived.WalkKit
import Derived.OwnWalkIn
import Derived.TacticsInMore
import Derived.LoopNIn
import Derived.LoopIn
import Derived.Test.YtfcobfjjcocggaaDoorBuild
import Derived.Test.YtfcobfjjcocggaaDoorUtf
import Derived.Laws.World
namespace Go.Proofs.YtfcobfjjcocggaaDoor.Rg
open Go.RowKit Go.Shelf Go.Proofs
attribute [local go_sem] Oper.semAt_some
set_option linter.unusedVariables false
set_option linter.unusedSimpArgs false
/-- The places and runes from a place on. -/
def pairs (s : ByteArray) : Nat → Nat → List (Int × Int)
  | 0, _ => []
  | f + 1, i => if i < s.size then ((i : Int), ((Utf8.decode s i).1 : Int)) :: pairs s f (i + (Utf8.decode s i).2) else []
theorem pairs_end (s : ByteArray) (f i : Nat) (h : ¬ i < s.size) : pairs s f i = [] := by cases f <;> simp [pairs, h]
theorem pairs_step (s : ByteArray) (f i : Nat) (h : i < s.size) : pairs s (f + 1) i = ((i : Int), ((Utf8.decode s i).1 : Int)) :: pairs s f (i + (Utf8.decode s i).2) := by rw [pairs, if_pos h]
theorem pairs_len (s : ByteArray) : ∀ f i, (pairs s f i).length ≤ f
  | 0, _ => by simp [pairs]
  | f + 1, i => by
    have := pairs_len s f (i + (Utf8.decode s i).2)
    unfold pairs
    split
    · simp; omega
    · simp
abbrev encs (p : Int × Int) : Array Value := #[.int .i64 p.1, .int .i32 p.2]
theorem grown_iterAt (w : World) (k : Nat) (s : ByteArray) (p : Nat) : w.grownBy (w.iterAt k s p) (some k) := ⟨rfl, rfl, rfl, by rw [Lib.iterAt_size]; exact Nat.le_refl _, fun i _ hne => Lib.iterAt_other w k i s p (fun e => hne (by rw [e]))⟩
theorem cell_new_l (W : World) (v : Value) (t : TypeId) : (W.alloc (.cells #[v] t)).cell? ⟨W.heap.size, 0, none⟩ = some v ∧ (W.alloc (.cells #[v] t)).frozen? ⟨W.heap.size, 0, none⟩ = false := by simp
theorem cell_alloc_l {W : World} {a : Addr} {v : Value} (o : Obj) (h : W.cell? a = some v) : (W.alloc o).cell? a = some v := cell_kept h (World.grownBy_alloc W o none) (fun r e => by cases e)
theorem frozen_alloc_l {W : World} {a : Addr} {v : Value} (o : Obj) (h : W.cell? a = some v) (hf : W.frozen? a = false) : (W.alloc o).frozen? a = false := (frozen_kept h (World.grownBy_alloc W o none) (fun r e => by cases e)).trans hf
set_option maxHeartbeats 4000000 in
set_option maxRecDepth 100000 in
/-- The closure of All: it gives the pairs, one by one, to every body that lets the walks lie. -/
theorem all1_stops (F : Fence) (n : Nat) (h44 : F.fn 44) (hro : F.round = none) (hn : 1 ≤ n) (b : Nat) (s : ByteArray) (w : World) (hb : w.cell? ⟨b, 0, none⟩ = some (.string s)) :
    SeqStopsK F n Tryd.prog 44 #[.pointer (some ⟨b, 0, none⟩)] encs KeepsWalks (fun xs => xs = pairs s s.size 0) (fun pre => pre <+: pairs s s.size 0) (pairs s s.size 0).length w := fun l J Jx W hW hJ hJx hY h0 => by
  refine callsIn_of_wp Tryd.func44 rfl h44 ?_ hro
  simp only [Tryd.ntmps44, List.size_toArray, List.length_cons, List.length_nil, Nat.reduceAdd, Nat.reduceSub, Array.replicate_succ, Array.replicate_zero, List.push_toArray, List.append_toArray, List.nil_append, List.cons_append]
  have hb1 : W.cell? ⟨b, 0, none⟩ = some (.string s) := (hW.cell (World.block_lt_of_cell? w _ hb)).trans hb
  gi_wp2
  gi_loopw [3] (fun v wr => ∃ (pos fuel : Nat) (pre : List (Int × Int)), wr.heap[W.heap.size]? = some (.stringIter s pos) ∧ pre ++ pairs s fuel pos = pairs s s.size 0 ∧ s.size ≤ pos + fuel ∧ J pre wr) (fun _ wr => s.size - wr.iterPos W.heap.size)
  case atStart =>
    exact ⟨0, s.size, [], World.iter_heap _ _ _, rfl, by omega, hJ [] W _ none h0 (World.grownBy_alloc W _ none) (fun r e => by cases e)⟩
  case round =>
    obtain ⟨pos, fuel, pre, hit, hpre, hfu, hJp⟩ := hrel
    by_cases hp : pos < s.size
    · have hnx : ∀ ty, (Instr.next (.pointer (some ⟨W.heap.size, 0, none⟩)) true ty).run Tryd.prog wr = _ := fun ty => Lib.run_next_any_at wr W.heap.size s pos ty hit hp
      have hw1 := Utf.width_pos s pos hp
      have hw2 := Utf.width_le s pos hp
      obtain ⟨f, rfl⟩ : ∃ f, fuel = f + 1 := ⟨fuel - 1, by omega⟩
      rw [pairs_step s f pos hp] at hpre
      have hJ1 : J pre (wr.iterAt W.heap.size s (pos + (Utf8.decode s pos).2)) := hJ pre wr _ (some W.heap.size) hJp (grown_iterAt wr _ s _) (fun r e => by cases e; exact ⟨Nat.le_refl _, _, hit, rfl⟩)
      have hit1 := Lib.iterAt_heap wr W.heap.size s pos (pos + (Utf8.decode s pos).2) hit
      have hlen : pre.length < (pairs s s.size 0).length := by rw [← hpre]; simp
      obtain ⟨fn, tmps, assign, body, hy, hR⟩ := hY pre ((pos : Int), ((Utf8.decode s pos).1 : Int)) _ hJ1 hlen
      obtain ⟨K, hK⟩ : ∃ K, (Utf8.decode s pos).2 = K := ⟨_, rfl⟩
      obtain ⟨R, hRu⟩ : ∃ R : Int, ((Utf8.decode s pos).1 : Int) = R := ⟨_, rfl⟩
      simp only [hK, hRu] at hnx hpre hJ1 hit1 hy hR hw1 hw2
      obtain ⟨W1, hW1⟩ : ∃ W1, W1 = wr.iterAt W.heap.size s (pos + K) := ⟨_, rfl⟩
      rw [← hW1] at hnx hJ1 hit1 hy hR
      dsimp only [encs] at hy
      clear hK hRu hW1
      gi_wp2
      refine hR.mono ?_
      rintro e W3 (⟨rfl, hJ3, hk3⟩ | ⟨rfl, hJx3⟩)
      · have hit3 := hk3.same _ _ hit1 rfl
        gi_wp2
        go_roundw
        case rel => exact ⟨pos + K, f, pre ++ [((pos : Int), R)], hit3, by rw [List.append_assoc]; exact hpre, by omega, hJ3⟩
        case measure =>
          simp only [World.iterPos, hit3, hit]
          omega
      · gi_wp2
        refine bodyPost_ret (results_none rfl _ _ _) rfl ?_
        exact ⟨⟨_, rfl⟩, .inr ⟨pre ++ [((pos : Int), R)], ⟨pairs s f (pos + K), by rw [List.append_assoc]; exact hpre⟩, hJx3⟩⟩
    · have hnx : ∀ ty, (Instr.next (.pointer (some ⟨W.heap.size, 0, none⟩)) true ty).run Tryd.prog wr = _ := fun ty => Lib.run_next_end_at wr W.heap.size s pos ty hit hp
      rw [pairs_end s fuel pos hp, List.append_nil] at hpre
      gi_wp2
      go_end0
      exact ⟨⟨_, rfl⟩, .inl ⟨pre, hpre, hJp⟩⟩
set_option maxHeartbeats 1000000 in
set_option maxRecDepth 100000 in
theorem All_in (F : Fence) (n : Nat) (h23 : F.fn 23) (hro : F.round = none) (s : ByteArray) (w : World) :
    CallsIn F n Tryd.prog 23 #[.string s] w fun e w' => e = .returned (.func (.func 44) #[] #[.pointer (some ⟨w.heap.size, 0, none⟩)]) ∧ w' = w.alloc (.cells #[.string s] 9) := by
  refine callsIn_of_wp Tryd.func23 rfl h23 ?_ hro
  simp only [Tryd.ntmps23, List.size_toArray, List.length_cons, List.length_nil, Nat.reduceAdd, Nat.reduceSub, Array.replicate_succ, Array.replicate_zero, List.push_toArray, List.append_toArray, List.nil_append, List.cons_append]
  gi_wp2
  go_ret
  exact ⟨rfl, rfl⟩
/-- All places come before a place. -/
def AllLe (a : Int) (l : List (Int × Int)) : Prop := ∀ y ∈ l, y.1 ≤ a
/-- How many of the places come before one that is beyond. -/
def placeN (a : Int) (l : List (Int × Int)) : Nat := (l.takeWhile fun y => decide (y.1 ≤ a)).length
theorem placeN_all (a : Int) (l : List (Int × Int)) (h : AllLe a l) : placeN a l = l.length := by
  unfold placeN
  have := List.takeWhile_append_of_pos (p := fun y : Int × Int => decide (y.1 ≤ a)) (l₁ := l) (l₂ := []) (fun y hy => decide_eq_true (h y hy))
  rw [List.append_nil] at this
  rw [this]
  simp
theorem placeN_cut (a : Int) (l pre : List (Int × Int)) (x : Int × Int) (h : AllLe a pre) (hx : a < x.1) (hp : pre ++ [x] <+: l) : placeN a l = pre.length := by
  obtain ⟨r, rfl⟩ := hp
  unfold placeN
  rw [List.append_assoc, List.takeWhile_append_of_pos (fun y hy => decide_eq_true (h y hy)), List.singleton_append, List.takeWhile_cons_of_neg (by simpa using hx), List.append_nil]
set_option maxHeartbeats 4000000 in
set_option maxRecDepth 100000 in
theorem Place_in (F : Fence) (n : Nat) (h33 : F.fn 33) (h23 : F.fn 23) (h44 : F.fn 44) (hro : F.round = none) (hn : 3 ≤ n) (s : ByteArray) (a : Int) (hs : s.size ≤ 4294967296) (ha0 : 0 ≤ a) (ha1 : a < (s.size : Int)) (w : World) :
    CallsIn F n Tryd.prog 33 #[.string s, .int .i64 a] w fun e W' => e = .returned (.tuple #[.int .i64 ((placeN a (pairs s s.size 0) : Int) - 1), .int .i64 0]) ∧ Below w.heap.size w W' := by
  have h1 : 1 ≤ n := by omega
  have hpl := pairs_len s s.size 0
  refine callsIn_of_wp_marks Tryd.func33 rfl h33 ?_ hro
  simp only [Tryd.ntmps33, List.size_toArray, List.length_cons, List.length_nil, Nat.reduceAdd, Nat.reduceSub, Array.replicate_succ, Array.replicate_zero, List.push_toArray, List.append_toArray, List.nil_append, List.cons_append]
  have d0 : decide (a < 0) = false := decide_eq_false (by omega)
  have d1 : decide (a ≥ (s.size : Int)) = false := decide_eq_false (by omega)
  have d2 : decide ((s.size : Int) ≤ a) = false := decide_eq_false (by omega)
  gi_wp2_with (gi_at_call 23; refine (All_in F (n - 1) h23 hro _ _).mono ?_; rintro e w' ⟨rfl, rfl⟩)
  have c0 := cell_new_l w (.int .i64 a) 3
  have c1 := cell_new_l (w.alloc (.cells #[.int .i64 a] 3)) (.int .i64 (-1)) 3
  have c2 := cell_new_l ((w.alloc (.cells #[.int .i64 a] 3)).alloc (.cells #[.int .i64 (-1)] 3)) (.string s) 9
  simp only [World.size_alloc] at c1 c2
  have hB0 : Below w.heap.size w (((w.alloc (.cells #[.int .i64 a] 3)).alloc (.cells #[.int .i64 (-1)] 3)).alloc (.cells #[.string s] 9)) := (((Below.refl _ w).alloc (Nat.le_refl _) _).alloc (by simp) _).alloc (by simp; omega) _
  refine wpIn_rangeFunc_ownF hro h1 (gf := 44) (lb := #[.pointer (some ⟨w.heap.size + 1 + 1, 0, none⟩)]) rfl h44 (enters_of Tryd.func44 (by kernel_rfl) rfl)
    (all1_stops F (n - 1) h44 hro (by omega) (w.heap.size + 1 + 1) s _ c2.1) walksK_t walksK_b (Below.refl _ _) (fun _ => rfl)
    (fun pre W => (AllLe a pre ∧ W.cell? ⟨w.heap.size, 0, none⟩ = some (.int .i64 a) ∧ W.cell? ⟨w.heap.size + 1, 0, none⟩ = some (.int .i64 ((pre.length : Int) - 1)) ∧ W.frozen? ⟨w.heap.size + 1, 0, none⟩ = false) ∧ Below w.heap.size w W)
    (fun c pre W => (c = .exit 0 ∧ (∃ pre' x, pre = pre' ++ [x] ∧ AllLe a pre' ∧ a < x.1 ∧ W.cell? ⟨w.heap.size + 1, 0, none⟩ = some (.int .i64 ((pre'.length : Int) - 1)))) ∧ Below w.heap.size w W)
    (OwnFrom.and (Own.from (fun s A B row hs hg hr => ⟨hs.1, cell_kept hs.2.1 hg hr, cell_kept hs.2.2.1 hg hr, (frozen_kept hs.2.2.1 hg hr).trans hs.2.2.2⟩) _) (ownFrom_below (Nat.le_refl _) (by simp; omega)))
    (fun c => OwnFrom.and (Own.from (fun s A B row hs hg hr => by obtain ⟨hc, p', x, e1, e2, e3, e4⟩ := hs; exact ⟨hc, p', x, e1, e2, e3, cell_kept e4 hg hr⟩) _) (ownFrom_below (Nat.le_refl _) (by simp; omega)))
    ⟨⟨(fun y hy => absurd hy (by simp)), cell_alloc_l _ (cell_alloc_l _ c0.1), by simpa using cell_alloc_l _ c1.1, frozen_alloc_l _ c1.1 c1.2⟩, hB0⟩
    (fun x => { tmps := #[.string s, .int .i64 a, undef, .pointer (some ⟨w.heap.size, 0, none⟩), .int .i64 0, .int .i64 0, .pointer (some ⟨w.heap.size + 1, 0, none⟩), .int .i64 x.1, .int .i64 a, .bool false, .bool false, .int .i64 a, .string s, .int .i64 s.size, .bool false, .bool false, .string s, .func (.func 44) #[] #[.pointer (some ⟨w.heap.size + 1 + 1, 0, none⟩)], .int .i64 x.1, .int .i32 x.2, undef, undef, undef, undef, undef, undef], defers := [] }) ?assign ?body ?done ?stop
  case assign =>
    intro l x W K hK
    gi_wp2
    exact hK
  case body =>
    rintro l pre x W ⟨⟨hp, hca, hcn, hfn⟩, hB⟩ hlen
    have hw : wrap64 ((pre.length : Int) - 1 + 1) = (pre.length : Int) := by unfold wrap64; omega
    have hw2 : IntKind.i64.wrap ((pre.length : Int) - 1 + 1) = (pre.length : Int) := by rw [IntKind.wrap_i64]; omega
    by_cases hx : a < x.1
    · have e1 : decide (a < x.1) = true := decide_eq_true hx
      have e2 : decide (x.1 > a) = true := decide_eq_true hx
      gi_wp2
      exact ⟨KeepsOthers.refl _, ⟨rfl, pre, x, rfl, hp, hx, hcn⟩, hB⟩
    · have e1 : decide (a < x.1) = false := decide_eq_false hx
      have e2 : decide (x.1 > a) = false := decide_eq_false hx
      gi_wp2
      exact ⟨KeepsOthers.setCell _ _ _, (KeepsOthers.setCell _ _ _).walks, ⟨fun y hy => (List.mem_append.1 hy).elim (hp y) (fun e => by simp at e; subst e; omega), (World.cell?_setCell_other _ _ _ _ (by simp)).trans hca, by rw [World.cell?_setCell_same' _ _ _ (by rw [hcn]; rfl)]; simp, by rw [World.frozen?_setCell]; exact hfn⟩, hB.setCell (p := ⟨w.heap.size + 1, 0, none⟩) (by simp) _⟩
  case done =>
    rintro D ys W hD rfl ⟨⟨hp, hca, hcn, hfn⟩, hB⟩ hK
    gi_wp2
    refine ⟨by simp, .inl ⟨_, _, rfl, run_takeDeferred hK, ?_⟩⟩
    refine ⟨_, ?_, by rw [placeN_all a _ hp], hB.trans (belowK_b (w := w) (Nat.le_refl _) W D _ _ (by simp at hD; omega) hK rfl rfl)⟩
    simp [results, Tryd.f33, go_sem]
  case stop =>
    rintro D c pre W hD hpre ⟨⟨rfl, p', x, rfl, hp, hx, hcn⟩, hB⟩ hK
    gi_wp2
    refine ⟨by simp, .inl ⟨_, _, rfl, run_takeDeferred hK, ?_⟩⟩
    refine ⟨_, ?_, by rw [placeN_cut a _ p' x hp hx hpre], hB.trans (belowK_b (w := w) (Nat.le_refl _) W D _ _ (by simp at hD; omega) hK rfl rfl)⟩
    simp [results, Tryd.f33, go_sem]
end Go.Proofs.YtfcobfjjcocggaaDoor.Rg
