/-
  The builtin copy of a whole row of numbers over another of the same length: the row reads as the one that was copied.
-/
import Derived.Laws.CopyOwn
import Derived.Test.YtfcobfjjcocggaaDoorWWords
namespace Go.Proofs.YtfcobfjjcocggaaDoor.Cp
open Go Go.RowKit Go.Proofs.YtfcobfjjcocggaaDoorW.PrintWords
set_option linter.unusedVariables false

theorem own_setRow {w : World} {base e g n cap : Nat} {xs ys : List Value} (h : w.ownsRow base e 1 (.slice (some ⟨g, 0, none⟩) n cap) n xs) (hl : ys.length = n) :
    ∃ cur : Array Value, w.heap[g]? = some (.cells cur e (0, 0)) ∧ n ≤ cur.size ∧
      (w.setRow g (cur.toList.take 0 ++ (ys ++ cur.toList.drop (0 + ys.length))).toArray).ownsRow base e 1 (.slice (some ⟨g, 0, none⟩) n cap) n ys ∧
      w.grownBy (w.setRow g (cur.toList.take 0 ++ (ys ++ cur.toList.drop (0 + ys.length))).toArray) (some g) := by
  rcases h.2 with ⟨h', _⟩ | ⟨g', cap', cur, h', hb, hg, hnc, hcm, hcs, htake⟩
  · simp at h'
  · simp only [Value.slice.injEq, Option.some.injEq, Addr.mk.injEq, and_true, true_and] at h'
    obtain ⟨rfl, rfl⟩ := h'
    refine ⟨cur, hg, by omega, ⟨by simpa using hl, .inr ⟨g, cap, _, rfl, hb, setRow_heap w g _ _ e _ hg, hnc, hcm, by simp; omega, ?_⟩⟩, ⟨rfl, rfl, rfl, by simp [World.setRow], fun k _ hk => setRow_other w g k _ (fun e => hk (by simp [e]))⟩⟩
    simp [hl]
/-- A row that begins at a block's head: the block is there. -/
theorem R_headAt {α : Type} {d : Kd α} {e base g n c : Nat} {w : World} {ok : Nat → Prop} {xs : List α} (h : d.R e w base ok (.slice (some ⟨g, 0, none⟩) n c) xs) : ∃ cl, w.heap[g]? = some (.cells cl e (0, 0)) := by
  obtain ⟨inner, ho⟩ := Kd.R_own h
  exact own_typed ho g rfl
theorem copy_all {P : Program} {W : World} {ops : Array Oper} {rest : List Oper} {o : Oper} {a : Act} {Q : Exit → Act → World → Prop} {k : IntKind} {base g n m cap sCap : Nat} {e : TypeId} {ok : Nat → Prop} {xs ys : List Int} {A : Option Addr} {w0 : World} {L : Int}
    (hgd : o.guard = none) (d s : Operand) (dT sT : TypeId) (ho : o.op = .call { callee := .builtin .copy, args := #[d, s], argTypes := #[dT, sT] }) (hu : P.underlying dT = some (.slice e)) (hsz : (P.info? e).map (·.size) = some 1)
    (hd : a.eval d = .slice (some ⟨g, 0, none⟩) n cap) (hs : a.eval s = .slice A m sCap)
    (hR : (Kd.int k).R e W base ok (.slice (some ⟨g, 0, none⟩) n cap) xs) (hC : (Kd.int k).C W A m ys) (hn : 0 < n) (hmn : m = n) (hL : L = (n : Int)) (HB : Below base w0 W) (hbase : base ≤ g)
    (h : ∀ W', (Kd.int k).R e W' base ok (.slice (some ⟨g, 0, none⟩) n cap) ys → Below base w0 W' → W.grownBy W' (some g) → wpList P ops Q rest (a.put o.dst (.int .i64 L)) W') : wpList P ops Q (o :: rest) a W := by
  subst hmn hL
  have hr : ReadsInt W k A m ys := Kd.reads_of_C (enc := Value.int k) (d := (0 : Int)) (h1 := fun _ => rfl) hC
  have hl : ys.length = m := hr.1
  have hxl : xs.length = m := (Kd.R_reads' hR).1.symm
  obtain ⟨ad, rfl, hcell⟩ := hr.2.2 hn
  have hown : W.ownsRow base e 1 (.slice (some ⟨g, 0, none⟩) m cap) m (encs (Value.int k) xs) := by
    have := Kd.own_of_R (enc := Value.int k) (h1 := fun _ => rfl) hR
    rwa [hxl] at this
  obtain ⟨cur, hg, hnc, ho2, hgr⟩ := own_setRow (ys := ys.map (Value.int k)) hown (by rw [List.length_map, hl])
  have hR2 : (Kd.int k).R e (W.setRow g (cur.toList.take 0 ++ (ys.map (Value.int k) ++ cur.toList.drop (0 + (ys.map (Value.int k)).length))).toArray) base ok (.slice (some ⟨g, 0, none⟩) m cap) ys :=
    Kd.R_of_own (enc := Value.int k) (h1 := fun _ => rfl) (by rw [hl]; exact ho2) hR.1
  have hfin := h _ hR2 (HB.grown hgr (by have := (Array.getElem?_eq_some_iff.1 hg).1; omega) (fun k hk => by cases hk; exact hbase)) hgr
  refine wpList_copy_own hgd d s dT sT ho e hu hsz g 0 m cap ad m sCap hd hs cur e hg (ys.map (Value.int k)) (by rw [List.length_map, hl]; exact (Nat.min_self m).symm) ?_ (by rw [List.length_map, hl]; omega) (fun v hv => ?_) ?_
  · intro j v hj
    rw [List.getElem?_map] at hj
    have hjl : j < ys.length := by
      rcases Nat.lt_or_ge j ys.length with h' | h'
      · exact h'
      · rw [List.getElem?_eq_none h'] at hj; cases hj
    rw [hcell j (by omega)]
    rw [List.getElem?_eq_getElem hjl] at hj
    simp at hj
    subst hj
    simp [List.getD_eq_getElem?_getD, List.getElem?_eq_getElem hjl]
  · obtain ⟨x, _, rfl⟩ := List.mem_map.1 hv
    rfl
  · rw [List.length_map, hl]
    rw [List.length_map, hl] at hfin
    exact hfin
/-- Blocks of two types are two blocks. -/
theorem ne_typed {w : World} {g h : Nat} {c1 c2 : Array Value} {t1 t2 : TypeId} {f1 f2 : Nat × Nat} (h1 : w.heap[g]? = some (.cells c1 t1 f1)) (h2 : w.heap[h]? = some (.cells c2 t2 f2)) (ht : t1 ≠ t2) : g ≠ h := by
  rintro rfl
  rw [h1] at h2
  cases h2
  exact ht rfl
/-- A body that is a scope through which the run goes without a goto. -/
theorem wp_scope_body {P : Program} {fn : Func} {R : Ending → World → Prop} {c : Code} {a : Act} {w : World} (h : c.wp P (bodyPost P fn R) a w) : (Code.scope c).wp P (bodyPost P fn R) a w := by
  refine wp_scope_straight ?_
  rwa [show Exit.noGoto (bodyPost P fn R) = bodyPost P fn R from by funext e a w; cases e <;> rfl]
end Go.Proofs.YtfcobfjjcocggaaDoor.Cp
