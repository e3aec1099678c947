/-
  HandJoins: for every input of bulk at most 1048576 the law answers true; its arguments read behind the call as they read before.
-/
import Derived.Test.YtpmiaaphmgoapaaRows
import Derived.Test.YtpmiaaphmgoapaaJ27
import Derived.Test.YtpmiaaphmgoapaaJ28
import Derived.WalkKit
import Derived.ProofKit
import Derived.OpenShut
import Derived.ShutString
import Derived.ChangeOld
import Derived.Below
import Derived.SizedLaws
import Derived.Deep.DeepHandedRow
import Derived.Deep.DeepWitnessRowRef
namespace Go.Proofs.Ytpmiaaphmgoapaa.handJoins
open Go.ChangeShapes Go.WideShapes Go.ChangeAt Go.RowKit Go.Proofs.Ytpmiaaphmgoapaa.H Go.Proofs.YtpmiaaphmgoapaaW.PrintWords
open Go.ChangeMaps (open_string shut_string)
set_option linter.unusedVariables false
set_option linter.unusedSimpArgs false
theorem own : ownKnob Try.prog.godebug = none := by kernel_rfl
theorem laidOut : laidOutB Try.prog = true := by kernel_rfl
theorem opens_T37 : Op.Opens Try.prog 37 k37 (fun x => ((Lit.int .i64 x.f0).wf = true) ∧ ((∀ y ∈ x.f1, (y.size ≤ maxLen)) ∧ x.f1.length ≤ maxLen) ∧ ((Lit.int .i64 x.f2).wf = true)) (fun x => 1 + ((x.f1.map fun y => (y.size + 1)).sum + 1) + 1 + 1) := by
  intro H enc w base spare held fuel cs x h
  obtain ⟨ys, n, hx, hyl, hcl, hf⟩ := Op.open_fields Try.underlying37 (by kernel_rfl) (by kernel_rfl) h
  obtain ⟨v0, y0, c0, e0, t0⟩ := hf 0 _ rfl
  obtain ⟨a0, K0, G0, B0⟩ := (Op.opens_int Try.underlying3) t0
  obtain ⟨v1, y1, c1, e1, t1⟩ := hf 1 _ rfl
  obtain ⟨a1, K1, G1, B1⟩ := (Op.opens_slice Try.underlying35 (by kernel_rfl) (Op.opens_string Try.underlying9)) t1
  obtain ⟨v2, y2, c2, e2, t2⟩ := hf 2 _ rfl
  obtain ⟨a2, K2, G2, B2⟩ := (Op.opens_int Try.underlying3) t2
  obtain ⟨A1, z1, K1, l1, C1⟩ := K1
  obtain rfl : cs = [v0, v1, v2] := by
    apply List.ext_getElem?
    intro j
    match j with
    | 0 => exact c0
    | 1 => exact c1
    | 2 => exact c2
    | j + 3 => rw [List.getElem?_eq_none (by rw [hcl]; simp), List.getElem?_eq_none (by simp)]
  obtain rfl : ys = [y0, y1, y2] := by
    apply List.ext_getElem?
    intro j
    match j with
    | 0 => exact e0
    | 1 => exact e1
    | 2 => exact e2
    | j + 3 => rw [List.getElem?_eq_none (by rw [hyl]; simp), List.getElem?_eq_none (by simp)]
  obtain rfl : v0 = _ := by have q := K0; injection q
  obtain rfl : v1 = _ := by have q := K1; injection q
  obtain rfl : v2 = _ := by have q := K2; injection q
  refine ⟨⟨a0, a1, a2⟩, k37_mk w ⟨a0, a1, a2⟩ l1 C1, ⟨G0, G1, G2⟩, ?_⟩
  rw [hx]
  simp only [List.map_cons, List.map_nil, Rows.uptoBulk, Rows.uptoBulkAll]
  have B0' : 1 ≤ Rows.uptoBulk y0.1 := B0
  have B1' : ((a1.map fun y => (y.size + 1)).sum + 1) ≤ Rows.uptoBulk y1.1 := B1
  have B2' : 1 ≤ Rows.uptoBulk y2.1 := B2
  omega
set_option maxHeartbeats 1000000 in
set_option maxRecDepth 100000 in
theorem contract (H : Type) (enc : TypeId × Value → H) (W : World) (base : Nat) (args : Array Value) (ds gs : List (DataW H)) (before : List MemPlace)
    (hval0 : ∀ (j : Nat) t v, Try.f6.params[j]? = some t → args[j]? = some v → Value.okWide Try.prog W .any base t v)
    (hW : DataW.Whole enc Try.prog Try.f6.params.toList Rows.handJoinsSpec.vars false W args.toList ds gs before) (hsz0 : (DataW.weightsEach Try.prog (Try.f6.params.toList ++ Rows.handJoinsSpec.plain.varTypes Try.prog) (ds ++ gs)).all (· ≤ reachBytes) = true) (hk : Rows.uptoSmall H (ds ++ gs) = true) :
    Calls Try.prog 6 args W fun e W' => ∃ v, e = .returned v ∧ Rows.handJoinsSpec.post enc Try.prog Try.f6 false true false false W args v W' := by
  have hsz : (DataW.weightsEach Try.prog (Try.f6.params.toList ++ Rows.handJoinsSpec.plain.varTypes Try.prog) (ds ++ gs)).all (· ≤ reachBytes) = true := hsz0
  have hval : ∀ (j : Nat) t v, Try.f6.params[j]? = some t → args[j]? = some v → Value.okWide Try.prog W .any base t v := hval0
  have hW' := hW
  obtain ⟨p, q, hA0, hV, rfl, hfz, hnd⟩ := hW
  have hA : DataW.TrodAll enc Try.prog W 0 (fun _ => true) true Try.f6.params.toList args.toList ds p := hA0
  rw [Try.params6] at hA hval hsz
  obtain ⟨v0, vs0, d0, ds0, p0, q0, hargs, rfl, rfl, h0, r0⟩ := trodAll_cons hA
  obtain ⟨v1, vs1, d1, ds1, p1, q1, rfl, rfl, rfl, h1, r1⟩ := trodAll_cons r0
  obtain ⟨v2, vs2, d2, ds2, p2, q2, rfl, rfl, rfl, h2, r2⟩ := trodAll_cons r1
  obtain ⟨rfl, rfl, rfl⟩ := trodAll_nil r2
  obtain rfl : args = #[v0, v1, v2] := by cases args; simp_all
  obtain ⟨rfl, rfl⟩ := trodVars_none hV
  have hb := Op.bulk_bound hk
  simp only [List.append_nil, List.nil_append, List.cons_append, Rows.uptoBulkAll] at hb
  obtain ⟨x0, len0, cap0, rfl⟩ := okWide_slice Try.underlying22 (hval 0 22 v0 rfl rfl)
  have k0 := h0
  have lt0 : ∀ x ∈ p0, x.block < W.heap.size := by obtain ⟨m, hm⟩ := k0; exact DataW.trod_lt m _ _ _ hm
  obtain ⟨fuel0, hf0⟩ := h0
  obtain ⟨l0, K0, g0, b0⟩ := (Op.opens_slice Try.underlying22 (by kernel_rfl) opens_T37) hf0
  obtain ⟨A0, z0, hcs0, hl0, C0⟩ := K0
  simp [Value.cells] at hcs0
  obtain ⟨rfl, rfl, rfl⟩ := hcs0
  have b0' : ((l0.map fun y => (1 + ((y.f1.map fun y => (y.size + 1)).sum + 1) + 1 + 1)).sum + 1) ≤ Rows.uptoBulk d0 := b0
  obtain ⟨x1, len1, cap1, rfl⟩ := okWide_slice Try.underlying22 (hval 1 22 v1 rfl rfl)
  have k1 := h1
  have lt1 : ∀ x ∈ p1, x.block < W.heap.size := by obtain ⟨m, hm⟩ := k1; exact DataW.trod_lt m _ _ _ hm
  obtain ⟨fuel1, hf1⟩ := h1
  obtain ⟨l1, K1, g1, b1⟩ := (Op.opens_slice Try.underlying22 (by kernel_rfl) opens_T37) hf1
  obtain ⟨A1, z1, hcs1, hl1, C1⟩ := K1
  simp [Value.cells] at hcs1
  obtain ⟨rfl, rfl, rfl⟩ := hcs1
  have b1' : ((l1.map fun y => (1 + ((y.f1.map fun y => (y.size + 1)).sum + 1) + 1 + 1)).sum + 1) ≤ Rows.uptoBulk d1 := b1
  obtain ⟨a2, rfl, rfl, rfl, w2⟩ := open_int Try.underlying3 (hval 2 3 v2 rfl rfl) h2
  have HB : ((l0.map fun y => (1 + ((y.f1.map fun y => (y.size + 1)).sum + 1) + 1 + 1)).sum + 1) + ((l1.map fun y => (1 + ((y.f1.map fun y => (y.size + 1)).sum + 1) + 1 + 1)).sum + 1) + 1 ≤ 1048576 := by
    have := Op.bulk_pos (DataW.lit (H := H) (.int .i64 a2))
    omega
  obtain ⟨k, R⟩ := Pure.HandJoins l0 l1 a2 g0 g1 w2 HB
  clear hA0 hval0 hsz0 hsz
  refine (siglumlaw06_HandJoins.calls k _ _ _ l0 _ _ _ l1 a2 true W (Kd.V_mk hl0 (Kd.C_F (by repeat (first | exact Kd.heap_int _ | exact Kd.heap_bool | exact Kd.heap_string | refine Kd.heap_pair ?_ ?_ | refine Kd.heap_slice _ ?_ | refine Kd.heap_iso _ ?_)) C0)) (Kd.V_mk hl1 (Kd.C_F (by repeat (first | exact Kd.heap_int _ | exact Kd.heap_bool | exact Kd.heap_string | refine Kd.heap_pair ?_ ?_ | refine Kd.heap_slice _ ?_ | refine Kd.heap_iso _ ?_)) C1)) R).mono fun e W' ⟨he, bel⟩ => ?_
  subst he
  exact ⟨_, rfl, _, _, _, [], _, [], hW', trodAll_mk1 (shut_bool Try.underlying4 _), (trodAll_cons_mk (Below.trod laidOut (by kernel_rfl) (of_decide_eq_true (by kernel_rfl)) k0 bel lt0) (trodAll_cons_mk (Below.trod laidOut (by kernel_rfl) (of_decide_eq_true (by kernel_rfl)) k1 bel lt1) (trodAll_cons_mk (shut_int Try.underlying3 w2) trodAll_mk0))), rfl, bel.frame _, fun h => by cases h⟩
theorem witness_row (os : Os) {H : Type} (enc : TypeId × Value → H) :
    (Rows.OpenSpec.upto Rows.handJoinsSpec).preRow enc Try.prog Try.f6 Rows.handJoinsUptoRow.domain false Rows.handJoinsUptoRow.laid ((World.holding Try.prog os ⟨#[], #[], []⟩).forCall (fun _ _ => 0) ⟨#[], #[.slice none 0 0, .slice none 0 0, .int .i64 0], []⟩).memory #[.slice none 0 0, .slice none 0 0, .int .i64 0] := by
  have hw : (DataW.whole enc Try.prog ((World.holding Try.prog os ⟨#[], #[], []⟩).forCall (fun _ _ => 0) ⟨#[], #[.slice none 0 0, .slice none 0 0, .int .i64 0], []⟩).memory Try.f6.params.toList (Rows.OpenSpec.upto Rows.handJoinsSpec).vars false (#[.slice none 0 0, .slice none 0 0, .int .i64 0] : Array Value).toList 8).map (fun x => (x.1, x.2.1)) = some ([.nil, .nil, .lit (.int .i64 0)], []) := by kernel_rfl
  obtain ⟨⟨x1, x2, x3⟩, hx, hx1⟩ := Option.map_eq_some_iff.1 hw
  simp only [Prod.mk.injEq] at hx1
  obtain ⟨rfl, rfl⟩ := hx1
  exact OpenSpec.preRow_of_cond 8 hx (by kernel_rfl) (fun k hk => by cases hk; kernel_rfl) (by kernel_rfl) (laidMet_of_run' 8 (by kernel_rfl) (by kernel_rfl))
set_option maxRecDepth 100000 in
set_option maxHeartbeats 2000000 in
theorem lifted (os : Os) (started : os.Started) (H : Type) (enc : TypeId × Value → H) (F0 : Stop.Interp) :
    ReturnsInHanded {} Try.checked os 6 .any ((Rows.OpenSpec.upto Rows.handJoinsSpec).preRow enc Try.prog Try.f6 Rows.handJoinsUptoRow.domain false Rows.handJoinsUptoRow.laid) (((Rows.OpenSpec.upto Rows.handJoinsSpec).at F0).post enc Try.prog Try.f6 false true false false) := by
  refine returnsInHanded_of_row (C := Try.checked) (s := Rows.OpenSpec.upto Rows.handJoinsSpec) own started (by kernel_rfl) Try.func6
    (witness_row_atRef (enc := enc) (C := Try.checked) false (World.holding Try.prog os ⟨#[], #[], []⟩) #[.slice none 0 0, .slice none 0 0, .int .i64 0] rfl (by kernel_rfl) (by kernel_rfl) (by kernel_rfl) (witness_row os enc)) ?_
  intro W base args ds gs before hval hW _ hcond hsz hL _ _
  exact contract H enc W base args ds gs before hval hW hsz (hcond _ rfl)
theorem said : Rows.HandJoinsUptoSaid :=
  OpenClaim.holds_of_cond 6 Try.f6 rfl rfl rfl rfl rfl rfl rfl ⟨rfl, rfl, rfl, rfl, rfl⟩ rfl rfl rfl rfl rfl (by kernel_rfl) Try.func6 (by kernel_rfl)
    (of_decide_eq_true (by kernel_rfl)) (by unfold Func.isWrapper; first | (rw [if_pos (by decide +kernel)]; kernel_rfl) | (rw [if_neg (by decide +kernel)]; exact ⟨rfl, rfl⟩))
    (fun os started H enc _ F0 => by rw [OpenClaim.pre_eq_preRow]; exact lifted os started H enc F0)
end Go.Proofs.Ytpmiaaphmgoapaa.handJoins
namespace Go.Proofs.Ytpmiaaphmgoapaa
theorem handJoins_holds : Rows.HandJoinsUptoSaid := handJoins.said
end Go.Proofs.Ytpmiaaphmgoapaa
