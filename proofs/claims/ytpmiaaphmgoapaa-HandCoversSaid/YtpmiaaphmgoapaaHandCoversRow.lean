/-
  HandCovers: for every input the law answers true; its arguments read behind the call as they read before.
-/
import Derived.Test.YtpmiaaphmgoapaaRows
import Derived.Test.YtpmiaaphmgoapaaHCovers
import Derived.Test.YtpmiaaphmgoapaaPureHandCovers
import Derived.Test.YtpmiaaphmgoapaaOpen
import Derived.Test.YtpmiaaphmgoapaaOpenS
import Derived.WalkKit
import Derived.ProofKit
import Derived.OpenShut
import Derived.ShutString
import Derived.ChangeOld
import Derived.Below
import Derived.SizedLaws
import Derived.Deep.DeepHandedRow
import Derived.Deep.DeepWitnessRowRef
namespace Go.Proofs.Ytpmiaaphmgoapaa.handCovers
open Go.ChangeShapes Go.WideShapes Go.ChangeAt Go.RowKit Go.Proofs.Ytpmiaaphmgoapaa.H Go.Proofs.YtpmiaaphmgoapaaW.PrintWords
open Go.ChangeMaps (open_string shut_string)
set_option linter.unusedVariables false
set_option linter.unusedSimpArgs false
theorem own : ownKnob Try.prog.godebug = none := by kernel_rfl
theorem laidOut : laidOutB Try.prog = true := by kernel_rfl
theorem opens_T37 : Op.OpensS Try.prog 37 k37 (fun x => ((Lit.int .i64 x.f0).wf = true) ∧ ((∀ y ∈ x.f1, (y.size ≤ 140737488351232)) ∧ x.f1.length * 16 ≤ 140737488351232) ∧ ((Lit.int .i64 x.f2).wf = true)) := by
  intro H enc w base spare held fuel cs x h hz
  obtain ⟨ys, n, hx, hyl, hcl, hf⟩ := Op.open_fields Try.underlying37 (by kernel_rfl) (by kernel_rfl) h
  obtain ⟨v0, y0, c0, e0, t0⟩ := hf 0 _ rfl
  obtain ⟨a0, K0, G0⟩ := (Op.opensS_int Try.underlying3) t0 (Op.weights_field Try.underlying37 hx hz (j := 0) rfl e0)
  obtain ⟨v1, y1, c1, e1, t1⟩ := hf 1 _ rfl
  obtain ⟨a1, K1, G1⟩ := (Op.opensS_slice Try.underlying35 (by kernel_rfl) (by kernel_rfl) (Op.opensS_string Try.underlying9)) t1 (Op.weights_field Try.underlying37 hx hz (j := 1) rfl e1)
  obtain ⟨v2, y2, c2, e2, t2⟩ := hf 2 _ rfl
  obtain ⟨a2, K2, G2⟩ := (Op.opensS_int Try.underlying3) t2 (Op.weights_field Try.underlying37 hx hz (j := 2) rfl e2)
  obtain ⟨A1, z1, K1, l1, C1⟩ := K1
  obtain rfl : cs = [v0, v1, v2] := by
    apply List.ext_getElem?
    intro j
    match j with
    | 0 => exact c0
    | 1 => exact c1
    | 2 => exact c2
    | j + 3 => rw [List.getElem?_eq_none (by rw [hcl]; simp), List.getElem?_eq_none (by simp)]
  obtain rfl : ys = [y0, y1, y2] := by
    apply List.ext_getElem?
    intro j
    match j with
    | 0 => exact e0
    | 1 => exact e1
    | 2 => exact e2
    | j + 3 => rw [List.getElem?_eq_none (by rw [hyl]; simp), List.getElem?_eq_none (by simp)]
  obtain rfl : v0 = _ := by have q := K0; injection q
  obtain rfl : v1 = _ := by have q := K1; injection q
  obtain rfl : v2 = _ := by have q := K2; injection q
  exact ⟨⟨a0, a1, a2⟩, k37_mk w ⟨a0, a1, a2⟩ l1 C1, ⟨G0, G1, G2⟩⟩
set_option maxHeartbeats 1000000 in
set_option maxRecDepth 100000 in
theorem contract (H : Type) (enc : TypeId × Value → H) (W : World) (base : Nat) (args : Array Value) (ds gs : List (DataW H)) (before : List MemPlace)
    (hval0 : ∀ (j : Nat) t v, Try.f4.params[j]? = some t → args[j]? = some v → Value.okWide Try.prog W .any base t v)
    (hW : DataW.Whole enc Try.prog Try.f4.params.toList Rows.handCoversSpec.vars false W args.toList ds gs before) (hsz0 : (DataW.weightsEach Try.prog (Try.f4.params.toList ++ Rows.handCoversSpec.plain.varTypes Try.prog) (ds ++ gs)).all (· ≤ reachBytes) = true) :
    Calls Try.prog 4 args W fun e W' => ∃ v, e = .returned v ∧ Rows.handCoversSpec.post enc Try.prog Try.f4 false true false false W args v W' := by
  have hsz : (DataW.weightsEach Try.prog (Try.f4.params.toList ++ Rows.handCoversSpec.plain.varTypes Try.prog) (ds ++ gs)).all (· ≤ reachBytes) = true := hsz0
  have hval : ∀ (j : Nat) t v, Try.f4.params[j]? = some t → args[j]? = some v → Value.okWide Try.prog W .any base t v := hval0
  have hW' := hW
  obtain ⟨p, q, hA0, hV, rfl, hfz, hnd⟩ := hW
  have hA : DataW.TrodAll enc Try.prog W 0 (fun _ => true) true Try.f4.params.toList args.toList ds p := hA0
  rw [Try.params4] at hA hval hsz
  obtain ⟨v0, vs0, d0, ds0, p0, q0, hargs, rfl, rfl, h0, r0⟩ := trodAll_cons hA
  obtain ⟨v1, vs1, d1, ds1, p1, q1, rfl, rfl, rfl, h1, r1⟩ := trodAll_cons r0
  obtain ⟨rfl, rfl, rfl⟩ := trodAll_nil r1
  obtain rfl : args = #[v0, v1] := by cases args; simp_all
  obtain ⟨rfl, rfl⟩ := trodVars_none hV
  obtain ⟨x0, len0, cap0, rfl⟩ := okWide_slice Try.underlying22 (hval 0 22 v0 rfl rfl)
  have k0 := h0
  have lt0 : ∀ x ∈ p0, x.block < W.heap.size := by obtain ⟨m, hm⟩ := k0; exact DataW.trod_lt m _ _ _ hm
  obtain ⟨fuel0, hf0⟩ := h0
  obtain ⟨l0, K0, g0⟩ := (Op.opensS_slice Try.underlying22 (by kernel_rfl) (by kernel_rfl) opens_T37) hf0 (Op.weights_arg hsz (j := 0) rfl rfl)
  obtain ⟨A0, z0, hcs0, hl0, C0⟩ := K0
  simp [Value.cells] at hcs0
  obtain ⟨rfl, rfl, rfl⟩ := hcs0
  obtain ⟨a1, rfl, rfl, rfl, w1⟩ := open_int Try.underlying3 (hval 1 3 v1 rfl rfl) h1
  obtain ⟨k, R⟩ := Pure.HandCovers l0 a1 g0 w1
  clear hA0 hval0 hsz0 hsz
  refine (siglumlaw06_HandCovers.calls k _ _ l0 a1 true W C0 hl0 R).mono fun e W' ⟨he, bel⟩ => ?_
  subst he
  exact ⟨_, rfl, _, _, _, [], _, [], hW', trodAll_mk1 (shut_bool Try.underlying4 _), (trodAll_cons_mk (Below.trod laidOut (by kernel_rfl) (of_decide_eq_true (by kernel_rfl)) k0 bel lt0) (trodAll_cons_mk (shut_int Try.underlying3 w1) trodAll_mk0)), rfl, bel.frame _, fun h => by cases h⟩
theorem witness_row (os : Os) {H : Type} (enc : TypeId × Value → H) :
    (OpenSpec.ofChange Rows.handCoversSpec).preRow enc Try.prog Try.f4 Rows.handCoversRow.domain false Rows.handCoversRow.laid ((World.holding Try.prog os ⟨#[], #[], []⟩).forCall (fun _ _ => 0) ⟨#[], #[.slice none 0 0, .int .i64 0], []⟩).memory #[.slice none 0 0, .int .i64 0] := by
  have hw : (DataW.whole enc Try.prog ((World.holding Try.prog os ⟨#[], #[], []⟩).forCall (fun _ _ => 0) ⟨#[], #[.slice none 0 0, .int .i64 0], []⟩).memory Try.f4.params.toList (OpenSpec.ofChange Rows.handCoversSpec).vars false (#[.slice none 0 0, .int .i64 0] : Array Value).toList 8).map (fun x => (x.1, x.2.1)) = some ([.nil, .lit (.int .i64 0)], []) := by kernel_rfl
  obtain ⟨⟨x1, x2, x3⟩, hx, hx1⟩ := Option.map_eq_some_iff.1 hw
  simp only [Prod.mk.injEq] at hx1
  obtain ⟨rfl, rfl⟩ := hx1
  exact OpenSpec.preRow_of_cond 8 hx (by kernel_rfl) (fun k hk => by cases hk) (by kernel_rfl) (laidMet_of_run' 8 (by kernel_rfl) (by kernel_rfl))
set_option maxRecDepth 100000 in
set_option maxHeartbeats 2000000 in
theorem lifted (os : Os) (started : os.Started) (H : Type) (enc : TypeId × Value → H) (F0 : Stop.Interp) :
    ReturnsInHanded {} Try.checked os 4 .any ((OpenSpec.ofChange Rows.handCoversSpec).preRow enc Try.prog Try.f4 Rows.handCoversRow.domain false Rows.handCoversRow.laid) (((OpenSpec.ofChange Rows.handCoversSpec).at F0).post enc Try.prog Try.f4 false true false false) := by
  refine returnsInHanded_of_row (C := Try.checked) (s := OpenSpec.ofChange Rows.handCoversSpec) own started (by kernel_rfl) Try.func4
    (witness_row_atRef (enc := enc) (C := Try.checked) false (World.holding Try.prog os ⟨#[], #[], []⟩) #[.slice none 0 0, .int .i64 0] rfl (by kernel_rfl) (by kernel_rfl) (by kernel_rfl) (witness_row os enc)) ?_
  intro W base args ds gs before hval hW _ _ hsz hL _ _
  exact contract H enc W base args ds gs before hval hW hsz
theorem said : Rows.HandCoversSaid :=
  OpenClaim.holds_of_cond 4 Try.f4 rfl rfl rfl rfl rfl rfl rfl ⟨rfl, rfl, rfl, rfl, rfl⟩ rfl rfl rfl rfl rfl (by kernel_rfl) Try.func4 (by kernel_rfl)
    (of_decide_eq_true (by kernel_rfl)) (by unfold Func.isWrapper; first | (rw [if_pos (by decide +kernel)]; kernel_rfl) | (rw [if_neg (by decide +kernel)]; exact ⟨rfl, rfl⟩))
    (fun os started H enc _ F0 => by rw [OpenClaim.pre_eq_preRow]; exact lifted os started H enc F0)
end Go.Proofs.Ytpmiaaphmgoapaa.handCovers
namespace Go.Proofs.Ytpmiaaphmgoapaa
theorem handCovers_holds : Rows.HandCoversSaid := handCovers.said
end Go.Proofs.Ytpmiaaphmgoapaa
