/-
  DistApplies: for every input of bulk at most 1048576 the law answers true; its arguments read behind the call as they read before.
-/
import Derived.Test.YtalogampkkjcdaaDoorCards
import Derived.Test.YtalogampkkjcdaaDoorTie
import Derived.Test.YtalogampkkjcdaaDoorBx10
import Derived.Test.YtalogampkkjcdaaDoorPureDistApplies
import Derived.Test.YtalogampkkjcdaaDoorOpen
import Derived.Test.YtalogampkkjcdaaDoorTabs
import Derived.WalkKit
import Derived.ProofKit
import Derived.OpenShut
import Derived.ShutString
import Derived.ChangeOld
import Derived.Below
import Derived.SizedLaws
import Derived.Deep.DeepHandedRow
import Derived.Deep.DeepWitnessRowRef
namespace Go.Proofs.YtalogampkkjcdaaDoor.distApplies
open Go.ChangeShapes Go.WideShapes Go.ChangeAt Go.RowKit Go.Proofs.YtalogampkkjcdaaDoor.B Go.Proofs.YtalogampkkjcdaaDoorW.PrintWords
open Go.ChangeMaps (open_string shut_string)
set_option linter.unusedVariables false
set_option linter.unusedSimpArgs false
theorem own : ownKnob Tryd.prog.godebug = none := by kernel_rfl
theorem laidOut : laidOutB Tryd.prog = true := by kernel_rfl
theorem opens_T30 : Op.Opens Tryd.prog 30 k30 (fun x => ((Lit.int .i64 x.f0).wf = true) ∧ (x.f1.size ≤ maxLen)) (fun x => 1 + (x.f1.size + 1) + 1) := by
  intro H enc w base spare held fuel cs x h
  obtain ⟨ys, n, hx, hyl, hcl, hf⟩ := Op.open_fields Tryd.underlying30 (by kernel_rfl) (by kernel_rfl) h
  obtain ⟨v0, y0, c0, e0, t0⟩ := hf 0 _ rfl
  obtain ⟨a0, K0, G0, B0⟩ := (Op.opens_int Tryd.underlying3) t0
  obtain ⟨v1, y1, c1, e1, t1⟩ := hf 1 _ rfl
  obtain ⟨a1, K1, G1, B1⟩ := (Op.opens_string Tryd.underlying9) t1
  obtain rfl : cs = [v0, v1] := by
    apply List.ext_getElem?
    intro j
    match j with
    | 0 => exact c0
    | 1 => exact c1
    | j + 2 => rw [List.getElem?_eq_none (by rw [hcl]; simp), List.getElem?_eq_none (by simp)]
  obtain rfl : ys = [y0, y1] := by
    apply List.ext_getElem?
    intro j
    match j with
    | 0 => exact e0
    | 1 => exact e1
    | j + 2 => rw [List.getElem?_eq_none (by rw [hyl]; simp), List.getElem?_eq_none (by simp)]
  obtain rfl : v0 = _ := by have q := K0; injection q
  obtain rfl : v1 = _ := by have q := K1; injection q
  refine ⟨⟨a0, a1⟩, k30_mk w ⟨a0, a1⟩ , ⟨G0, G1⟩, ?_⟩
  rw [hx]
  simp only [List.map_cons, List.map_nil, Rows.uptoBulk, Rows.uptoBulkAll]
  have B0' : 1 ≤ Rows.uptoBulk y0.1 := B0
  have B1' : (a1.size + 1) ≤ Rows.uptoBulk y1.1 := B1
  omega
set_option maxRecDepth 100000 in
theorem contract (H : Type) (enc : TypeId × Value → H) (W : World) (base : Nat) (args : Array Value) (ds gs : List (DataW H)) (before : List MemPlace)
    (hval0 : ∀ (j : Nat) t v, Tryd.f12.params[j]? = some t → args[j]? = some v → Value.okWide Tryd.prog W .any base t v)
    (hW : DataW.Whole enc Tryd.prog Tryd.f12.params.toList Rows.distAppliesSpec.vars false W args.toList ds gs before) (hsz0 : (DataW.weightsEach Tryd.prog (Tryd.f12.params.toList ++ Rows.distAppliesSpec.plain.varTypes Tryd.prog) (ds ++ gs)).all (· ≤ reachBytes) = true) (hL : laidMet Tryd.prog Tb.listed W) (hk : Rows.uptoSmall H (ds ++ gs) = true) :
    Calls Tryd.prog 12 args W fun e W' => ∃ v, e = .returned v ∧ Rows.distAppliesSpec.post enc Tryd.prog Tryd.f12 false true false false W args v W' := by
  have hsz : (DataW.weightsEach Tryd.prog (Tryd.f12.params.toList ++ Rows.distAppliesSpec.plain.varTypes Tryd.prog) (ds ++ gs)).all (· ≤ reachBytes) = true := hsz0
  have hval : ∀ (j : Nat) t v, Tryd.f12.params[j]? = some t → args[j]? = some v → Value.okWide Tryd.prog W .any base t v := hval0
  have hW' := hW
  obtain ⟨p, q, hA0, hV, rfl, hfz, hnd⟩ := hW
  have hA : DataW.TrodAll enc Tryd.prog W 0 (fun _ => true) true Tryd.f12.params.toList args.toList ds p := hA0
  rw [Tryd.params12] at hA hval hsz
  obtain ⟨v0, vs0, d0, ds0, p0, q0, hargs, rfl, rfl, h0, r0⟩ := trodAll_cons hA
  obtain ⟨v1, vs1, d1, ds1, p1, q1, rfl, rfl, rfl, h1, r1⟩ := trodAll_cons r0
  obtain ⟨rfl, rfl, rfl⟩ := trodAll_nil r1
  obtain rfl : args = #[v0, v1] := by cases args; simp_all
  obtain ⟨rfl, rfl⟩ := trodVars_none hV
  have hb := Op.bulk_bound hk
  simp only [List.append_nil, List.nil_append, List.cons_append, Rows.uptoBulkAll] at hb
  obtain ⟨a0, rfl, rfl, rfl, y0⟩ := open_string Tryd.underlying9 (hval 0 9 v0 rfl rfl) h0
  have b0 : Rows.uptoBulk (DataW.lit (H := H) (.string a0.data.toList)) = a0.size + 1 := by simp [Rows.uptoBulk]
  rw [b0] at hb
  obtain ⟨x1, len1, cap1, rfl⟩ := okWide_slice Tryd.underlying23 (hval 1 23 v1 rfl rfl)
  have k1 := h1
  have lt1 : ∀ x ∈ p1, x.block < W.heap.size := by obtain ⟨m, hm⟩ := k1; exact DataW.trod_lt m _ _ _ hm
  obtain ⟨fuel1, hf1⟩ := h1
  obtain ⟨l1, K1, g1, b1⟩ := (Op.opens_slice Tryd.underlying23 (by kernel_rfl) opens_T30) hf1
  obtain ⟨A1, z1, hcs1, hl1, C1⟩ := K1
  simp [Value.cells] at hcs1
  obtain ⟨rfl, rfl, rfl⟩ := hcs1
  have b1' : ((l1.map fun y => (1 + (y.f1.size + 1) + 1)).sum + 1) ≤ Rows.uptoBulk d1 := b1
  have HB : (a0.size + 1) + ((l1.map fun y => (1 + (y.f1.size + 1) + 1)).sum + 1) ≤ 1048576 := by
    omega
  obtain ⟨k, R⟩ := Pure.DistApplies a0 l1 y0 g1 HB
  clear hA0 hval0 hsz0 hsz
  have hT := Tb.tabs hL
  refine (siglumlaw08_DistApplies.calls k a0 _ _ l1 true W C1 hl1 hT R).mono fun e W' ⟨he, bel⟩ => ?_
  subst he
  exact ⟨_, rfl, _, _, _, [], _, [], hW', trodAll_mk1 (shut_bool Tryd.underlying4 _), (trodAll_cons_mk (shut_string Tryd.underlying9 y0) (trodAll_cons_mk (Below.trod laidOut (by kernel_rfl) (of_decide_eq_true (by kernel_rfl)) k1 bel lt1) trodAll_mk0)), rfl, bel.frame _, fun h => by cases h⟩
theorem witness_row (os : Os) {H : Type} (enc : TypeId × Value → H) :
    (Rows.OpenSpec.upto Rows.distAppliesSpec).preRow enc Tryd.prog Tryd.f12 Rows.distAppliesUptoRow.domain false Rows.distAppliesUptoRow.laid ((Tb.laidWorld os).forCall (fun _ _ => 0) ⟨#[], #[.string ⟨#[]⟩, .slice none 0 0], []⟩).memory #[.string ⟨#[]⟩, .slice none 0 0] := by
  have hw : (DataW.whole enc Tryd.prog ((Tb.laidWorld os).forCall (fun _ _ => 0) ⟨#[], #[.string ⟨#[]⟩, .slice none 0 0], []⟩).memory Tryd.f12.params.toList (Rows.OpenSpec.upto Rows.distAppliesSpec).vars false (#[.string ⟨#[]⟩, .slice none 0 0] : Array Value).toList 8).map (fun x => (x.1, x.2.1)) = some ([.lit (.string []), .nil], []) := by kernel_rfl
  obtain ⟨⟨x1, x2, x3⟩, hx, hx1⟩ := Option.map_eq_some_iff.1 hw
  simp only [Prod.mk.injEq] at hx1
  obtain ⟨rfl, rfl⟩ := hx1
  exact OpenSpec.preRow_of_cond 8 hx (by kernel_rfl) (fun k hk => by cases hk; kernel_rfl) (by kernel_rfl) (Tb.laid_met os _)
set_option maxRecDepth 100000 in
set_option maxHeartbeats 2000000 in
theorem lifted (os : Os) (started : os.Started) (H : Type) (enc : TypeId × Value → H) (F0 : Stop.Interp) :
    ReturnsInHanded {} Tryd.checked os 12 .any ((Rows.OpenSpec.upto Rows.distAppliesSpec).preRow enc Tryd.prog Tryd.f12 Rows.distAppliesUptoRow.domain false Rows.distAppliesUptoRow.laid) (((Rows.OpenSpec.upto Rows.distAppliesSpec).at F0).post enc Tryd.prog Tryd.f12 false true false false) := by
  refine returnsInHanded_of_row (C := Tryd.checked) (s := Rows.OpenSpec.upto Rows.distAppliesSpec) own started (by kernel_rfl) Tryd.func12
    (witness_row_atRef (enc := enc) (C := Tryd.checked) false (Tb.laidWorld os) #[.string ⟨#[]⟩, .slice none 0 0] rfl (by kernel_rfl) (by kernel_rfl) (by kernel_rfl) (witness_row os enc)) ?_
  intro W base args ds gs before hval hW _ hcond hsz hL _ _
  exact contract H enc W base args ds gs before hval hW hsz hL (hcond _ rfl)
theorem said : Rows.DistAppliesUptoSaid :=
  OpenClaim.holds_of_cond 12 Tryd.f12 rfl rfl rfl rfl rfl rfl rfl ⟨rfl, rfl, rfl, rfl, rfl⟩ rfl rfl rfl rfl rfl (by kernel_rfl) Tryd.func12 (by kernel_rfl)
    (of_decide_eq_true (by kernel_rfl)) (by unfold Func.isWrapper; first | (rw [if_pos (by decide +kernel)]; kernel_rfl) | (rw [if_neg (by decide +kernel)]; exact ⟨rfl, rfl⟩))
    (fun os started H enc _ F0 => by rw [OpenClaim.pre_eq_preRow]; exact lifted os started H enc F0)
theorem plain (f : FuncId) (fn : Func) (hf : Tryd.pinned.checked.prog.funcNamed "siglum/siglumlaw08.DistApplies" = some f) (hfn : Tryd.pinned.checked.prog.funcs[f]? = some fn) :
    false = Tryd.pinned.checked.prog.looks [] ∧ ∀ (j : Nat) t, fn.params[j]? = some t → Tryd.pinned.checked.prog.wantsStandIn t = false := by
  obtain rfl : f = 12 := Option.some.inj ((show Tryd.prog.funcNamed "siglum/siglumlaw08.DistApplies" = some 12 by kernel_rfl).symm.trans hf) |>.symm
  obtain rfl : fn = Tryd.f12 := (Option.some.inj (Tryd.func12.symm.trans hfn)).symm
  refine ⟨by kernel_rfl, fun j t ht => ?_⟩
  rw [Tryd.params12] at ht
  have hm : t ∈ [9, 23] := by simpa using Array.mem_of_getElem? ht
  have hall : ([9, 23].all fun u => !Tryd.prog.wantsStandIn u) = true := by kernel_rfl
  exact (show Tryd.prog.wantsStandIn t = false by simpa using List.all_eq_true.1 hall t hm)
end Go.Proofs.YtalogampkkjcdaaDoor.distApplies
namespace Go.Proofs.YtalogampkkjcdaaDoor
theorem distApplies_holds : Rows.DistAppliesUptoCardSaid :=
  Claim7.holds_tied_plain_at .later [] _ _ _ _ distApplies.said (fun _ h => by cases h) (by kernel_rfl) (fun _ h => by cases h) distAppliesUpto_row_tie rfl ⟨rfl, rfl⟩ (by kernel_rfl) rfl distApplies.plain (by kernel_rfl)
end Go.Proofs.YtalogampkkjcdaaDoor
