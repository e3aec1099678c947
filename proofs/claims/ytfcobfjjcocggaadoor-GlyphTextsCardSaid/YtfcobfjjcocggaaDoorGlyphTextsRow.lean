/-
  GlyphTexts: for every input the law answers true; its arguments read behind the call as they read before.
-/
import Derived.Test.YtfcobfjjcocggaaDoorCards
import Derived.Test.YtfcobfjjcocggaaDoorTie
import Derived.Test.YtfcobfjjcocggaaDoorQx23
import Derived.Test.YtfcobfjjcocggaaDoorPureGlyphTexts
import Derived.Test.YtfcobfjjcocggaaDoorOpen
import Derived.Test.YtfcobfjjcocggaaDoorTabs
import Derived.WalkKit
import Derived.ProofKit
import Derived.OpenShut
import Derived.ShutString
import Derived.ChangeOld
import Derived.Below
import Derived.SizedLaws
import Derived.Deep.DeepHandedRow
import Derived.Deep.DeepWitnessRowRef
namespace Go.Proofs.YtfcobfjjcocggaaDoor.glyphTexts
open Go.ChangeShapes Go.WideShapes Go.ChangeAt Go.RowKit Go.Proofs.YtfcobfjjcocggaaDoor.Q Go.Proofs.YtfcobfjjcocggaaDoorW.PrintWords
open Go.ChangeMaps (open_string shut_string)
set_option linter.unusedVariables false
set_option linter.unusedSimpArgs false
theorem own : ownKnob Tryd.prog.godebug = none := by kernel_rfl
theorem laidOut : laidOutB Tryd.prog = true := by kernel_rfl
theorem opens_T30 : Op.Opens Tryd.prog 30 k30 (fun x => ((Lit.int .i64 x.f0).wf = true) ∧ ((Lit.int .i64 x.f1).wf = true) ∧ ((Lit.int .i32 x.f2).wf = true) ∧ True ∧ ((Lit.int .u8 x.f4).wf = true)) (fun x => 1 + 1 + 1 + 1 + 1 + 1) := by
  intro H enc w base spare held fuel cs x h
  obtain ⟨ys, n, hx, hyl, hcl, hf⟩ := Op.open_fields Tryd.underlying30 (by kernel_rfl) (by kernel_rfl) h
  obtain ⟨v0, y0, c0, e0, t0⟩ := hf 0 _ rfl
  obtain ⟨a0, K0, G0, B0⟩ := (Op.opens_int Tryd.underlying3) t0
  obtain ⟨v1, y1, c1, e1, t1⟩ := hf 1 _ rfl
  obtain ⟨a1, K1, G1, B1⟩ := (Op.opens_int Tryd.underlying3) t1
  obtain ⟨v2, y2, c2, e2, t2⟩ := hf 2 _ rfl
  obtain ⟨a2, K2, G2, B2⟩ := (Op.opens_int Tryd.underlying21) t2
  obtain ⟨v3, y3, c3, e3, t3⟩ := hf 3 _ rfl
  obtain ⟨a3, K3, G3, B3⟩ := (Op.opens_bool Tryd.underlying4) t3
  obtain ⟨v4, y4, c4, e4, t4⟩ := hf 4 _ rfl
  obtain ⟨a4, K4, G4, B4⟩ := (Op.opens_int Tryd.underlying5) t4
  obtain rfl : cs = [v0, v1, v2, v3, v4] := by
    apply List.ext_getElem?
    intro j
    match j with
    | 0 => exact c0
    | 1 => exact c1
    | 2 => exact c2
    | 3 => exact c3
    | 4 => exact c4
    | j + 5 => rw [List.getElem?_eq_none (by rw [hcl]; simp), List.getElem?_eq_none (by simp)]
  obtain rfl : ys = [y0, y1, y2, y3, y4] := by
    apply List.ext_getElem?
    intro j
    match j with
    | 0 => exact e0
    | 1 => exact e1
    | 2 => exact e2
    | 3 => exact e3
    | 4 => exact e4
    | j + 5 => rw [List.getElem?_eq_none (by rw [hyl]; simp), List.getElem?_eq_none (by simp)]
  obtain rfl : v0 = _ := by have q := K0; injection q
  obtain rfl : v1 = _ := by have q := K1; injection q
  obtain rfl : v2 = _ := by have q := K2; injection q
  obtain rfl : v3 = _ := by have q := K3; injection q
  obtain rfl : v4 = _ := by have q := K4; injection q
  refine ⟨⟨a0, a1, a2, a3, a4⟩, k30_mk w ⟨a0, a1, a2, a3, a4⟩ , ⟨G0, G1, G2, G3, G4⟩, ?_⟩
  rw [hx]
  simp only [List.map_cons, List.map_nil, Rows.uptoBulk, Rows.uptoBulkAll]
  have B0' : 1 ≤ Rows.uptoBulk y0.1 := B0
  have B1' : 1 ≤ Rows.uptoBulk y1.1 := B1
  have B2' : 1 ≤ Rows.uptoBulk y2.1 := B2
  have B3' : 1 ≤ Rows.uptoBulk y3.1 := B3
  have B4' : 1 ≤ Rows.uptoBulk y4.1 := B4
  omega
set_option maxRecDepth 100000 in
theorem contract (H : Type) (enc : TypeId × Value → H) (W : World) (base : Nat) (args : Array Value) (ds gs : List (DataW H)) (before : List MemPlace)
    (hval0 : ∀ (j : Nat) t v, Tryd.f3.params[j]? = some t → args[j]? = some v → Value.okWide Tryd.prog W .any base t v)
    (hW : DataW.Whole enc Tryd.prog Tryd.f3.params.toList Rows.glyphTextsSpec.vars false W args.toList ds gs before) (hsz0 : (DataW.weightsEach Tryd.prog (Tryd.f3.params.toList ++ Rows.glyphTextsSpec.plain.varTypes Tryd.prog) (ds ++ gs)).all (· ≤ reachBytes) = true) (hL : laidMet Tryd.prog Tb.listed W) :
    Calls Tryd.prog 3 args W fun e W' => ∃ v, e = .returned v ∧ Rows.glyphTextsSpec.post enc Tryd.prog Tryd.f3 false true false false W args v W' := by
  have hsz : (DataW.weightsEach Tryd.prog (Tryd.f3.params.toList ++ Rows.glyphTextsSpec.plain.varTypes Tryd.prog) (ds ++ gs)).all (· ≤ reachBytes) = true := hsz0
  have hval : ∀ (j : Nat) t v, Tryd.f3.params[j]? = some t → args[j]? = some v → Value.okWide Tryd.prog W .any base t v := hval0
  have hW' := hW
  obtain ⟨p, q, hA0, hV, rfl, hfz, hnd⟩ := hW
  have hA : DataW.TrodAll enc Tryd.prog W 0 (fun _ => true) true Tryd.f3.params.toList args.toList ds p := hA0
  rw [Tryd.params3] at hA hval hsz
  obtain ⟨v0, vs0, d0, ds0, p0, q0, hargs, rfl, rfl, h0, r0⟩ := trodAll_cons hA
  obtain ⟨rfl, rfl, rfl⟩ := trodAll_nil r0
  obtain rfl : args = #[v0] := by cases args; simp_all
  obtain ⟨rfl, rfl⟩ := trodVars_none hV
  obtain ⟨x0, len0, cap0, rfl⟩ := okWide_slice Tryd.underlying22 (hval 0 22 v0 rfl rfl)
  have k0 := h0
  have lt0 : ∀ x ∈ p0, x.block < W.heap.size := by obtain ⟨m, hm⟩ := k0; exact DataW.trod_lt m _ _ _ hm
  obtain ⟨fuel0, hf0⟩ := h0
  have w0 := Op.sized_len (B := 24) hsz (j := 0) (t := 22) rfl rfl Tryd.underlying22 (by kernel_rfl) (show DataW.trod enc Tryd.prog W 0 (fun _ => true) true fuel0 22 [.slice x0 len0 cap0] = some (d0, p0) from hf0)
  obtain ⟨l0, K0, g0, b0⟩ := (Op.opens_slice Tryd.underlying22 (by kernel_rfl) opens_T30) hf0
  obtain ⟨A0, z0, hcs0, hl0, C0⟩ := K0
  simp [Value.cells] at hcs0
  obtain ⟨rfl, rfl, rfl⟩ := hcs0
  have b0' : ((l0.map fun y => (1 + 1 + 1 + 1 + 1 + 1)).sum + 1) ≤ Rows.uptoBulk d0 := b0
  obtain ⟨k, R⟩ := Pure.GlyphTexts l0 g0 w0
  clear hA0 hval0 hsz0 hsz
  have hT := Tb.tabs hL
  refine (siglumlaw01_GlyphTexts.calls k _ _ l0 true W C0 hl0 hT R).mono fun e W' ⟨he, bel⟩ => ?_
  subst he
  exact ⟨_, rfl, _, _, _, [], _, [], hW', trodAll_mk1 (shut_bool Tryd.underlying4 _), (trodAll_cons_mk (Below.trod laidOut (by kernel_rfl) (of_decide_eq_true (by kernel_rfl)) k0 bel lt0) trodAll_mk0), rfl, bel.frame _, fun h => by cases h⟩
theorem witness_row (os : Os) {H : Type} (enc : TypeId × Value → H) :
    (OpenSpec.ofChange Rows.glyphTextsSpec).preRow enc Tryd.prog Tryd.f3 Rows.glyphTextsRow.domain false Rows.glyphTextsRow.laid ((Tb.laidWorld os).forCall (fun _ _ => 0) ⟨#[], #[.slice none 0 0], []⟩).memory #[.slice none 0 0] := by
  have hw : (DataW.whole enc Tryd.prog ((Tb.laidWorld os).forCall (fun _ _ => 0) ⟨#[], #[.slice none 0 0], []⟩).memory Tryd.f3.params.toList (OpenSpec.ofChange Rows.glyphTextsSpec).vars false (#[.slice none 0 0] : Array Value).toList 8).map (fun x => (x.1, x.2.1)) = some ([.nil], []) := by kernel_rfl
  obtain ⟨⟨x1, x2, x3⟩, hx, hx1⟩ := Option.map_eq_some_iff.1 hw
  simp only [Prod.mk.injEq] at hx1
  obtain ⟨rfl, rfl⟩ := hx1
  exact OpenSpec.preRow_of_cond 8 hx (by kernel_rfl) (fun k hk => by cases hk) (by kernel_rfl) (Tb.laid_met os _)
set_option maxRecDepth 100000 in
set_option maxHeartbeats 2000000 in
theorem lifted (os : Os) (started : os.Started) (H : Type) (enc : TypeId × Value → H) (F0 : Stop.Interp) :
    ReturnsInHanded {} Tryd.checked os 3 .any ((OpenSpec.ofChange Rows.glyphTextsSpec).preRow enc Tryd.prog Tryd.f3 Rows.glyphTextsRow.domain false Rows.glyphTextsRow.laid) (((OpenSpec.ofChange Rows.glyphTextsSpec).at F0).post enc Tryd.prog Tryd.f3 false true false false) := by
  refine returnsInHanded_of_row (C := Tryd.checked) (s := OpenSpec.ofChange Rows.glyphTextsSpec) own started (by kernel_rfl) Tryd.func3
    (witness_row_atRef (enc := enc) (C := Tryd.checked) false (Tb.laidWorld os) #[.slice none 0 0] rfl (by kernel_rfl) (by kernel_rfl) (by kernel_rfl) (witness_row os enc)) ?_
  intro W base args ds gs before hval hW _ _ hsz hL _ _
  exact contract H enc W base args ds gs before hval hW hsz hL
theorem said : Rows.GlyphTextsSaid :=
  OpenClaim.holds_of_cond 3 Tryd.f3 rfl rfl rfl rfl rfl rfl rfl ⟨rfl, rfl, rfl, rfl, rfl⟩ rfl rfl rfl rfl rfl (by kernel_rfl) Tryd.func3 (by kernel_rfl)
    (of_decide_eq_true (by kernel_rfl)) (by unfold Func.isWrapper; first | (rw [if_pos (by decide +kernel)]; kernel_rfl) | (rw [if_neg (by decide +kernel)]; exact ⟨rfl, rfl⟩))
    (fun os started H enc _ F0 => by rw [OpenClaim.pre_eq_preRow]; exact lifted os started H enc F0)
theorem plain (f : FuncId) (fn : Func) (hf : Tryd.pinned.checked.prog.funcNamed "siglum/siglumlaw01.GlyphTexts" = some f) (hfn : Tryd.pinned.checked.prog.funcs[f]? = some fn) :
    false = Tryd.pinned.checked.prog.looks [] ∧ ∀ (j : Nat) t, fn.params[j]? = some t → Tryd.pinned.checked.prog.wantsStandIn t = false := by
  obtain rfl : f = 3 := Option.some.inj ((show Tryd.prog.funcNamed "siglum/siglumlaw01.GlyphTexts" = some 3 by kernel_rfl).symm.trans hf) |>.symm
  obtain rfl : fn = Tryd.f3 := (Option.some.inj (Tryd.func3.symm.trans hfn)).symm
  refine ⟨by kernel_rfl, fun j t ht => ?_⟩
  rw [Tryd.params3] at ht
  have hm : t ∈ [22] := by simpa using Array.mem_of_getElem? ht
  have hall : ([22].all fun u => !Tryd.prog.wantsStandIn u) = true := by kernel_rfl
  exact (show Tryd.prog.wantsStandIn t = false by simpa using List.all_eq_true.1 hall t hm)
end Go.Proofs.YtfcobfjjcocggaaDoor.glyphTexts
namespace Go.Proofs.YtfcobfjjcocggaaDoor
theorem glyphTexts_holds : Rows.GlyphTextsCardSaid :=
  Claim7.holds_tied_plain_at .later [] _ _ _ _ glyphTexts.said (fun _ h => by cases h) (by kernel_rfl) (fun _ h => by cases h) glyphTexts_row_tie rfl ⟨rfl, rfl⟩ (by kernel_rfl) rfl glyphTexts.plain (by kernel_rfl)
end Go.Proofs.YtfcobfjjcocggaaDoor
