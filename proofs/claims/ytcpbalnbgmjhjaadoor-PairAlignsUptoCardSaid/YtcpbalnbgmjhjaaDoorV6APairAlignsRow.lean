/-
  PairAligns: for every input of bulk at most 1048576 the law answers true; its arguments read behind the call as they read before.
-/
import Derived.Test.YtcpbalnbgmjhjaaDoorCards
import Derived.Test.YtcpbalnbgmjhjaaDoorTie
import Derived.Test.YtcpbalnbgmjhjaaDoorV624
import Derived.Test.YtcpbalnbgmjhjaaDoorV621
import Derived.WalkKit
import Derived.ProofKit
import Derived.OpenShut
import Derived.ShutString
import Derived.ChangeOld
import Derived.Below
import Derived.SizedLaws
import Derived.Deep.DeepHandedRow
import Derived.Deep.DeepWitnessRowRef
namespace Go.Proofs.YtcpbalnbgmjhjaaDoor.pairAligns
open Go.ChangeShapes Go.WideShapes Go.ChangeAt Go.RowKit Go.Proofs.YtcpbalnbgmjhjaaDoor.Q Go.Proofs.YtcpbalnbgmjhjaaDoorW.PrintWords
open Go.ChangeMaps (open_string shut_string)
set_option linter.unusedVariables false
set_option linter.unusedSimpArgs false
theorem own : ownKnob Tryd.prog.godebug = none := by kernel_rfl
theorem laidOut : laidOutB Tryd.prog = true := by kernel_rfl
structure S23 where
  f0 : Int
  f1 : Int
  f2 : Int
  f3 : Int
def k23 : Kd S23 := Kd.iso (Kd.pair (Kd.int .i64) (Kd.pair (Kd.int .i64) (Kd.pair (Kd.int .i64) (Kd.int .i64)))) (fun x : S23 => (x.f0, x.f1, x.f2, x.f3))
theorem k23_open {w : World} {x : S23} {cs : List Value} (h : k23.K w x cs) : cs = [.int .i64 x.f0, .int .i64 x.f1, .int .i64 x.f2, .int .i64 x.f3] := by
  obtain ⟨c0, r0, rfl, h0, c1, r1, rfl, h1, c2, r2, rfl, h2, h3⟩ := h
  obtain rfl : c0 = [.int .i64 x.f0] := h0
  obtain rfl : c1 = [.int .i64 x.f1] := h1
  obtain rfl : c2 = [.int .i64 x.f2] := h2
  obtain rfl : r2 = [.int .i64 x.f3] := h3
  rfl
theorem k23_mk (w : World) (x : S23) : k23.K w x [.int .i64 x.f0, .int .i64 x.f1, .int .i64 x.f2, .int .i64 x.f3] := ⟨[.int .i64 x.f0], [.int .i64 x.f1, .int .i64 x.f2, .int .i64 x.f3], rfl, rfl, ⟨[.int .i64 x.f1], [.int .i64 x.f2, .int .i64 x.f3], rfl, rfl, ⟨[.int .i64 x.f2], [.int .i64 x.f3], rfl, rfl, rfl⟩⟩⟩
theorem opens_T23 : Op.Opens Tryd.prog 23 k23 (fun x => ((Lit.int .i64 x.f0).wf = true) ∧ ((Lit.int .i64 x.f1).wf = true) ∧ ((Lit.int .i64 x.f2).wf = true) ∧ ((Lit.int .i64 x.f3).wf = true)) (fun x => 1 + 1 + 1 + 1 + 1) := by
  intro H enc w base spare held fuel cs x h
  obtain ⟨ys, n, hx, hyl, hcl, hf⟩ := Op.open_fields Tryd.underlying23 (by kernel_rfl) (by kernel_rfl) h
  obtain ⟨v0, y0, c0, e0, t0⟩ := hf 0 _ rfl
  obtain ⟨a0, K0, G0, B0⟩ := (Op.opens_int Tryd.underlying3) t0
  obtain ⟨v1, y1, c1, e1, t1⟩ := hf 1 _ rfl
  obtain ⟨a1, K1, G1, B1⟩ := (Op.opens_int Tryd.underlying3) t1
  obtain ⟨v2, y2, c2, e2, t2⟩ := hf 2 _ rfl
  obtain ⟨a2, K2, G2, B2⟩ := (Op.opens_int Tryd.underlying3) t2
  obtain ⟨v3, y3, c3, e3, t3⟩ := hf 3 _ rfl
  obtain ⟨a3, K3, G3, B3⟩ := (Op.opens_int Tryd.underlying3) t3
  obtain rfl : cs = [v0, v1, v2, v3] := by
    apply List.ext_getElem?
    intro j
    match j with
    | 0 => exact c0
    | 1 => exact c1
    | 2 => exact c2
    | 3 => exact c3
    | j + 4 => rw [List.getElem?_eq_none (by rw [hcl]; simp), List.getElem?_eq_none (by simp)]
  obtain rfl : ys = [y0, y1, y2, y3] := by
    apply List.ext_getElem?
    intro j
    match j with
    | 0 => exact e0
    | 1 => exact e1
    | 2 => exact e2
    | 3 => exact e3
    | j + 4 => rw [List.getElem?_eq_none (by rw [hyl]; simp), List.getElem?_eq_none (by simp)]
  obtain rfl : v0 = _ := by have q := K0; injection q
  obtain rfl : v1 = _ := by have q := K1; injection q
  obtain rfl : v2 = _ := by have q := K2; injection q
  obtain rfl : v3 = _ := by have q := K3; injection q
  refine ⟨⟨a0, a1, a2, a3⟩, k23_mk w ⟨a0, a1, a2, a3⟩ , ⟨G0, G1, G2, G3⟩, ?_⟩
  rw [hx]
  simp only [List.map_cons, List.map_nil, Rows.uptoBulk, Rows.uptoBulkAll]
  have B0' : 1 ≤ Rows.uptoBulk y0.1 := B0
  have B1' : 1 ≤ Rows.uptoBulk y1.1 := B1
  have B2' : 1 ≤ Rows.uptoBulk y2.1 := B2
  have B3' : 1 ≤ Rows.uptoBulk y3.1 := B3
  omega
set_option maxHeartbeats 1000000 in
set_option maxRecDepth 100000 in
theorem contract (H : Type) (enc : TypeId × Value → H) (W : World) (base : Nat) (args : Array Value) (ds gs : List (DataW H)) (before : List MemPlace)
    (hval0 : ∀ (j : Nat) t v, Tryd.f9.params[j]? = some t → args[j]? = some v → Value.okWide Tryd.prog W .any base t v)
    (hW : DataW.Whole enc Tryd.prog Tryd.f9.params.toList Rows.pairAlignsSpec.vars false W args.toList ds gs before) (hsz0 : (DataW.weightsEach Tryd.prog (Tryd.f9.params.toList ++ Rows.pairAlignsSpec.plain.varTypes Tryd.prog) (ds ++ gs)).all (· ≤ reachBytes) = true) (hL : laidMet Tryd.prog Tb.listed W) (hk : Rows.uptoSmall H (ds ++ gs) = true) :
    Calls Tryd.prog 9 args W fun e W' => ∃ v, e = .returned v ∧ Rows.pairAlignsSpec.post enc Tryd.prog Tryd.f9 false true false false W args v W' := by
  have hsz : (DataW.weightsEach Tryd.prog (Tryd.f9.params.toList ++ Rows.pairAlignsSpec.plain.varTypes Tryd.prog) (ds ++ gs)).all (· ≤ reachBytes) = true := hsz0
  have hval : ∀ (j : Nat) t v, Tryd.f9.params[j]? = some t → args[j]? = some v → Value.okWide Tryd.prog W .any base t v := hval0
  have hW' := hW
  obtain ⟨p, q, hA0, hV, rfl, hfz, hnd⟩ := hW
  have hA : DataW.TrodAll enc Tryd.prog W 0 (fun _ => true) true Tryd.f9.params.toList args.toList ds p := hA0
  rw [Tryd.params9] at hA hval hsz
  obtain ⟨v0, vs0, d0, ds0, p0, q0, hargs, rfl, rfl, h0, r0⟩ := trodAll_cons hA
  obtain ⟨v1, vs1, d1, ds1, p1, q1, rfl, rfl, rfl, h1, r1⟩ := trodAll_cons r0
  obtain ⟨v2, vs2, d2, ds2, p2, q2, rfl, rfl, rfl, h2, r2⟩ := trodAll_cons r1
  obtain ⟨rfl, rfl, rfl⟩ := trodAll_nil r2
  obtain rfl : args = #[v0, v1, v2] := by cases args; simp_all
  obtain ⟨rfl, rfl⟩ := trodVars_none hV
  have hb := Op.bulk_bound hk
  simp only [List.append_nil, List.nil_append, List.cons_append, Rows.uptoBulkAll] at hb
  obtain ⟨x0, len0, cap0, rfl⟩ := okWide_slice Tryd.underlying38 (hval 0 38 v0 rfl rfl)
  have k0 := h0
  have lt0 : ∀ x ∈ p0, x.block < W.heap.size := by obtain ⟨m, hm⟩ := k0; exact DataW.trod_lt m _ _ _ hm
  obtain ⟨fuel0, hf0⟩ := h0
  obtain ⟨l0, K0, g0, b0⟩ := (Op.opens_slice Tryd.underlying38 (by kernel_rfl) (Op.opens_string Tryd.underlying9)) hf0
  obtain ⟨A0, z0, hcs0, hl0, C0⟩ := K0
  simp [Value.cells] at hcs0
  obtain ⟨rfl, rfl, rfl⟩ := hcs0
  have b0' : ((l0.map fun y => (y.size + 1)).sum + 1) ≤ Rows.uptoBulk d0 := b0
  obtain ⟨x1, len1, cap1, rfl⟩ := okWide_slice Tryd.underlying38 (hval 1 38 v1 rfl rfl)
  have k1 := h1
  have lt1 : ∀ x ∈ p1, x.block < W.heap.size := by obtain ⟨m, hm⟩ := k1; exact DataW.trod_lt m _ _ _ hm
  obtain ⟨fuel1, hf1⟩ := h1
  obtain ⟨l1, K1, g1, b1⟩ := (Op.opens_slice Tryd.underlying38 (by kernel_rfl) (Op.opens_string Tryd.underlying9)) hf1
  obtain ⟨A1, z1, hcs1, hl1, C1⟩ := K1
  simp [Value.cells] at hcs1
  obtain ⟨rfl, rfl, rfl⟩ := hcs1
  have b1' : ((l1.map fun y => (y.size + 1)).sum + 1) ≤ Rows.uptoBulk d1 := b1
  obtain ⟨cs2, rfl, _⟩ := okWide_struct Tryd.underlying23 (hval 2 23 v2 rfl rfl)
  have k2 := h2
  have lt2 : ∀ x ∈ p2, x.block < W.heap.size := by obtain ⟨m, hm⟩ := k2; exact DataW.trod_lt m _ _ _ hm
  obtain ⟨fuel2, hf2⟩ := h2
  obtain ⟨a2, K2, g2, b2⟩ := opens_T23 hf2
  have eq2 : cs2.toList = [.int .i64 a2.f0, .int .i64 a2.f1, .int .i64 a2.f2, .int .i64 a2.f3] := k23_open K2
  obtain rfl : cs2 = #[.int .i64 a2.f0, .int .i64 a2.f1, .int .i64 a2.f2, .int .i64 a2.f3] := by rw [← Array.toArray_toList (xs := cs2), eq2]
  have b2' : (1 + 1 + 1 + 1 + 1) ≤ Rows.uptoBulk d2 := b2
  have HB : ((l0.map fun y => (y.size + 1)).sum + 1) + ((l1.map fun y => (y.size + 1)).sum + 1) + (1 + 1 + 1 + 1 + 1) ≤ 1048576 := by
    omega
  obtain ⟨k, R⟩ := Pure.PairAligns l0 l1 a2.f0 a2.f1 a2.f2 a2.f3 g0 g1 g2 HB
  clear hA0 hval0 hsz0 hsz
  have hT := Tb.tabs hL
  refine (siglumlaw10_PairAligns.calls k _ _ l0 _ _ l1 a2.f0 a2.f1 a2.f2 a2.f3 true W C0 hl0 C1 hl1 hT R).mono fun e W' ⟨he, bel⟩ => ?_
  subst he
  exact ⟨_, rfl, _, _, _, [], _, [], hW', trodAll_mk1 (shut_bool Tryd.underlying4 _), (trodAll_cons_mk (Below.trod laidOut (by kernel_rfl) (of_decide_eq_true (by kernel_rfl)) k0 bel lt0) (trodAll_cons_mk (Below.trod laidOut (by kernel_rfl) (of_decide_eq_true (by kernel_rfl)) k1 bel lt1) (trodAll_cons_mk (Below.trod laidOut (by kernel_rfl) (of_decide_eq_true (by kernel_rfl)) k2 bel lt2) trodAll_mk0))), rfl, bel.frame _, fun h => by cases h⟩
theorem witness_row (os : Os) {H : Type} (enc : TypeId × Value → H) :
    (Rows.OpenSpec.upto Rows.pairAlignsSpec).preRow enc Tryd.prog Tryd.f9 Rows.pairAlignsUptoRow.domain false Rows.pairAlignsUptoRow.laid ((Tb.laidWorld os).forCall (fun _ _ => 0) ⟨#[], #[.slice none 0 0, .slice none 0 0, .agg #[.int .i64 0, .int .i64 0, .int .i64 0, .int .i64 0]], []⟩).memory #[.slice none 0 0, .slice none 0 0, .agg #[.int .i64 0, .int .i64 0, .int .i64 0, .int .i64 0]] := by
  have hw : (DataW.whole enc Tryd.prog ((Tb.laidWorld os).forCall (fun _ _ => 0) ⟨#[], #[.slice none 0 0, .slice none 0 0, .agg #[.int .i64 0, .int .i64 0, .int .i64 0, .int .i64 0]], []⟩).memory Tryd.f9.params.toList (Rows.OpenSpec.upto Rows.pairAlignsSpec).vars false (#[.slice none 0 0, .slice none 0 0, .agg #[.int .i64 0, .int .i64 0, .int .i64 0, .int .i64 0]] : Array Value).toList 8).map (fun x => (x.1, x.2.1)) = some ([.nil, .nil, .agg [.lit (.int .i64 0), .lit (.int .i64 0), .lit (.int .i64 0), .lit (.int .i64 0)]], []) := by kernel_rfl
  obtain ⟨⟨x1, x2, x3⟩, hx, hx1⟩ := Option.map_eq_some_iff.1 hw
  simp only [Prod.mk.injEq] at hx1
  obtain ⟨rfl, rfl⟩ := hx1
  exact OpenSpec.preRow_of_cond 8 hx (by kernel_rfl) (fun k hk => by cases hk; kernel_rfl) (by kernel_rfl) (Tb.laid_met os _)
set_option maxRecDepth 100000 in
set_option maxHeartbeats 2000000 in
theorem lifted (os : Os) (started : os.Started) (H : Type) (enc : TypeId × Value → H) (F0 : Stop.Interp) :
    ReturnsInHanded {} Tryd.checked os 9 .any ((Rows.OpenSpec.upto Rows.pairAlignsSpec).preRow enc Tryd.prog Tryd.f9 Rows.pairAlignsUptoRow.domain false Rows.pairAlignsUptoRow.laid) (((Rows.OpenSpec.upto Rows.pairAlignsSpec).at F0).post enc Tryd.prog Tryd.f9 false true false false) := by
  refine returnsInHanded_of_row (C := Tryd.checked) (s := Rows.OpenSpec.upto Rows.pairAlignsSpec) own started (by kernel_rfl) Tryd.func9
    (witness_row_atRef (enc := enc) (C := Tryd.checked) false (Tb.laidWorld os) #[.slice none 0 0, .slice none 0 0, .agg #[.int .i64 0, .int .i64 0, .int .i64 0, .int .i64 0]] rfl (by kernel_rfl) (by kernel_rfl) (by kernel_rfl) (witness_row os enc)) ?_
  intro W base args ds gs before hval hW _ hcond hsz hL _ _
  exact contract H enc W base args ds gs before hval hW hsz hL (hcond _ rfl)
theorem said : Rows.PairAlignsUptoSaid :=
  OpenClaim.holds_of_cond 9 Tryd.f9 rfl rfl rfl rfl rfl rfl rfl ⟨rfl, rfl, rfl, rfl, rfl⟩ rfl rfl rfl rfl rfl (by kernel_rfl) Tryd.func9 (by kernel_rfl)
    (of_decide_eq_true (by kernel_rfl)) (by unfold Func.isWrapper; first | (rw [if_pos (by decide +kernel)]; kernel_rfl) | (rw [if_neg (by decide +kernel)]; exact ⟨rfl, rfl⟩))
    (fun os started H enc _ F0 => by rw [OpenClaim.pre_eq_preRow]; exact lifted os started H enc F0)
theorem plain (f : FuncId) (fn : Func) (hf : Tryd.pinned.checked.prog.funcNamed "siglum/siglumlaw10.PairAligns" = some f) (hfn : Tryd.pinned.checked.prog.funcs[f]? = some fn) :
    false = Tryd.pinned.checked.prog.looks [] ∧ ∀ (j : Nat) t, fn.params[j]? = some t → Tryd.pinned.checked.prog.wantsStandIn t = false := by
  obtain rfl : f = 9 := Option.some.inj ((show Tryd.prog.funcNamed "siglum/siglumlaw10.PairAligns" = some 9 by kernel_rfl).symm.trans hf) |>.symm
  obtain rfl : fn = Tryd.f9 := (Option.some.inj (Tryd.func9.symm.trans hfn)).symm
  refine ⟨by kernel_rfl, fun j t ht => ?_⟩
  rw [Tryd.params9] at ht
  have hm : t ∈ [38, 38, 23] := by simpa using Array.mem_of_getElem? ht
  have hall : ([38, 38, 23].all fun u => !Tryd.prog.wantsStandIn u) = true := by kernel_rfl
  exact (show Tryd.prog.wantsStandIn t = false by simpa using List.all_eq_true.1 hall t hm)
end Go.Proofs.YtcpbalnbgmjhjaaDoor.pairAligns
namespace Go.Proofs.YtcpbalnbgmjhjaaDoor
theorem pairAligns_holds : Rows.PairAlignsUptoCardSaid :=
  Claim7.holds_tied_plain_at .later [] _ _ _ _ pairAligns.said (fun _ h => by cases h) (by kernel_rfl) (fun _ h => by cases h) pairAlignsUpto_row_tie rfl ⟨rfl, rfl⟩ (by kernel_rfl) rfl pairAligns.plain (by kernel_rfl)
end Go.Proofs.YtcpbalnbgmjhjaaDoor
