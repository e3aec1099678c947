/-
  PairPrices: for every input of bulk at most 1048576 the law answers true; its arguments read behind the call as they read before.
-/
import Derived.Test.YtcpbalnbgmjhjaaDoorCards
import Derived.Test.YtcpbalnbgmjhjaaDoorTie
import Derived.Test.YtcpbalnbgmjhjaaDoorV627
import Derived.Test.YtcpbalnbgmjhjaaDoorV621
import Derived.WalkKit
import Derived.ProofKit
import Derived.OpenShut
import Derived.ShutString
import Derived.ChangeOld
import Derived.Below
import Derived.SizedLaws
import Derived.Deep.DeepHandedRow
import Derived.Deep.DeepWitnessRowRef
namespace Go.Proofs.YtcpbalnbgmjhjaaDoor.pairPrices
open Go.ChangeShapes Go.WideShapes Go.ChangeAt Go.RowKit Go.Proofs.YtcpbalnbgmjhjaaDoor.Q Go.Proofs.YtcpbalnbgmjhjaaDoorW.PrintWords
open Go.ChangeMaps (open_string shut_string)
set_option linter.unusedVariables false
set_option linter.unusedSimpArgs false
theorem own : ownKnob Tryd.prog.godebug = none := by kernel_rfl
theorem laidOut : laidOutB Tryd.prog = true := by kernel_rfl
structure S23 where
  f0 : Int
  f1 : Int
  f2 : Int
  f3 : Int
def k23 : Kd S23 := Kd.iso (Kd.pair (Kd.int .i64) (Kd.pair (Kd.int .i64) (Kd.pair (Kd.int .i64) (Kd.int .i64)))) (fun x : S23 => (x.f0, x.f1, x.f2, x.f3))
theorem k23_open {w : World} {x : S23} {cs : List Value} (h : k23.K w x cs) : cs = [.int .i64 x.f0, .int .i64 x.f1, .int .i64 x.f2, .int .i64 x.f3] := by
  obtain ⟨c0, r0, rfl, h0, c1, r1, rfl, h1, c2, r2, rfl, h2, h3⟩ := h
  obtain rfl : c0 = [.int .i64 x.f0] := h0
  obtain rfl : c1 = [.int .i64 x.f1] := h1
  obtain rfl : c2 = [.int .i64 x.f2] := h2
  obtain rfl : r2 = [.int .i64 x.f3] := h3
  rfl
theorem k23_mk (w : World) (x : S23) : k23.K w x [.int .i64 x.f0, .int .i64 x.f1, .int .i64 x.f2, .int .i64 x.f3] := ⟨[.int .i64 x.f0], [.int .i64 x.f1, .int .i64 x.f2, .int .i64 x.f3], rfl, rfl, ⟨[.int .i64 x.f1], [.int .i64 x.f2, .int .i64 x.f3], rfl, rfl, ⟨[.int .i64 x.f2], [.int .i64 x.f3], rfl, rfl, rfl⟩⟩⟩
structure S63 where
  f0 : List (ByteArray)
  f1 : List (ByteArray)
  f2 : List (S61)
  f3 : S23
def k63 : Kd S63 := Kd.iso (Kd.pair (Kd.slice 9 Kd.string) (Kd.pair (Kd.slice 9 Kd.string) (Kd.pair (Kd.slice 61 k61) k23))) (fun x : S63 => (x.f0, x.f1, x.f2, x.f3))
theorem k63_open {w : World} {x : S63} {cs : List Value} (h : k63.K w x cs) : ∃ A0_ c0_ A1_ c1_ A2_ c2_, cs = [.slice A0_ x.f0.length c0_, .slice A1_ x.f1.length c1_, .slice A2_ x.f2.length c2_, .int .i64 x.f3.f0, .int .i64 x.f3.f1, .int .i64 x.f3.f2, .int .i64 x.f3.f3] ∧ x.f0.length ≤ c0_ ∧ Kd.string.C w A0_ x.f0.length x.f0 ∧ x.f1.length ≤ c1_ ∧ Kd.string.C w A1_ x.f1.length x.f1 ∧ x.f2.length ≤ c2_ ∧ k61.C w A2_ x.f2.length x.f2 := by
  obtain ⟨s0_, t0_, rfl, h0_, ⟨s1_, t1_, rfl, h1_, ⟨s2_, t2_, rfl, h2_, h3_⟩⟩⟩ := h
  obtain ⟨A0_, c0_, rfl, l0_, g0_⟩ := h0_
  obtain ⟨A1_, c1_, rfl, l1_, g1_⟩ := h1_
  obtain ⟨A2_, c2_, rfl, l2_, g2_⟩ := h2_
  obtain rfl : t2_ = [.int .i64 x.f3.f0, .int .i64 x.f3.f1, .int .i64 x.f3.f2, .int .i64 x.f3.f3] := k23_open h3_
  exact ⟨A0_, c0_, A1_, c1_, A2_, c2_, rfl, l0_, g0_, l1_, g1_, l2_, g2_⟩
theorem k63_mk (w : World) (x : S63) {A0_ : Option Addr} {c0_ : Nat} (l0_ : x.f0.length ≤ c0_) (g0_ : Kd.string.C w A0_ x.f0.length x.f0) {A1_ : Option Addr} {c1_ : Nat} (l1_ : x.f1.length ≤ c1_) (g1_ : Kd.string.C w A1_ x.f1.length x.f1) {A2_ : Option Addr} {c2_ : Nat} (l2_ : x.f2.length ≤ c2_) (g2_ : k61.C w A2_ x.f2.length x.f2) : k63.K w x [.slice A0_ x.f0.length c0_, .slice A1_ x.f1.length c1_, .slice A2_ x.f2.length c2_, .int .i64 x.f3.f0, .int .i64 x.f3.f1, .int .i64 x.f3.f2, .int .i64 x.f3.f3] := ⟨[.slice A0_ x.f0.length c0_], [.slice A1_ x.f1.length c1_, .slice A2_ x.f2.length c2_, .int .i64 x.f3.f0, .int .i64 x.f3.f1, .int .i64 x.f3.f2, .int .i64 x.f3.f3], rfl, ⟨A0_, c0_, rfl, l0_, g0_⟩, ⟨[.slice A1_ x.f1.length c1_], [.slice A2_ x.f2.length c2_, .int .i64 x.f3.f0, .int .i64 x.f3.f1, .int .i64 x.f3.f2, .int .i64 x.f3.f3], rfl, ⟨A1_, c1_, rfl, l1_, g1_⟩, ⟨[.slice A2_ x.f2.length c2_], [.int .i64 x.f3.f0, .int .i64 x.f3.f1, .int .i64 x.f3.f2, .int .i64 x.f3.f3], rfl, ⟨A2_, c2_, rfl, l2_, g2_⟩, (k23_mk w x.f3)⟩⟩⟩
theorem opens_T61 : Op.Opens Tryd.prog 61 k61 (fun x => ((Lit.int .i64 x.f0).wf = true) ∧ ((Lit.int .i64 x.f1).wf = true)) (fun x => 1 + 1 + 1) := by
  intro H enc w base spare held fuel cs x h
  obtain ⟨ys, n, hx, hyl, hcl, hf⟩ := Op.open_fields Tryd.underlying61 (by kernel_rfl) (by kernel_rfl) h
  obtain ⟨v0, y0, c0, e0, t0⟩ := hf 0 _ rfl
  obtain ⟨a0, K0, G0, B0⟩ := (Op.opens_int Tryd.underlying3) t0
  obtain ⟨v1, y1, c1, e1, t1⟩ := hf 1 _ rfl
  obtain ⟨a1, K1, G1, B1⟩ := (Op.opens_int Tryd.underlying3) t1
  obtain rfl : cs = [v0, v1] := by
    apply List.ext_getElem?
    intro j
    match j with
    | 0 => exact c0
    | 1 => exact c1
    | j + 2 => rw [List.getElem?_eq_none (by rw [hcl]; simp), List.getElem?_eq_none (by simp)]
  obtain rfl : ys = [y0, y1] := by
    apply List.ext_getElem?
    intro j
    match j with
    | 0 => exact e0
    | 1 => exact e1
    | j + 2 => rw [List.getElem?_eq_none (by rw [hyl]; simp), List.getElem?_eq_none (by simp)]
  obtain rfl : v0 = _ := by have q := K0; injection q
  obtain rfl : v1 = _ := by have q := K1; injection q
  refine ⟨⟨a0, a1⟩, k61_mk w ⟨a0, a1⟩ , ⟨G0, G1⟩, ?_⟩
  rw [hx]
  simp only [List.map_cons, List.map_nil, Rows.uptoBulk, Rows.uptoBulkAll]
  have B0' : 1 ≤ Rows.uptoBulk y0.1 := B0
  have B1' : 1 ≤ Rows.uptoBulk y1.1 := B1
  omega
theorem opens_T23 : Op.Opens Tryd.prog 23 k23 (fun x => ((Lit.int .i64 x.f0).wf = true) ∧ ((Lit.int .i64 x.f1).wf = true) ∧ ((Lit.int .i64 x.f2).wf = true) ∧ ((Lit.int .i64 x.f3).wf = true)) (fun x => 1 + 1 + 1 + 1 + 1) := by
  intro H enc w base spare held fuel cs x h
  obtain ⟨ys, n, hx, hyl, hcl, hf⟩ := Op.open_fields Tryd.underlying23 (by kernel_rfl) (by kernel_rfl) h
  obtain ⟨v0, y0, c0, e0, t0⟩ := hf 0 _ rfl
  obtain ⟨a0, K0, G0, B0⟩ := (Op.opens_int Tryd.underlying3) t0
  obtain ⟨v1, y1, c1, e1, t1⟩ := hf 1 _ rfl
  obtain ⟨a1, K1, G1, B1⟩ := (Op.opens_int Tryd.underlying3) t1
  obtain ⟨v2, y2, c2, e2, t2⟩ := hf 2 _ rfl
  obtain ⟨a2, K2, G2, B2⟩ := (Op.opens_int Tryd.underlying3) t2
  obtain ⟨v3, y3, c3, e3, t3⟩ := hf 3 _ rfl
  obtain ⟨a3, K3, G3, B3⟩ := (Op.opens_int Tryd.underlying3) t3
  obtain rfl : cs = [v0, v1, v2, v3] := by
    apply List.ext_getElem?
    intro j
    match j with
    | 0 => exact c0
    | 1 => exact c1
    | 2 => exact c2
    | 3 => exact c3
    | j + 4 => rw [List.getElem?_eq_none (by rw [hcl]; simp), List.getElem?_eq_none (by simp)]
  obtain rfl : ys = [y0, y1, y2, y3] := by
    apply List.ext_getElem?
    intro j
    match j with
    | 0 => exact e0
    | 1 => exact e1
    | 2 => exact e2
    | 3 => exact e3
    | j + 4 => rw [List.getElem?_eq_none (by rw [hyl]; simp), List.getElem?_eq_none (by simp)]
  obtain rfl : v0 = _ := by have q := K0; injection q
  obtain rfl : v1 = _ := by have q := K1; injection q
  obtain rfl : v2 = _ := by have q := K2; injection q
  obtain rfl : v3 = _ := by have q := K3; injection q
  refine ⟨⟨a0, a1, a2, a3⟩, k23_mk w ⟨a0, a1, a2, a3⟩ , ⟨G0, G1, G2, G3⟩, ?_⟩
  rw [hx]
  simp only [List.map_cons, List.map_nil, Rows.uptoBulk, Rows.uptoBulkAll]
  have B0' : 1 ≤ Rows.uptoBulk y0.1 := B0
  have B1' : 1 ≤ Rows.uptoBulk y1.1 := B1
  have B2' : 1 ≤ Rows.uptoBulk y2.1 := B2
  have B3' : 1 ≤ Rows.uptoBulk y3.1 := B3
  omega
set_option maxRecDepth 100000 in
theorem opens_T63 : Op.Opens Tryd.prog 63 k63 (fun x => ((∀ y ∈ x.f0, (y.size ≤ maxLen)) ∧ x.f0.length ≤ maxLen) ∧ ((∀ y ∈ x.f1, (y.size ≤ maxLen)) ∧ x.f1.length ≤ maxLen) ∧ ((∀ y ∈ x.f2, (((Lit.int .i64 y.f0).wf = true) ∧ ((Lit.int .i64 y.f1).wf = true))) ∧ x.f2.length ≤ maxLen) ∧ (((Lit.int .i64 x.f3.f0).wf = true) ∧ ((Lit.int .i64 x.f3.f1).wf = true) ∧ ((Lit.int .i64 x.f3.f2).wf = true) ∧ ((Lit.int .i64 x.f3.f3).wf = true))) (fun x => ((x.f0.map fun y => (y.size + 1)).sum + 1) + ((x.f1.map fun y => (y.size + 1)).sum + 1) + ((x.f2.map fun y => (1 + 1 + 1)).sum + 1) + (1 + 1 + 1 + 1 + 1) + 1) := by
  intro H enc w base spare held fuel cs x h
  obtain ⟨ys, n, _, hx, hlen, hyl, hf⟩ := DataW.trod_struct Tryd.underlying63 h
  have hlen' : cs.length = 7 := hlen.trans (by kernel_rfl)
  have hyl' : ys.length = 4 := hyl
  obtain ⟨v0, v1, v2, v3, v4, v5, v6, rfl⟩ : ∃ v0 v1 v2 v3 v4 v5 v6, cs = [v0, v1, v2, v3, v4, v5, v6] := by
    match cs, hlen' with
    | [v0, v1, v2, v3, v4, v5, v6], _ => exact ⟨v0, v1, v2, v3, v4, v5, v6, rfl⟩
  obtain ⟨y0, y1, y2, y3, rfl⟩ : ∃ y0 y1 y2 y3, ys = [y0, y1, y2, y3] := by
    match ys, hyl' with
    | [y0, y1, y2, y3], _ => exact ⟨y0, y1, y2, y3, rfl⟩
  have t0 : DataW.trod enc Tryd.prog w base spare held n 38 [v0] = some y0 := by
    have z := hf 0 _ rfl
    have zc : Tryd.prog.cellsOf 38 = 1 := by kernel_rfl
    have z2 : DataW.trod enc Tryd.prog w base spare held n 38 (([v0, v1, v2, v3, v4, v5, v6].drop 0).take (Tryd.prog.cellsOf 38)) = some y0 := z
    rw [zc] at z2
    exact z2
  have t1 : DataW.trod enc Tryd.prog w base spare held n 38 [v1] = some y1 := by
    have z := hf 1 _ rfl
    have zc : Tryd.prog.cellsOf 38 = 1 := by kernel_rfl
    have z2 : DataW.trod enc Tryd.prog w base spare held n 38 (([v0, v1, v2, v3, v4, v5, v6].drop 1).take (Tryd.prog.cellsOf 38)) = some y1 := z
    rw [zc] at z2
    exact z2
  have t2 : DataW.trod enc Tryd.prog w base spare held n 50 [v2] = some y2 := by
    have z := hf 2 _ rfl
    have zc : Tryd.prog.cellsOf 50 = 1 := by kernel_rfl
    have z2 : DataW.trod enc Tryd.prog w base spare held n 50 (([v0, v1, v2, v3, v4, v5, v6].drop 2).take (Tryd.prog.cellsOf 50)) = some y2 := z
    rw [zc] at z2
    exact z2
  have t3 : DataW.trod enc Tryd.prog w base spare held n 23 [v3, v4, v5, v6] = some y3 := by
    have z := hf 3 _ rfl
    have zc : Tryd.prog.cellsOf 23 = 4 := by kernel_rfl
    have z2 : DataW.trod enc Tryd.prog w base spare held n 23 (([v0, v1, v2, v3, v4, v5, v6].drop 3).take (Tryd.prog.cellsOf 23)) = some y3 := z
    rw [zc] at z2
    exact z2
  obtain ⟨a0, K0, G0, B0⟩ := (Op.opens_slice Tryd.underlying38 (by kernel_rfl) (Op.opens_string Tryd.underlying9)) t0
  obtain ⟨A0, z0, K0, l0, C0⟩ := K0
  obtain rfl : v0 = _ := by have q := K0; injection q
  obtain ⟨a1, K1, G1, B1⟩ := (Op.opens_slice Tryd.underlying38 (by kernel_rfl) (Op.opens_string Tryd.underlying9)) t1
  obtain ⟨A1, z1, K1, l1, C1⟩ := K1
  obtain rfl : v1 = _ := by have q := K1; injection q
  obtain ⟨a2, K2, G2, B2⟩ := (Op.opens_slice Tryd.underlying50 (by kernel_rfl) opens_T61) t2
  obtain ⟨A2, z2, K2, l2, C2⟩ := K2
  obtain rfl : v2 = _ := by have q := K2; injection q
  obtain ⟨a3, K3, G3, B3⟩ := opens_T23 t3
  have q3 := k23_open K3
  simp only [List.cons.injEq, and_true] at q3
  obtain ⟨rfl, rfl, rfl, rfl⟩ := q3
  refine ⟨⟨a0, a1, a2, a3⟩, k63_mk w ⟨a0, a1, a2, a3⟩ l0 C0 l1 C1 l2 C2, ⟨G0, G1, G2, G3⟩, ?_⟩
  rw [hx]
  simp only [List.map_cons, List.map_nil, Rows.uptoBulk, Rows.uptoBulkAll]
  have B0' : ((a0.map fun y => (y.size + 1)).sum + 1) ≤ Rows.uptoBulk y0.1 := B0
  have B1' : ((a1.map fun y => (y.size + 1)).sum + 1) ≤ Rows.uptoBulk y1.1 := B1
  have B2' : ((a2.map fun y => (1 + 1 + 1)).sum + 1) ≤ Rows.uptoBulk y2.1 := B2
  have B3' : (1 + 1 + 1 + 1 + 1) ≤ Rows.uptoBulk y3.1 := B3
  omega
set_option maxHeartbeats 1000000 in
set_option maxRecDepth 100000 in
theorem contract (H : Type) (enc : TypeId × Value → H) (W : World) (base : Nat) (args : Array Value) (ds gs : List (DataW H)) (before : List MemPlace)
    (hval0 : ∀ (j : Nat) t v, Tryd.f13.params[j]? = some t → args[j]? = some v → Value.okWide Tryd.prog W .any base t v)
    (hW : DataW.Whole enc Tryd.prog Tryd.f13.params.toList Rows.pairPricesSpec.vars false W args.toList ds gs before) (hsz0 : (DataW.weightsEach Tryd.prog (Tryd.f13.params.toList ++ Rows.pairPricesSpec.plain.varTypes Tryd.prog) (ds ++ gs)).all (· ≤ reachBytes) = true) (hL : laidMet Tryd.prog Tb.listed W) (hk : Rows.uptoSmall H (ds ++ gs) = true) :
    Calls Tryd.prog 13 args W fun e W' => ∃ v, e = .returned v ∧ Rows.pairPricesSpec.post enc Tryd.prog Tryd.f13 false true false false W args v W' := by
  have hsz : (DataW.weightsEach Tryd.prog (Tryd.f13.params.toList ++ Rows.pairPricesSpec.plain.varTypes Tryd.prog) (ds ++ gs)).all (· ≤ reachBytes) = true := hsz0
  have hval : ∀ (j : Nat) t v, Tryd.f13.params[j]? = some t → args[j]? = some v → Value.okWide Tryd.prog W .any base t v := hval0
  have hW' := hW
  obtain ⟨p, q, hA0, hV, rfl, hfz, hnd⟩ := hW
  have hA : DataW.TrodAll enc Tryd.prog W 0 (fun _ => true) true Tryd.f13.params.toList args.toList ds p := hA0
  rw [Tryd.params13] at hA hval hsz
  obtain ⟨v0, vs0, d0, ds0, p0, q0, hargs, rfl, rfl, h0, r0⟩ := trodAll_cons hA
  obtain ⟨rfl, rfl, rfl⟩ := trodAll_nil r0
  obtain rfl : args = #[v0] := by cases args; simp_all
  obtain ⟨rfl, rfl⟩ := trodVars_none hV
  have hb := Op.bulk_bound hk
  simp only [List.append_nil, List.nil_append, List.cons_append, Rows.uptoBulkAll] at hb
  obtain ⟨cs0, rfl, _⟩ := okWide_struct Tryd.underlying63 (hval 0 63 v0 rfl rfl)
  have k0 := h0
  have lt0 : ∀ x ∈ p0, x.block < W.heap.size := by obtain ⟨m, hm⟩ := k0; exact DataW.trod_lt m _ _ _ hm
  obtain ⟨fuel0, hf0⟩ := h0
  obtain ⟨a0, K0, g0, b0⟩ := opens_T63 hf0
  obtain ⟨A0_0, c0_0, A0_1, c0_1, A0_2, c0_2, eq0, l0_0, C0_0, l0_1, C0_1, l0_2, C0_2⟩ := k63_open K0
  have eqq0 : cs0.toList = [.slice A0_0 a0.f0.length c0_0, .slice A0_1 a0.f1.length c0_1, .slice A0_2 a0.f2.length c0_2, .int .i64 a0.f3.f0, .int .i64 a0.f3.f1, .int .i64 a0.f3.f2, .int .i64 a0.f3.f3] := eq0
  obtain rfl : cs0 = #[.slice A0_0 a0.f0.length c0_0, .slice A0_1 a0.f1.length c0_1, .slice A0_2 a0.f2.length c0_2, .int .i64 a0.f3.f0, .int .i64 a0.f3.f1, .int .i64 a0.f3.f2, .int .i64 a0.f3.f3] := by rw [← Array.toArray_toList (xs := cs0), eqq0]
  have b0' : (((a0.f0.map fun y => (y.size + 1)).sum + 1) + ((a0.f1.map fun y => (y.size + 1)).sum + 1) + ((a0.f2.map fun y => (1 + 1 + 1)).sum + 1) + (1 + 1 + 1 + 1 + 1) + 1) ≤ Rows.uptoBulk d0 := b0
  have HB : (((a0.f0.map fun y => (y.size + 1)).sum + 1) + ((a0.f1.map fun y => (y.size + 1)).sum + 1) + ((a0.f2.map fun y => (1 + 1 + 1)).sum + 1) + (1 + 1 + 1 + 1 + 1) + 1) ≤ 1048576 := by
    omega
  obtain ⟨k, R⟩ := Pure.PairPrices a0.f0 a0.f1 a0.f2 a0.f3.f0 a0.f3.f1 a0.f3.f2 a0.f3.f3 g0 HB
  clear hA0 hval0 hsz0 hsz
  have hT := Tb.tabs hL
  refine (siglumlaw10_PairPrices.calls k _ _ a0.f0 _ _ a0.f1 _ _ a0.f2 a0.f3.f0 a0.f3.f1 a0.f3.f2 a0.f3.f3 true W C0_0 l0_0 C0_1 l0_1 C0_2 l0_2 hT R).mono fun e W' ⟨he, bel⟩ => ?_
  subst he
  exact ⟨_, rfl, _, _, _, [], _, [], hW', trodAll_mk1 (shut_bool Tryd.underlying4 _), (trodAll_cons_mk (Below.trod laidOut (by kernel_rfl) (of_decide_eq_true (by kernel_rfl)) k0 bel lt0) trodAll_mk0), rfl, bel.frame _, fun h => by cases h⟩
theorem witness_row (os : Os) {H : Type} (enc : TypeId × Value → H) :
    (Rows.OpenSpec.upto Rows.pairPricesSpec).preRow enc Tryd.prog Tryd.f13 Rows.pairPricesUptoRow.domain false Rows.pairPricesUptoRow.laid ((Tb.laidWorld os).forCall (fun _ _ => 0) ⟨#[], #[.agg #[.slice none 0 0, .slice none 0 0, .slice none 0 0, .int .i64 0, .int .i64 0, .int .i64 0, .int .i64 0]], []⟩).memory #[.agg #[.slice none 0 0, .slice none 0 0, .slice none 0 0, .int .i64 0, .int .i64 0, .int .i64 0, .int .i64 0]] := by
  have hw : (DataW.whole enc Tryd.prog ((Tb.laidWorld os).forCall (fun _ _ => 0) ⟨#[], #[.agg #[.slice none 0 0, .slice none 0 0, .slice none 0 0, .int .i64 0, .int .i64 0, .int .i64 0, .int .i64 0]], []⟩).memory Tryd.f13.params.toList (Rows.OpenSpec.upto Rows.pairPricesSpec).vars false (#[.agg #[.slice none 0 0, .slice none 0 0, .slice none 0 0, .int .i64 0, .int .i64 0, .int .i64 0, .int .i64 0]] : Array Value).toList 8).map (fun x => (x.1, x.2.1)) = some ([.agg [.nil, .nil, .nil, .agg [.lit (.int .i64 0), .lit (.int .i64 0), .lit (.int .i64 0), .lit (.int .i64 0)]]], []) := by kernel_rfl
  obtain ⟨⟨x1, x2, x3⟩, hx, hx1⟩ := Option.map_eq_some_iff.1 hw
  simp only [Prod.mk.injEq] at hx1
  obtain ⟨rfl, rfl⟩ := hx1
  exact OpenSpec.preRow_of_cond 8 hx (by kernel_rfl) (fun k hk => by cases hk; kernel_rfl) (by kernel_rfl) (Tb.laid_met os _)
set_option maxRecDepth 100000 in
set_option maxHeartbeats 2000000 in
theorem lifted (os : Os) (started : os.Started) (H : Type) (enc : TypeId × Value → H) (F0 : Stop.Interp) :
    ReturnsInHanded {} Tryd.checked os 13 .any ((Rows.OpenSpec.upto Rows.pairPricesSpec).preRow enc Tryd.prog Tryd.f13 Rows.pairPricesUptoRow.domain false Rows.pairPricesUptoRow.laid) (((Rows.OpenSpec.upto Rows.pairPricesSpec).at F0).post enc Tryd.prog Tryd.f13 false true false false) := by
  refine returnsInHanded_of_row (C := Tryd.checked) (s := Rows.OpenSpec.upto Rows.pairPricesSpec) own started (by kernel_rfl) Tryd.func13
    (witness_row_atRef (enc := enc) (C := Tryd.checked) false (Tb.laidWorld os) #[.agg #[.slice none 0 0, .slice none 0 0, .slice none 0 0, .int .i64 0, .int .i64 0, .int .i64 0, .int .i64 0]] rfl (by kernel_rfl) (by kernel_rfl) (by kernel_rfl) (witness_row os enc)) ?_
  intro W base args ds gs before hval hW _ hcond hsz hL _ _
  exact contract H enc W base args ds gs before hval hW hsz hL (hcond _ rfl)
theorem said : Rows.PairPricesUptoSaid :=
  OpenClaim.holds_of_cond 13 Tryd.f13 rfl rfl rfl rfl rfl rfl rfl ⟨rfl, rfl, rfl, rfl, rfl⟩ rfl rfl rfl rfl rfl (by kernel_rfl) Tryd.func13 (by kernel_rfl)
    (of_decide_eq_true (by kernel_rfl)) (by unfold Func.isWrapper; first | (rw [if_pos (by decide +kernel)]; kernel_rfl) | (rw [if_neg (by decide +kernel)]; exact ⟨rfl, rfl⟩))
    (fun os started H enc _ F0 => by rw [OpenClaim.pre_eq_preRow]; exact lifted os started H enc F0)
theorem plain (f : FuncId) (fn : Func) (hf : Tryd.pinned.checked.prog.funcNamed "siglum/siglumlaw10.PairPrices" = some f) (hfn : Tryd.pinned.checked.prog.funcs[f]? = some fn) :
    false = Tryd.pinned.checked.prog.looks [] ∧ ∀ (j : Nat) t, fn.params[j]? = some t → Tryd.pinned.checked.prog.wantsStandIn t = false := by
  obtain rfl : f = 13 := Option.some.inj ((show Tryd.prog.funcNamed "siglum/siglumlaw10.PairPrices" = some 13 by kernel_rfl).symm.trans hf) |>.symm
  obtain rfl : fn = Tryd.f13 := (Option.some.inj (Tryd.func13.symm.trans hfn)).symm
  refine ⟨by kernel_rfl, fun j t ht => ?_⟩
  rw [Tryd.params13] at ht
  have hm : t ∈ [63] := by simpa using Array.mem_of_getElem? ht
  have hall : ([63].all fun u => !Tryd.prog.wantsStandIn u) = true := by kernel_rfl
  exact (show Tryd.prog.wantsStandIn t = false by simpa using List.all_eq_true.1 hall t hm)
end Go.Proofs.YtcpbalnbgmjhjaaDoor.pairPrices
namespace Go.Proofs.YtcpbalnbgmjhjaaDoor
theorem pairPrices_holds : Rows.PairPricesUptoCardSaid :=
  Claim7.holds_tied_plain_at .later [] _ _ _ _ pairPrices.said (fun _ h => by cases h) (by kernel_rfl) (fun _ h => by cases h) pairPricesUpto_row_tie rfl ⟨rfl, rfl⟩ (by kernel_rfl) rfl pairPrices.plain (by kernel_rfl)
end Go.Proofs.YtcpbalnbgmjhjaaDoor
