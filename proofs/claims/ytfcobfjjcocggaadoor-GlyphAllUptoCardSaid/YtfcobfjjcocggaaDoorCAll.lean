/-
  The walk through the law GlyphAll: two ranges over glyph.All against the document's cells.
-/
import Derived.Test.YtfcobfjjcocggaaDoorCFacts
import Derived.Test.YtfcobfjjcocggaaDoorPureAwake
import Derived.Test.YtfcobfjjcocggaaDoorRange
import Derived.Test.YtfcobfjjcocggaaDoorCxf13
import Derived.Test.YtfcobfjjcocggaaDoorCxf17
namespace Go.Proofs.YtfcobfjjcocggaaDoor.C
open Go.RowKit Go.Shelf Go.Proofs Go.Proofs.YtfcobfjjcocggaaDoorW.PrintWords Go.Proofs.YtfcobfjjcocggaaDoorW.PrintLast Go.Proofs.YtfcobfjjcocggaaDoorW.PrintMore
attribute [local go_sem] Oper.semAt_some
set_option linter.unusedVariables false
set_option linter.unusedSimpArgs false
namespace Rg
theorem prefix_iff (PS pre : List (Int × Int)) (x : Int × Int) (h : pre <+: PS) (hl : pre.length < PS.length) : pre ++ [x] <+: PS ↔ x = PS[pre.length] := by
  obtain ⟨r, rfl⟩ := h
  cases r with
  | nil => simp at hl
  | cons y r =>
    rw [List.prefix_append_right_inj]
    simp
/-- No number of what has come is the place to stop. -/
def Far (a1 : Int) (n : Nat) : Prop := ∀ m : Nat, 1 ≤ m → m ≤ n → (m : Int) ≠ a1
theorem far_next {a1 : Int} {pre : List (Int × Int)} {x : Int × Int} (h : Far a1 pre.length) (hn : ((pre ++ [x]).length : Int) ≠ a1) : Far a1 (pre ++ [x]).length := fun m h1 h2 => by
  by_cases hm : m = (pre ++ [x]).length
  · rw [hm]; exact hn
  · exact h m h1 (by rw [List.length_append] at h2 hm; simp at h2 hm; omega)
theorem froz_belowN {w W : World} {a : Addr} {v : Value} (h : w.cell? a = some v) (hf : w.frozen? a = false) (hb : Below w.heap.size w W) : W.frozen? a = false := (Go.frozen_kept h (grown_of_below hb none) (fun r e => by cases e)).trans hf
end Rg
theorem pairs_cells (s : ByteArray) : ∀ f i, Go.Proofs.YtfcobfjjcocggaaDoor.Rg.pairs s f i = (gCells s f i).map fun c => (c.f0, c.f2)
  | 0, _ => rfl
  | f + 1, i => by
    by_cases h : i < s.size
    · rw [Go.Proofs.YtfcobfjjcocggaaDoor.Rg.pairs_step s f i h, gCells_step s f i h, List.map_cons, pairs_cells s f]
      rfl
    · rw [Go.Proofs.YtfcobfjjcocggaaDoor.Rg.pairs_end s _ i h, gCells_end s _ i h]
      rfl
def siglumlaw01_GlyphAll.f (a0 : ByteArray) (a1 : Int) : Option Bool := if a0.size ≤ 4294967296 then some true else none
set_option maxHeartbeats 8000000 in
set_option maxRecDepth 100000 in
theorem all_law (a0 : ByteArray) (a1 : Int) (w : World) (hs : a0.size ≤ 4294967296) (hT : Lib.Utf8Tabs 0 1 w) :
    CallsIn Fence.wide 5 Tryd.prog 6 #[.string a0, .int .i64 a1] w fun e w' => e = .returned (.bool true) ∧ Below w.heap.size w w' := by
  have HL : Aside0 (siglumref01_Cells.f (a0.size + 12) a0 = some (gCells a0 a0.size 0)) := ⟨Pl.cells_eq _ a0 hs (by omega)⟩
  have hlen := Pl.cells_le a0
  have hpc := pairs_cells a0 a0.size 0
  obtain ⟨L, hLe⟩ : ∃ L, gCells a0 a0.size 0 = L := ⟨_, rfl⟩
  rw [hLe] at HL hlen hpc
  obtain ⟨PS, hPSe⟩ : ∃ PS, Go.Proofs.YtfcobfjjcocggaaDoor.Rg.pairs a0 a0.size 0 = PS := ⟨_, rfl⟩
  rw [hPSe] at hpc
  have hPL : PS.length = L.length := by rw [hpc, List.length_map]
  have hPS : ∀ (n : Nat) (h : n < PS.length), PS[n] = ((rd_T30 L (n : Int)).f0, (rd_T30 L (n : Int)).f2) := fun n h => by
    subst hpc
    rw [List.getElem_map, Pl.get_rd L n (by simpa using h)]
  have HSTOPS := Aside0.mk hPSe
  clear hpc hLe
  refine callsIn_of_wp_marks Tryd.func6 rfl trivial ?_ rfl
  simp only [Tryd.ntmps6, List.size_toArray, List.length_cons, List.length_nil, Nat.reduceAdd, Nat.reduceSub, Array.replicate_succ, Array.replicate_zero, List.push_toArray, List.append_toArray, List.nil_append, List.cons_append]
  have hB0 : Below w.heap.size w ((w.alloc (.cells #[.int .i64 a1] 3)).alloc (.cells #[.bool false] 4)) := ((Below.refl _ w).alloc (Nat.le_refl _) _).alloc (by simp) _
  have hT2 := Utf.tabs_step hT hB0
  have HB0 := Aside0.mk hB0
  have HT := Aside0.mk hT2
  have c0 := Go.Proofs.YtfcobfjjcocggaaDoor.Rg.cell_new_l w (.int .i64 a1) 3
  have c1 := Go.Proofs.YtfcobfjjcocggaaDoor.Rg.cell_new_l (w.alloc (.cells #[.int .i64 a1] 3)) (.bool false) 4
  rw [World.size_alloc] at c1
  have HC0 := Aside0.mk (Go.Proofs.YtfcobfjjcocggaaDoor.Rg.cell_alloc_l (.cells #[.bool false] 4) c0.1)
  have HC1 := Aside0.mk c1
  have HPS := Aside0.mk hPS
  have HPL := Aside0.mk hPL
  have HLEN := Aside0.mk hlen
  clear hB0 hT hT2 c0 c1 hPS hPL hlen
  gi_wp2_with (first | (refine ⟨trivial, ?_⟩; gi_at_call 13; refine (callsIn_wide.2 (siglumlaw01_awake.calls true _ HT.out Pure.awake1)).mono ?_; rintro e w1 ⟨rfl, hb1⟩; have HB1 := Aside0.mk hb1; clear hb1) | (refine ⟨trivial, ?_⟩; gi_at_call 23; refine (Go.Proofs.YtfcobfjjcocggaaDoor.Rg.All_in _ _ trivial rfl a0 _).mono ?_; rintro e w2 ⟨rfl, rfl⟩) | (refine ⟨trivial, ?_⟩; gi_at_call 17; refine (callsIn_wide.2 (siglumref01_Cells.calls _ a0 L _ HL.out)).mono ?_; rintro e w3 ⟨v, rfl, hv, hb3⟩; obtain ⟨A, c, rfl, hc, hC⟩ := Kd.R_reads hv; have HC3 := Aside0.mk hC; have HB3 := Aside0.mk hb3; clear hv hC hb3))
  have hPS := HPS.out
  have hPL := HPL.out
  have hC := HC3.out
  have hb1 := HB1.out
  have hb3 := HB3.out
  have hB03 : Below w.heap.size w w3 := ((HB0.out.trans (hb1.mono HB0.out.size)).alloc (Nat.le_trans HB0.out.size hb1.size) _).trans (hb3.mono (by have h1 := HB0.out.size; have h2 := hb1.size; simp at h1 h2 ⊢; omega))
  have hS1 := pw_cell_below hb1 HC0.out
  have hR1 := pw_cell_below hb1 HC1.out.1
  have hF1 := Rg.froz_belowN HC1.out.1 HC1.out.2 hb1
  have hA2 := Go.Proofs.YtfcobfjjcocggaaDoor.Rg.cell_new_l w1 (.string a0) 9
  have hS3 := pw_cell_below hb3 (Go.Proofs.YtfcobfjjcocggaaDoor.Rg.cell_alloc_l _ hS1)
  have hR3 := pw_cell_below hb3 (Go.Proofs.YtfcobfjjcocggaaDoor.Rg.cell_alloc_l _ hR1)
  have hF3 := Rg.froz_belowN (Go.Proofs.YtfcobfjjcocggaaDoor.Rg.cell_alloc_l _ hR1) (Go.Proofs.YtfcobfjjcocggaaDoor.Rg.frozen_alloc_l _ hR1 hF1) hb3
  have hA3 := pw_cell_below hb3 hA2.1
  have c6 := Go.Proofs.YtfcobfjjcocggaaDoor.Rg.cell_new_l w3 (.slice A L.length c) 22
  have c7 := Go.Proofs.YtfcobfjjcocggaaDoor.Rg.cell_new_l (w3.alloc (.cells #[.slice A L.length c] 22)) (.int .i64 0) 3
  rw [World.size_alloc] at c7
  have hB0 : Below w3.heap.size w3 ((w3.alloc (.cells #[.slice A L.length c] 22)).alloc (.cells #[.int .i64 0] 3)) := ((Below.refl _ w3).alloc (Nat.le_refl _) _).alloc (by simp) _
  have hl32 := HLEN.out
  have hst := HSTOPS.out
  clear HSTOPS
  refine wpIn_rangeFunc_ownF rfl (by decide) (gf := 44) (lb := #[.pointer (some ⟨w1.heap.size, 0, none⟩)]) rfl trivial (enters_of Tryd.func44 (by kernel_rfl) rfl)
    (Go.Proofs.YtfcobfjjcocggaaDoor.Rg.all1_stops _ _ trivial rfl (by decide) w1.heap.size a0 _ ((hB0.cell (World.block_lt_of_cell? w3 _ hA3)).trans hA3)) walksK_t walksK_b (Below.refl _ _) (fun _ => rfl)
    (fun pre W => ((pre <+: PS ∧ Rg.Far a1 pre.length) ∧ W.cell? ⟨w3.heap.size, 0, none⟩ = some (.slice A L.length c) ∧ W.cell? ⟨w3.heap.size + 1, 0, none⟩ = some (.int .i64 (pre.length : Int)) ∧ W.frozen? ⟨w3.heap.size + 1, 0, none⟩ = false) ∧ Below w3.heap.size w3 W)
    (fun c_ pre W => (c_ = .ret ∧ ¬ pre <+: PS) ∨ (c_ = .exit 0 ∧ ((pre.length : Int) = a1 ∧ pre <+: PS ∧ 1 ≤ pre.length) ∧ W.cell? ⟨w3.heap.size, 0, none⟩ = some (.slice A L.length c) ∧ W.cell? ⟨w3.heap.size + 1, 0, none⟩ = some (.int .i64 (pre.length : Int)) ∧ W.frozen? ⟨w3.heap.size + 1, 0, none⟩ = false ∧ Below w3.heap.size w3 W))
    (OwnFrom.and (fun s X Y row hs hg hr => ⟨hs.1, Go.cell_kept hs.2.1 hg (fun r e => (hr r e).2), Go.cell_kept hs.2.2.1 hg (fun r e => (hr r e).2), (Go.frozen_kept hs.2.2.1 hg (fun r e => (hr r e).2)).trans hs.2.2.2⟩) (ownFrom_below (Nat.le_refl _) hB0.size))
    (fun c_ s X Y row hs hg hr => hs.elim (fun h => .inl h) (fun h => .inr ⟨h.1, h.2.1, Go.cell_kept h.2.2.1 hg (fun r e => (hr r e).2), Go.cell_kept h.2.2.2.1 hg (fun r e => (hr r e).2), (Go.frozen_kept h.2.2.2.1 hg (fun r e => (hr r e).2)).trans h.2.2.2.2.1, ownFrom_below (β := Unit) (Nat.le_refl _) hB0.size () X Y row h.2.2.2.2.2 hg hr⟩))
    ⟨⟨⟨List.nil_prefix, fun m h1 h2 => by simp at h2; omega⟩, Go.Proofs.YtfcobfjjcocggaaDoor.Rg.cell_alloc_l _ c6.1, c7.1, c7.2⟩, hB0⟩
    ?a1 ?assign ?body ?done ?stop
  case assign =>
    intro l x W K hK
    have HKK := Aside0.mk hK
    clear hK
    gi_wp2
    exact HKK.out
  case body =>
    rintro l pre x W ⟨⟨hlive, hcw, hcn, hfn⟩, hB⟩ hlen

    rw [hst] at hlen
    have hl2 : pre.length < L.length := by rw [← hPL]; exact hlen
    have hx := Rg.prefix_iff PS pre x hlive.1 hlen
    have i0 : (0 : Int) ≤ (pre.length : Int) := Int.natCast_nonneg _
    have i1 : (pre.length : Int) < (L.length : Int) := Int.ofNat_lt.2 hl2
    have hge : decide ((pre.length : Int) ≥ (L.length : Int)) = false := decide_eq_false (by omega)
    have hge2 : decide ((L.length : Int) ≤ (pre.length : Int)) = false := decide_eq_false (by omega)
    obtain ⟨ad, e0, x0, _, x2, _, _⟩ := at_T30 (Kd.C_below hC hB) (pre.length : Int) i0 i1
    subst e0
    rw [hPS pre.length hlen] at hx
    obtain ⟨X0, hX0⟩ : ∃ X, (rd_T30 L (pre.length : Int)).f0 = X := ⟨_, rfl⟩
    obtain ⟨X2, hX2⟩ : ∃ X, (rd_T30 L (pre.length : Int)).f2 = X := ⟨_, rfl⟩
    rw [hX0] at x0 hx
    rw [hX2] at x2 hx
    have HX := Aside0.mk hx
    have HLV := Aside0.mk hlive
    obtain ⟨M, hM⟩ : ∃ M : Int, (pre.length : Int) = M := ⟨_, rfl⟩
    have hMw : wrap64 (M + 1) = (pre.length : Int) + 1 := by rw [← hM]; unfold wrap64; omega
    have HM := Aside0.mk hM
    have hMi : IntKind.i64.wrap (M + 1) = wrap64 (M + 1) := i64_w _
    obtain ⟨M2, hM2⟩ : ∃ M2 : Int, wrap64 (M + 1) = M2 := ⟨_, rfl⟩
    have HM2 : Aside0 (M2 = ((pre.length + 1 : Nat) : Int)) := ⟨by rw [← hM2, hMw]; rfl⟩
    rw [hM2] at hMi
    have hIM : Aside0 (pre.length < L.length) := ⟨hl2⟩
    rw [hM] at hcn i0 i1 hge hge2 x0 x2
    replace i0 := eq_true i0
    replace i1 := eq_true i1
    clear hx hM hMw hX0 hX2 hl2 hlen hlive
    obtain ⟨x1, xr⟩ := x
    try dsimp only at HX

    have hcs : W.cell? ⟨w.heap.size, 0, none⟩ = some (.int .i64 a1) := (hB.cell (World.block_lt_of_cell? w3 _ hS3)).trans hS3
    by_cases h1 : x1 = X0
    · by_cases h2 : xr = X2
      · have hpx : pre ++ [(x1, xr)] <+: PS := HX.out.2 (by rw [h1, h2])
        have HPX := Aside0.mk hpx
        subst h1
        subst h2
        have b1 : (x1 != x1) = false := bne_self_eq_false _
        have b2 : (xr != xr) = false := bne_self_eq_false _
        have hc2 := World.cell?_setCell_same' W ⟨w3.heap.size + 1, 0, none⟩ (.int .i64 M2) (by rw [hcn]; rfl)
        have hcs2 := (World.cell?_setCell_other W ⟨w3.heap.size + 1, 0, none⟩ ⟨w.heap.size, 0, none⟩ (.int .i64 M2) (fun e => by have h0 := World.block_lt_of_cell? w3 _ hS3; dsimp only at h0; injection e with e1; omega)).trans hcs
        have hcw2 := (World.cell?_setCell_other W ⟨w3.heap.size + 1, 0, none⟩ ⟨w3.heap.size, 0, none⟩ (.int .i64 M2) (by simp)).trans hcw
        have hfn2 : (W.setCell ⟨w3.heap.size + 1, 0, none⟩ (.int .i64 M2)).frozen? ⟨w3.heap.size + 1, 0, none⟩ = false := by rw [World.frozen?_setCell]; exact hfn
        have hB2 := hB.setCell (p := ⟨w3.heap.size + 1, 0, none⟩) (by simp) (.int .i64 M2)
        have hln : ((pre ++ [(x1, xr)]).length : Int) = M2 := by rw [List.length_append, HM2.out]; rfl
        have HLN := Aside0.mk hln
        clear hln hpx
        by_cases h3 : M2 = a1
        · have b3 : (M2 == a1) = true := beq_iff_eq.2 h3
          have H3 := Aside0.mk h3
          clear h3
          gi_wp2
          exact ⟨KeepsOthers.setCell _ _ _, .inr ⟨rfl, ⟨HLN.out.trans H3.out, HPX.out, by simp⟩, hcw2, by rw [HLN.out]; exact hc2, hfn2, hB2⟩⟩
        · have b3 : (M2 == a1) = false := beq_eq_false_iff_ne.2 h3
          have H3 := Aside0.mk h3
          clear h3
          gi_wp2
          exact ⟨KeepsOthers.setCell _ _ _, (KeepsOthers.setCell _ _ _).walks, ⟨⟨HPX.out, Rg.far_next HLV.out.2 (fun h => H3.out (by rw [← h, ← HLN.out])) ⟩, hcw2, by rw [HLN.out]; exact hc2, hfn2⟩, hB2⟩
      · have hn2 : ¬ pre ++ [(x1, xr)] <+: PS := fun h => h2 (congrArg Prod.snd (HX.out.1 h))
        have HN2 := Aside0.mk hn2
        subst h1
        have b1 : (x1 != x1) = false := bne_self_eq_false _
        have hb2 := Aside0.mk h2
        clear hn2
        have b2 : (xr != X2) = true := bne_iff_ne.2 h2
        have hRc := (hB.cell (World.block_lt_of_cell? w3 _ hR3)).trans hR3
        have hRfz := Rg.froz_belowN hR3 hF3 hB
        gi_wp2
        exact ⟨KeepsOthers.setCell _ _ _, .inl ⟨rfl, HN2.out⟩⟩

    · have hn1 : ¬ pre ++ [(x1, xr)] <+: PS := fun h => h1 (congrArg Prod.fst (HX.out.1 h))
      have HN1 := Aside0.mk hn1
      clear hn1
      have b1 : (x1 != X0) = true := bne_iff_ne.2 h1
      have hRc := (hB.cell (World.block_lt_of_cell? w3 _ hR3)).trans hR3
      have hRfz := Rg.froz_belowN hR3 hF3 hB
      gi_wp2
      exact ⟨KeepsOthers.setCell _ _ _, .inl ⟨rfl, HN1.out⟩⟩
  case done =>
    rintro D ys W hD hys ⟨⟨hlive, hcw, hcn, hfn⟩, hB⟩ hK
    have hys2 : ys.length = L.length := by rw [hys, hst, hPL]
    rw [hys2] at hcn
    have hfar := hlive.2
    rw [hys2] at hfar
    have hcs : W.cell? ⟨w.heap.size, 0, none⟩ = some (.int .i64 a1) := (hB.cell (World.block_lt_of_cell? w3 _ hS3)).trans hS3
    have hnn : ((L.length : Int) != (L.length : Int)) = false := bne_self_eq_false _
    have HF := Aside0.mk hfar
    have hD3 : w3.heap.size + 1 < D := by simp at hD; omega
    clear hlive hys hys2 hfar hD
    by_cases ha : 0 < a1
    · have d1 : decide (0 < a1) = true := decide_eq_true ha
      have d1' : decide (a1 > 0) = true := decide_eq_true ha
      have hb : ¬ a1 < (L.length : Int) := fun h => HF.out a1.toNat (by omega) (by omega) (by omega)
      have d2 : decide (a1 < (L.length : Int)) = false := decide_eq_false hb
      clear ha hb
      gi_wp2
      have hB' := hB.setCell (p := ⟨w3.heap.size + 1, 0, none⟩) (by simp) (.int .i64 0)
      have hK' := (KeepsOthers.setCell W ⟨w3.heap.size + 1, 0, none⟩ (.int .i64 0)).same D _ hK rfl
      have hDl : D < (W.setCell ⟨w3.heap.size + 1, 0, none⟩ (.int .i64 0)).heap.size := (Array.getElem?_eq_some_iff.1 hK').1
      have hsz3 : w3.heap.size ≤ (W.setCell ⟨w3.heap.size + 1, 0, none⟩ (.int .i64 0)).heap.size := hB'.size
      refine wpIn_rangeFunc_ownF rfl (by decide) (gf := 44) (lb := #[.pointer (some ⟨w1.heap.size, 0, none⟩)]) rfl trivial (enters_of Tryd.func44 (by kernel_rfl) rfl)
        (Go.Proofs.YtfcobfjjcocggaaDoor.Rg.all1_stops _ _ trivial rfl (by decide) w1.heap.size a0 _ ((hB'.cell (World.block_lt_of_cell? w3 _ hA3)).trans hA3)) walksK_t walksK_b (Below.refl _ _) (fun _ => rfl)
        (fun pre V => (pre <+: PS ∧ V.cell? ⟨w3.heap.size, 0, none⟩ = some (.slice A L.length c) ∧ V.cell? ⟨w3.heap.size + 1, 0, none⟩ = some (.int .i64 (pre.length : Int)) ∧ V.frozen? ⟨w3.heap.size + 1, 0, none⟩ = false ∧ V.heap[D]? = some (.deferred (some []))) ∧ Below w3.heap.size w3 V)
        (fun c pre V => c = .ret ∧ ¬ pre <+: PS)
        (OwnFrom.and (fun s X Y row hs hg hr => ⟨hs.1, Go.cell_kept hs.2.1 hg (fun r e => (hr r e).2), Go.cell_kept hs.2.2.1 hg (fun r e => (hr r e).2), (Go.frozen_kept hs.2.2.1 hg (fun r e => (hr r e).2)).trans hs.2.2.2.1, (hg.block D (Array.getElem?_eq_some_iff.1 hs.2.2.2.2).1 (fun e => by have := (hr D e.symm).1; omega)).trans hs.2.2.2.2⟩) (ownFrom_below (Nat.le_refl _) hsz3))
        (fun c s X Y row hs hg hr => hs)
        ⟨⟨List.nil_prefix, (World.cell?_setCell_other W ⟨w3.heap.size + 1, 0, none⟩ ⟨w3.heap.size, 0, none⟩ (.int .i64 0) (by simp)).trans hcw, World.cell?_setCell_same' W ⟨w3.heap.size + 1, 0, none⟩ (.int .i64 0) (by rw [hcn]; rfl), by rw [World.frozen?_setCell]; exact hfn, hK'⟩, hB'⟩
        ?aa1 ?assign2 ?body2 ?done2 ?stop2
      case assign2 =>
        intro l x W K hK
        have HKK := Aside0.mk hK
        clear hK
        gi_wp2
        exact HKK.out
      case body2 =>
        rintro l pre x V ⟨⟨hlive, hcw, hcn, hfn, hKD⟩, hB⟩ hlen

        rw [hst] at hlen
        have hl2 : pre.length < L.length := by rw [← hPL]; exact hlen
        have hx := Rg.prefix_iff PS pre x hlive hlen
        have i0 : (0 : Int) ≤ (pre.length : Int) := Int.natCast_nonneg _
        have i1 : (pre.length : Int) < (L.length : Int) := Int.ofNat_lt.2 hl2
        have hge : decide ((pre.length : Int) ≥ (L.length : Int)) = false := decide_eq_false (by omega)
        have hge2 : decide ((L.length : Int) ≤ (pre.length : Int)) = false := decide_eq_false (by omega)
        obtain ⟨ad, e0, x0, _, x2, _, _⟩ := at_T30 (Kd.C_below hC hB) (pre.length : Int) i0 i1
        subst e0
        rw [hPS pre.length hlen] at hx
        obtain ⟨X0, hX0⟩ : ∃ X, (rd_T30 L (pre.length : Int)).f0 = X := ⟨_, rfl⟩
        obtain ⟨X2, hX2⟩ : ∃ X, (rd_T30 L (pre.length : Int)).f2 = X := ⟨_, rfl⟩
        rw [hX0] at x0 hx
        rw [hX2] at x2 hx
        have HX := Aside0.mk hx
        have HLV := Aside0.mk hlive
        obtain ⟨M, hM⟩ : ∃ M : Int, (pre.length : Int) = M := ⟨_, rfl⟩
        have hMw : wrap64 (M + 1) = (pre.length : Int) + 1 := by rw [← hM]; unfold wrap64; omega
        have HM := Aside0.mk hM
        have hMi : IntKind.i64.wrap (M + 1) = wrap64 (M + 1) := i64_w _
        obtain ⟨M2, hM2⟩ : ∃ M2 : Int, wrap64 (M + 1) = M2 := ⟨_, rfl⟩
        have HM2 : Aside0 (M2 = ((pre.length + 1 : Nat) : Int)) := ⟨by rw [← hM2, hMw]; rfl⟩
        rw [hM2] at hMi
        have hIM : Aside0 (pre.length < L.length) := ⟨hl2⟩
        rw [hM] at hcn i0 i1 hge hge2 x0 x2
        replace i0 := eq_true i0
        replace i1 := eq_true i1
        clear hx hM hMw hX0 hX2 hl2 hlen hlive
        obtain ⟨x1, xr⟩ := x
        try dsimp only at HX

        by_cases h1 : x1 = X0
        · by_cases h2 : xr = X2
          · have hpx : pre ++ [(x1, xr)] <+: PS := HX.out.2 (by rw [h1, h2])
            have HPX := Aside0.mk hpx
            subst h1
            subst h2
            have b1 : (x1 != x1) = false := bne_self_eq_false _
            have b2 : (xr != xr) = false := bne_self_eq_false _
            have hc2 := World.cell?_setCell_same' V ⟨w3.heap.size + 1, 0, none⟩ (.int .i64 M2) (by rw [hcn]; rfl)
            have hcw2 := (World.cell?_setCell_other V ⟨w3.heap.size + 1, 0, none⟩ ⟨w3.heap.size, 0, none⟩ (.int .i64 M2) (by simp)).trans hcw
            have hfn2 : (V.setCell ⟨w3.heap.size + 1, 0, none⟩ (.int .i64 M2)).frozen? ⟨w3.heap.size + 1, 0, none⟩ = false := by rw [World.frozen?_setCell]; exact hfn
            have hB2 := hB.setCell (p := ⟨w3.heap.size + 1, 0, none⟩) (by simp) (.int .i64 M2)
            have hKD2 := (KeepsOthers.setCell V ⟨w3.heap.size + 1, 0, none⟩ (.int .i64 M2)).same D _ hKD rfl
            have hln : ((pre ++ [(x1, xr)]).length : Int) = M2 := by rw [List.length_append, HM2.out]; rfl
            have HLN := Aside0.mk hln
            clear hln hpx
            gi_wp2
            exact ⟨KeepsOthers.setCell _ _ _, (KeepsOthers.setCell _ _ _).walks, ⟨HPX.out, hcw2, by rw [HLN.out]; exact hc2, hfn2, hKD2⟩, hB2⟩
          · have hn2 : ¬ pre ++ [(x1, xr)] <+: PS := fun h => h2 (congrArg Prod.snd (HX.out.1 h))
            have HN2 := Aside0.mk hn2
            subst h1
            have b1 : (x1 != x1) = false := bne_self_eq_false _
            clear hn2
            have b2 : (xr != X2) = true := bne_iff_ne.2 h2
            have hRc := (hB.cell (World.block_lt_of_cell? w3 _ hR3)).trans hR3
            have hRfz := Rg.froz_belowN hR3 hF3 hB
            gi_wp2
            exact ⟨KeepsOthers.setCell _ _ _, rfl, HN2.out⟩

        · have hn1 : ¬ pre ++ [(x1, xr)] <+: PS := fun h => h1 (congrArg Prod.fst (HX.out.1 h))
          have HN1 := Aside0.mk hn1
          clear hn1
          have b1 : (x1 != X0) = true := bne_iff_ne.2 h1
          have hRc := (hB.cell (World.block_lt_of_cell? w3 _ hR3)).trans hR3
          have hRfz := Rg.froz_belowN hR3 hF3 hB
          gi_wp2
          exact ⟨KeepsOthers.setCell _ _ _, rfl, HN1.out⟩

      case stop2 =>
        rintro D2 c2 pre V hD2 hpre ⟨rfl, hnp⟩ hK2
        rw [hst] at hpre
        exact absurd hpre hnp
      case done2 =>
        rintro D2 ys V hD2 hys ⟨⟨_, hcw, hcn, hfn, hKD⟩, hB2⟩ hK2
        rw [hys, hst, hPL] at hcn
        have hR4 : V.cell? ⟨w.heap.size + 1, 0, none⟩ = some (.bool false) := (hB2.cell (World.block_lt_of_cell? w3 _ hR3)).trans hR3
        have hRf : V.frozen? ⟨w.heap.size + 1, 0, none⟩ = false := (Rg.froz_belowN hR3 hF3 hB2)
        have hee : ((L.length : Int) == (L.length : Int)) = true := beq_self_eq_true _
        gi_wp2
        have hKa := (KeepsOthers.setCell V ⟨w.heap.size + 1, 0, none⟩ (.bool true)).same D2 _ hK2 rfl
        have hKb := (KeepsOthers.setCell V ⟨w.heap.size + 1, 0, none⟩ (.bool true)).same D _ hKD rfl
        have hcT := World.cell?_setCell_same' V ⟨w.heap.size + 1, 0, none⟩ (.bool true) (by rw [hR4]; rfl)
        refine ⟨by simp, .inl ⟨_, _, rfl, run_takeDeferred hKa, ?_⟩⟩
        have hne : D ≠ D2 := by omega
        have hKc : ((V.setCell ⟨w.heap.size + 1, 0, none⟩ (.bool true)).putObj D2 (.deferred none)).heap[D]? = some (.deferred (some [])) := ((grownBy_putObj' _ D2 (.deferred none)).block D (Array.getElem?_eq_some_iff.1 hKb).1 (fun e => hne (by injection e))).trans hKb
        refine ⟨by simp, .inl ⟨_, _, rfl, run_takeDeferred hKc, ?_⟩⟩
        have hc4 := Go.cell_kept hcT (grownBy_putObj' _ D2 (.deferred none)) (fun r e => by cases e; exact ⟨_, hKa, rfl⟩)
        have hc5 := Go.cell_kept hc4 (grownBy_putObj' _ D (.deferred none)) (fun r e => by cases e; exact ⟨_, hKc, rfl⟩)
        refine ⟨.bool true, ?_, rfl, ?_⟩
        · simp [results, Tryd.f6, go_sem, hc5]
        · have hBV : Below w.heap.size w (V.setCell ⟨w.heap.size + 1, 0, none⟩ (.bool true)) := (hB03.trans (hB2.mono hB03.size)).setCell (p := ⟨w.heap.size + 1, 0, none⟩) (by simp) _
          have hs3 := hB03.size
          have hs4 := hB2.size
          have hlt2 : w.heap.size ≤ D2 := by omega
          have hlt1 : w.heap.size ≤ D := by omega
          exact (hBV.grown (grownBy_putObj' _ D2 (.deferred none)) hBV.size (fun k e => by cases e; exact hlt2)).grown (grownBy_putObj' _ D (.deferred none)) (by have := hBV.size; exact Nat.le_trans this (grownBy_putObj' _ D2 (.deferred none)).size) (fun k e => by cases e; exact hlt1)
    · have d1 : decide (0 < a1) = false := decide_eq_false ha
      have d1' : decide (a1 > 0) = false := decide_eq_false ha
      clear ha
      gi_wp2
      have hB' := hB.setCell (p := ⟨w3.heap.size + 1, 0, none⟩) (by simp) (.int .i64 0)
      have hK' := (KeepsOthers.setCell W ⟨w3.heap.size + 1, 0, none⟩ (.int .i64 0)).same D _ hK rfl
      have hDl : D < (W.setCell ⟨w3.heap.size + 1, 0, none⟩ (.int .i64 0)).heap.size := (Array.getElem?_eq_some_iff.1 hK').1
      have hsz3 : w3.heap.size ≤ (W.setCell ⟨w3.heap.size + 1, 0, none⟩ (.int .i64 0)).heap.size := hB'.size
      refine wpIn_rangeFunc_ownF rfl (by decide) (gf := 44) (lb := #[.pointer (some ⟨w1.heap.size, 0, none⟩)]) rfl trivial (enters_of Tryd.func44 (by kernel_rfl) rfl)
        (Go.Proofs.YtfcobfjjcocggaaDoor.Rg.all1_stops _ _ trivial rfl (by decide) w1.heap.size a0 _ ((hB'.cell (World.block_lt_of_cell? w3 _ hA3)).trans hA3)) walksK_t walksK_b (Below.refl _ _) (fun _ => rfl)
        (fun pre V => (pre <+: PS ∧ V.cell? ⟨w3.heap.size, 0, none⟩ = some (.slice A L.length c) ∧ V.cell? ⟨w3.heap.size + 1, 0, none⟩ = some (.int .i64 (pre.length : Int)) ∧ V.frozen? ⟨w3.heap.size + 1, 0, none⟩ = false ∧ V.heap[D]? = some (.deferred (some []))) ∧ Below w3.heap.size w3 V)
        (fun c pre V => c = .ret ∧ ¬ pre <+: PS)
        (OwnFrom.and (fun s X Y row hs hg hr => ⟨hs.1, Go.cell_kept hs.2.1 hg (fun r e => (hr r e).2), Go.cell_kept hs.2.2.1 hg (fun r e => (hr r e).2), (Go.frozen_kept hs.2.2.1 hg (fun r e => (hr r e).2)).trans hs.2.2.2.1, (hg.block D (Array.getElem?_eq_some_iff.1 hs.2.2.2.2).1 (fun e => by have := (hr D e.symm).1; omega)).trans hs.2.2.2.2⟩) (ownFrom_below (Nat.le_refl _) hsz3))
        (fun c s X Y row hs hg hr => hs)
        ⟨⟨List.nil_prefix, (World.cell?_setCell_other W ⟨w3.heap.size + 1, 0, none⟩ ⟨w3.heap.size, 0, none⟩ (.int .i64 0) (by simp)).trans hcw, World.cell?_setCell_same' W ⟨w3.heap.size + 1, 0, none⟩ (.int .i64 0) (by rw [hcn]; rfl), by rw [World.frozen?_setCell]; exact hfn, hK'⟩, hB'⟩
        ?aa2 ?assign2 ?body2 ?done2 ?stop2
      case assign2 =>
        intro l x W K hK
        have HKK := Aside0.mk hK
        clear hK
        gi_wp2
        exact HKK.out
      case body2 =>
        rintro l pre x V ⟨⟨hlive, hcw, hcn, hfn, hKD⟩, hB⟩ hlen

        rw [hst] at hlen
        have hl2 : pre.length < L.length := by rw [← hPL]; exact hlen
        have hx := Rg.prefix_iff PS pre x hlive hlen
        have i0 : (0 : Int) ≤ (pre.length : Int) := Int.natCast_nonneg _
        have i1 : (pre.length : Int) < (L.length : Int) := Int.ofNat_lt.2 hl2
        have hge : decide ((pre.length : Int) ≥ (L.length : Int)) = false := decide_eq_false (by omega)
        have hge2 : decide ((L.length : Int) ≤ (pre.length : Int)) = false := decide_eq_false (by omega)
        obtain ⟨ad, e0, x0, _, x2, _, _⟩ := at_T30 (Kd.C_below hC hB) (pre.length : Int) i0 i1
        subst e0
        rw [hPS pre.length hlen] at hx
        obtain ⟨X0, hX0⟩ : ∃ X, (rd_T30 L (pre.length : Int)).f0 = X := ⟨_, rfl⟩
        obtain ⟨X2, hX2⟩ : ∃ X, (rd_T30 L (pre.length : Int)).f2 = X := ⟨_, rfl⟩
        rw [hX0] at x0 hx
        rw [hX2] at x2 hx
        have HX := Aside0.mk hx
        have HLV := Aside0.mk hlive
        obtain ⟨M, hM⟩ : ∃ M : Int, (pre.length : Int) = M := ⟨_, rfl⟩
        have hMw : wrap64 (M + 1) = (pre.length : Int) + 1 := by rw [← hM]; unfold wrap64; omega
        have HM := Aside0.mk hM
        have hMi : IntKind.i64.wrap (M + 1) = wrap64 (M + 1) := i64_w _
        obtain ⟨M2, hM2⟩ : ∃ M2 : Int, wrap64 (M + 1) = M2 := ⟨_, rfl⟩
        have HM2 : Aside0 (M2 = ((pre.length + 1 : Nat) : Int)) := ⟨by rw [← hM2, hMw]; rfl⟩
        rw [hM2] at hMi
        have hIM : Aside0 (pre.length < L.length) := ⟨hl2⟩
        rw [hM] at hcn i0 i1 hge hge2 x0 x2
        replace i0 := eq_true i0
        replace i1 := eq_true i1
        clear hx hM hMw hX0 hX2 hl2 hlen hlive
        obtain ⟨x1, xr⟩ := x
        try dsimp only at HX

        by_cases h1 : x1 = X0
        · by_cases h2 : xr = X2
          · have hpx : pre ++ [(x1, xr)] <+: PS := HX.out.2 (by rw [h1, h2])
            have HPX := Aside0.mk hpx
            subst h1
            subst h2
            have b1 : (x1 != x1) = false := bne_self_eq_false _
            have b2 : (xr != xr) = false := bne_self_eq_false _
            have hc2 := World.cell?_setCell_same' V ⟨w3.heap.size + 1, 0, none⟩ (.int .i64 M2) (by rw [hcn]; rfl)
            have hcw2 := (World.cell?_setCell_other V ⟨w3.heap.size + 1, 0, none⟩ ⟨w3.heap.size, 0, none⟩ (.int .i64 M2) (by simp)).trans hcw
            have hfn2 : (V.setCell ⟨w3.heap.size + 1, 0, none⟩ (.int .i64 M2)).frozen? ⟨w3.heap.size + 1, 0, none⟩ = false := by rw [World.frozen?_setCell]; exact hfn
            have hB2 := hB.setCell (p := ⟨w3.heap.size + 1, 0, none⟩) (by simp) (.int .i64 M2)
            have hKD2 := (KeepsOthers.setCell V ⟨w3.heap.size + 1, 0, none⟩ (.int .i64 M2)).same D _ hKD rfl
            have hln : ((pre ++ [(x1, xr)]).length : Int) = M2 := by rw [List.length_append, HM2.out]; rfl
            have HLN := Aside0.mk hln
            clear hln hpx
            gi_wp2
            exact ⟨KeepsOthers.setCell _ _ _, (KeepsOthers.setCell _ _ _).walks, ⟨HPX.out, hcw2, by rw [HLN.out]; exact hc2, hfn2, hKD2⟩, hB2⟩
          · have hn2 : ¬ pre ++ [(x1, xr)] <+: PS := fun h => h2 (congrArg Prod.snd (HX.out.1 h))
            have HN2 := Aside0.mk hn2
            subst h1
            have b1 : (x1 != x1) = false := bne_self_eq_false _
            clear hn2
            have b2 : (xr != X2) = true := bne_iff_ne.2 h2
            have hRc := (hB.cell (World.block_lt_of_cell? w3 _ hR3)).trans hR3
            have hRfz := Rg.froz_belowN hR3 hF3 hB
            gi_wp2
            exact ⟨KeepsOthers.setCell _ _ _, rfl, HN2.out⟩

        · have hn1 : ¬ pre ++ [(x1, xr)] <+: PS := fun h => h1 (congrArg Prod.fst (HX.out.1 h))
          have HN1 := Aside0.mk hn1
          clear hn1
          have b1 : (x1 != X0) = true := bne_iff_ne.2 h1
          have hRc := (hB.cell (World.block_lt_of_cell? w3 _ hR3)).trans hR3
          have hRfz := Rg.froz_belowN hR3 hF3 hB
          gi_wp2
          exact ⟨KeepsOthers.setCell _ _ _, rfl, HN1.out⟩

      case stop2 =>
        rintro D2 c2 pre V hD2 hpre ⟨rfl, hnp⟩ hK2
        rw [hst] at hpre
        exact absurd hpre hnp
      case done2 =>
        rintro D2 ys V hD2 hys ⟨⟨_, hcw, hcn, hfn, hKD⟩, hB2⟩ hK2
        rw [hys, hst, hPL] at hcn
        have hR4 : V.cell? ⟨w.heap.size + 1, 0, none⟩ = some (.bool false) := (hB2.cell (World.block_lt_of_cell? w3 _ hR3)).trans hR3
        have hRf : V.frozen? ⟨w.heap.size + 1, 0, none⟩ = false := (Rg.froz_belowN hR3 hF3 hB2)
        have hee : ((L.length : Int) == (L.length : Int)) = true := beq_self_eq_true _
        gi_wp2
        have hKa := (KeepsOthers.setCell V ⟨w.heap.size + 1, 0, none⟩ (.bool true)).same D2 _ hK2 rfl
        have hKb := (KeepsOthers.setCell V ⟨w.heap.size + 1, 0, none⟩ (.bool true)).same D _ hKD rfl
        have hcT := World.cell?_setCell_same' V ⟨w.heap.size + 1, 0, none⟩ (.bool true) (by rw [hR4]; rfl)
        refine ⟨by simp, .inl ⟨_, _, rfl, run_takeDeferred hKa, ?_⟩⟩
        have hne : D ≠ D2 := by omega
        have hKc : ((V.setCell ⟨w.heap.size + 1, 0, none⟩ (.bool true)).putObj D2 (.deferred none)).heap[D]? = some (.deferred (some [])) := ((grownBy_putObj' _ D2 (.deferred none)).block D (Array.getElem?_eq_some_iff.1 hKb).1 (fun e => hne (by injection e))).trans hKb
        refine ⟨by simp, .inl ⟨_, _, rfl, run_takeDeferred hKc, ?_⟩⟩
        have hc4 := Go.cell_kept hcT (grownBy_putObj' _ D2 (.deferred none)) (fun r e => by cases e; exact ⟨_, hKa, rfl⟩)
        have hc5 := Go.cell_kept hc4 (grownBy_putObj' _ D (.deferred none)) (fun r e => by cases e; exact ⟨_, hKc, rfl⟩)
        refine ⟨.bool true, ?_, rfl, ?_⟩
        · simp [results, Tryd.f6, go_sem, hc5]
        · have hBV : Below w.heap.size w (V.setCell ⟨w.heap.size + 1, 0, none⟩ (.bool true)) := (hB03.trans (hB2.mono hB03.size)).setCell (p := ⟨w.heap.size + 1, 0, none⟩) (by simp) _
          have hs3 := hB03.size
          have hs4 := hB2.size
          have hlt2 : w.heap.size ≤ D2 := by omega
          have hlt1 : w.heap.size ≤ D := by omega
          exact (hBV.grown (grownBy_putObj' _ D2 (.deferred none)) hBV.size (fun k e => by cases e; exact hlt2)).grown (grownBy_putObj' _ D (.deferred none)) (by have := hBV.size; exact Nat.le_trans this (grownBy_putObj' _ D2 (.deferred none)).size) (fun k e => by cases e; exact hlt1)
  case stop =>
    rintro D c_ pre W hD hpre hix hK
    rcases hix with ⟨rfl, hnp⟩ | ⟨rfl, ⟨ha, hpf, hge⟩, hcw, hcn, hfn, hB⟩
    · rw [hst] at hpre
      exact absurd hpre hnp
    · have hle : pre.length ≤ L.length := by rw [← hPL]; exact hpf.length_le
      have hcs : W.cell? ⟨w.heap.size, 0, none⟩ = some (.int .i64 a1) := (hB.cell (World.block_lt_of_cell? w3 _ hS3)).trans hS3
      rw [ha] at hcn
      have d1 : decide (0 < a1) = true := decide_eq_true (by omega)
      have d1' : decide (a1 > 0) = true := decide_eq_true (by omega)
      have hD3 : w3.heap.size + 1 < D := by simp at hD; omega
      by_cases hb : a1 < (L.length : Int)
      · have d2 : decide (a1 < (L.length : Int)) = true := decide_eq_true hb
        have hnn : (a1 != a1) = false := bne_self_eq_false _
        clear ha hpf hge hle hb hpre hD
        gi_wp2
        have hB' := hB.setCell (p := ⟨w3.heap.size + 1, 0, none⟩) (by simp) (.int .i64 0)
        have hK' := (KeepsOthers.setCell W ⟨w3.heap.size + 1, 0, none⟩ (.int .i64 0)).same D _ hK rfl
        have hDl : D < (W.setCell ⟨w3.heap.size + 1, 0, none⟩ (.int .i64 0)).heap.size := (Array.getElem?_eq_some_iff.1 hK').1
        have hsz3 : w3.heap.size ≤ (W.setCell ⟨w3.heap.size + 1, 0, none⟩ (.int .i64 0)).heap.size := hB'.size
        refine wpIn_rangeFunc_ownF rfl (by decide) (gf := 44) (lb := #[.pointer (some ⟨w1.heap.size, 0, none⟩)]) rfl trivial (enters_of Tryd.func44 (by kernel_rfl) rfl)
          (Go.Proofs.YtfcobfjjcocggaaDoor.Rg.all1_stops _ _ trivial rfl (by decide) w1.heap.size a0 _ ((hB'.cell (World.block_lt_of_cell? w3 _ hA3)).trans hA3)) walksK_t walksK_b (Below.refl _ _) (fun _ => rfl)
          (fun pre V => (pre <+: PS ∧ V.cell? ⟨w3.heap.size, 0, none⟩ = some (.slice A L.length c) ∧ V.cell? ⟨w3.heap.size + 1, 0, none⟩ = some (.int .i64 (pre.length : Int)) ∧ V.frozen? ⟨w3.heap.size + 1, 0, none⟩ = false ∧ V.heap[D]? = some (.deferred (some []))) ∧ Below w3.heap.size w3 V)
          (fun c pre V => c = .ret ∧ ¬ pre <+: PS)
          (OwnFrom.and (fun s X Y row hs hg hr => ⟨hs.1, Go.cell_kept hs.2.1 hg (fun r e => (hr r e).2), Go.cell_kept hs.2.2.1 hg (fun r e => (hr r e).2), (Go.frozen_kept hs.2.2.1 hg (fun r e => (hr r e).2)).trans hs.2.2.2.1, (hg.block D (Array.getElem?_eq_some_iff.1 hs.2.2.2.2).1 (fun e => by have := (hr D e.symm).1; omega)).trans hs.2.2.2.2⟩) (ownFrom_below (Nat.le_refl _) hsz3))
          (fun c s X Y row hs hg hr => hs)
          ⟨⟨List.nil_prefix, (World.cell?_setCell_other W ⟨w3.heap.size + 1, 0, none⟩ ⟨w3.heap.size, 0, none⟩ (.int .i64 0) (by simp)).trans hcw, World.cell?_setCell_same' W ⟨w3.heap.size + 1, 0, none⟩ (.int .i64 0) (by rw [hcn]; rfl), by rw [World.frozen?_setCell]; exact hfn, hK'⟩, hB'⟩
          ?aa3 ?assign2 ?body2 ?done2 ?stop2
        case assign2 =>
          intro l x W K hK
          have HKK := Aside0.mk hK
          clear hK
          gi_wp2
          exact HKK.out
        case body2 =>
          rintro l pre x V ⟨⟨hlive, hcw, hcn, hfn, hKD⟩, hB⟩ hlen

          rw [hst] at hlen
          have hl2 : pre.length < L.length := by rw [← hPL]; exact hlen
          have hx := Rg.prefix_iff PS pre x hlive hlen
          have i0 : (0 : Int) ≤ (pre.length : Int) := Int.natCast_nonneg _
          have i1 : (pre.length : Int) < (L.length : Int) := Int.ofNat_lt.2 hl2
          have hge : decide ((pre.length : Int) ≥ (L.length : Int)) = false := decide_eq_false (by omega)
          have hge2 : decide ((L.length : Int) ≤ (pre.length : Int)) = false := decide_eq_false (by omega)
          obtain ⟨ad, e0, x0, _, x2, _, _⟩ := at_T30 (Kd.C_below hC hB) (pre.length : Int) i0 i1
          subst e0
          rw [hPS pre.length hlen] at hx
          obtain ⟨X0, hX0⟩ : ∃ X, (rd_T30 L (pre.length : Int)).f0 = X := ⟨_, rfl⟩
          obtain ⟨X2, hX2⟩ : ∃ X, (rd_T30 L (pre.length : Int)).f2 = X := ⟨_, rfl⟩
          rw [hX0] at x0 hx
          rw [hX2] at x2 hx
          have HX := Aside0.mk hx
          have HLV := Aside0.mk hlive
          obtain ⟨M, hM⟩ : ∃ M : Int, (pre.length : Int) = M := ⟨_, rfl⟩
          have hMw : wrap64 (M + 1) = (pre.length : Int) + 1 := by rw [← hM]; unfold wrap64; omega
          have HM := Aside0.mk hM
          have hMi : IntKind.i64.wrap (M + 1) = wrap64 (M + 1) := i64_w _
          obtain ⟨M2, hM2⟩ : ∃ M2 : Int, wrap64 (M + 1) = M2 := ⟨_, rfl⟩
          have HM2 : Aside0 (M2 = ((pre.length + 1 : Nat) : Int)) := ⟨by rw [← hM2, hMw]; rfl⟩
          rw [hM2] at hMi
          have hIM : Aside0 (pre.length < L.length) := ⟨hl2⟩
          rw [hM] at hcn i0 i1 hge hge2 x0 x2
          replace i0 := eq_true i0
          replace i1 := eq_true i1
          clear hx hM hMw hX0 hX2 hl2 hlen hlive
          obtain ⟨x1, xr⟩ := x
          try dsimp only at HX

          by_cases h1 : x1 = X0
          · by_cases h2 : xr = X2
            · have hpx : pre ++ [(x1, xr)] <+: PS := HX.out.2 (by rw [h1, h2])
              have HPX := Aside0.mk hpx
              subst h1
              subst h2
              have b1 : (x1 != x1) = false := bne_self_eq_false _
              have b2 : (xr != xr) = false := bne_self_eq_false _
              have hc2 := World.cell?_setCell_same' V ⟨w3.heap.size + 1, 0, none⟩ (.int .i64 M2) (by rw [hcn]; rfl)
              have hcw2 := (World.cell?_setCell_other V ⟨w3.heap.size + 1, 0, none⟩ ⟨w3.heap.size, 0, none⟩ (.int .i64 M2) (by simp)).trans hcw
              have hfn2 : (V.setCell ⟨w3.heap.size + 1, 0, none⟩ (.int .i64 M2)).frozen? ⟨w3.heap.size + 1, 0, none⟩ = false := by rw [World.frozen?_setCell]; exact hfn
              have hB2 := hB.setCell (p := ⟨w3.heap.size + 1, 0, none⟩) (by simp) (.int .i64 M2)
              have hKD2 := (KeepsOthers.setCell V ⟨w3.heap.size + 1, 0, none⟩ (.int .i64 M2)).same D _ hKD rfl
              have hln : ((pre ++ [(x1, xr)]).length : Int) = M2 := by rw [List.length_append, HM2.out]; rfl
              have HLN := Aside0.mk hln
              clear hln hpx
              gi_wp2
              exact ⟨KeepsOthers.setCell _ _ _, (KeepsOthers.setCell _ _ _).walks, ⟨HPX.out, hcw2, by rw [HLN.out]; exact hc2, hfn2, hKD2⟩, hB2⟩
            · have hn2 : ¬ pre ++ [(x1, xr)] <+: PS := fun h => h2 (congrArg Prod.snd (HX.out.1 h))
              have HN2 := Aside0.mk hn2
              subst h1
              have b1 : (x1 != x1) = false := bne_self_eq_false _
              clear hn2
              have b2 : (xr != X2) = true := bne_iff_ne.2 h2
              have hRc := (hB.cell (World.block_lt_of_cell? w3 _ hR3)).trans hR3
              have hRfz := Rg.froz_belowN hR3 hF3 hB
              gi_wp2
              exact ⟨KeepsOthers.setCell _ _ _, rfl, HN2.out⟩

          · have hn1 : ¬ pre ++ [(x1, xr)] <+: PS := fun h => h1 (congrArg Prod.fst (HX.out.1 h))
            have HN1 := Aside0.mk hn1
            clear hn1
            have b1 : (x1 != X0) = true := bne_iff_ne.2 h1
            have hRc := (hB.cell (World.block_lt_of_cell? w3 _ hR3)).trans hR3
            have hRfz := Rg.froz_belowN hR3 hF3 hB
            gi_wp2
            exact ⟨KeepsOthers.setCell _ _ _, rfl, HN1.out⟩

        case stop2 =>
          rintro D2 c2 pre V hD2 hpre ⟨rfl, hnp⟩ hK2
          rw [hst] at hpre
          exact absurd hpre hnp
        case done2 =>
          rintro D2 ys V hD2 hys ⟨⟨_, hcw, hcn, hfn, hKD⟩, hB2⟩ hK2
          rw [hys, hst, hPL] at hcn
          have hR4 : V.cell? ⟨w.heap.size + 1, 0, none⟩ = some (.bool false) := (hB2.cell (World.block_lt_of_cell? w3 _ hR3)).trans hR3
          have hRf : V.frozen? ⟨w.heap.size + 1, 0, none⟩ = false := (Rg.froz_belowN hR3 hF3 hB2)
          have hee : ((L.length : Int) == (L.length : Int)) = true := beq_self_eq_true _
          gi_wp2
          have hKa := (KeepsOthers.setCell V ⟨w.heap.size + 1, 0, none⟩ (.bool true)).same D2 _ hK2 rfl
          have hKb := (KeepsOthers.setCell V ⟨w.heap.size + 1, 0, none⟩ (.bool true)).same D _ hKD rfl
          have hcT := World.cell?_setCell_same' V ⟨w.heap.size + 1, 0, none⟩ (.bool true) (by rw [hR4]; rfl)
          refine ⟨by simp, .inl ⟨_, _, rfl, run_takeDeferred hKa, ?_⟩⟩
          have hne : D ≠ D2 := by omega
          have hKc : ((V.setCell ⟨w.heap.size + 1, 0, none⟩ (.bool true)).putObj D2 (.deferred none)).heap[D]? = some (.deferred (some [])) := ((grownBy_putObj' _ D2 (.deferred none)).block D (Array.getElem?_eq_some_iff.1 hKb).1 (fun e => hne (by injection e))).trans hKb
          refine ⟨by simp, .inl ⟨_, _, rfl, run_takeDeferred hKc, ?_⟩⟩
          have hc4 := Go.cell_kept hcT (grownBy_putObj' _ D2 (.deferred none)) (fun r e => by cases e; exact ⟨_, hKa, rfl⟩)
          have hc5 := Go.cell_kept hc4 (grownBy_putObj' _ D (.deferred none)) (fun r e => by cases e; exact ⟨_, hKc, rfl⟩)
          refine ⟨.bool true, ?_, rfl, ?_⟩
          · simp [results, Tryd.f6, go_sem, hc5]
          · have hBV : Below w.heap.size w (V.setCell ⟨w.heap.size + 1, 0, none⟩ (.bool true)) := (hB03.trans (hB2.mono hB03.size)).setCell (p := ⟨w.heap.size + 1, 0, none⟩) (by simp) _
            have hs3 := hB03.size
            have hs4 := hB2.size
            have hlt2 : w.heap.size ≤ D2 := by omega
            have hlt1 : w.heap.size ≤ D := by omega
            exact (hBV.grown (grownBy_putObj' _ D2 (.deferred none)) hBV.size (fun k e => by cases e; exact hlt2)).grown (grownBy_putObj' _ D (.deferred none)) (by have := hBV.size; exact Nat.le_trans this (grownBy_putObj' _ D2 (.deferred none)).size) (fun k e => by cases e; exact hlt1)
      · have d2 : decide (a1 < (L.length : Int)) = false := decide_eq_false hb
        have hnn : (a1 != (L.length : Int)) = false := bne_eq_false_iff_eq.2 (by omega)
        clear ha hpf hge hle hb hpre hD
        gi_wp2
        have hB' := hB.setCell (p := ⟨w3.heap.size + 1, 0, none⟩) (by simp) (.int .i64 0)
        have hK' := (KeepsOthers.setCell W ⟨w3.heap.size + 1, 0, none⟩ (.int .i64 0)).same D _ hK rfl
        have hDl : D < (W.setCell ⟨w3.heap.size + 1, 0, none⟩ (.int .i64 0)).heap.size := (Array.getElem?_eq_some_iff.1 hK').1
        have hsz3 : w3.heap.size ≤ (W.setCell ⟨w3.heap.size + 1, 0, none⟩ (.int .i64 0)).heap.size := hB'.size
        refine wpIn_rangeFunc_ownF rfl (by decide) (gf := 44) (lb := #[.pointer (some ⟨w1.heap.size, 0, none⟩)]) rfl trivial (enters_of Tryd.func44 (by kernel_rfl) rfl)
          (Go.Proofs.YtfcobfjjcocggaaDoor.Rg.all1_stops _ _ trivial rfl (by decide) w1.heap.size a0 _ ((hB'.cell (World.block_lt_of_cell? w3 _ hA3)).trans hA3)) walksK_t walksK_b (Below.refl _ _) (fun _ => rfl)
          (fun pre V => (pre <+: PS ∧ V.cell? ⟨w3.heap.size, 0, none⟩ = some (.slice A L.length c) ∧ V.cell? ⟨w3.heap.size + 1, 0, none⟩ = some (.int .i64 (pre.length : Int)) ∧ V.frozen? ⟨w3.heap.size + 1, 0, none⟩ = false ∧ V.heap[D]? = some (.deferred (some []))) ∧ Below w3.heap.size w3 V)
          (fun c pre V => c = .ret ∧ ¬ pre <+: PS)
          (OwnFrom.and (fun s X Y row hs hg hr => ⟨hs.1, Go.cell_kept hs.2.1 hg (fun r e => (hr r e).2), Go.cell_kept hs.2.2.1 hg (fun r e => (hr r e).2), (Go.frozen_kept hs.2.2.1 hg (fun r e => (hr r e).2)).trans hs.2.2.2.1, (hg.block D (Array.getElem?_eq_some_iff.1 hs.2.2.2.2).1 (fun e => by have := (hr D e.symm).1; omega)).trans hs.2.2.2.2⟩) (ownFrom_below (Nat.le_refl _) hsz3))
          (fun c s X Y row hs hg hr => hs)
          ⟨⟨List.nil_prefix, (World.cell?_setCell_other W ⟨w3.heap.size + 1, 0, none⟩ ⟨w3.heap.size, 0, none⟩ (.int .i64 0) (by simp)).trans hcw, World.cell?_setCell_same' W ⟨w3.heap.size + 1, 0, none⟩ (.int .i64 0) (by rw [hcn]; rfl), by rw [World.frozen?_setCell]; exact hfn, hK'⟩, hB'⟩
          ?aa4 ?assign2 ?body2 ?done2 ?stop2
        case assign2 =>
          intro l x W K hK
          have HKK := Aside0.mk hK
          clear hK
          gi_wp2
          exact HKK.out
        case body2 =>
          rintro l pre x V ⟨⟨hlive, hcw, hcn, hfn, hKD⟩, hB⟩ hlen

          rw [hst] at hlen
          have hl2 : pre.length < L.length := by rw [← hPL]; exact hlen
          have hx := Rg.prefix_iff PS pre x hlive hlen
          have i0 : (0 : Int) ≤ (pre.length : Int) := Int.natCast_nonneg _
          have i1 : (pre.length : Int) < (L.length : Int) := Int.ofNat_lt.2 hl2
          have hge : decide ((pre.length : Int) ≥ (L.length : Int)) = false := decide_eq_false (by omega)
          have hge2 : decide ((L.length : Int) ≤ (pre.length : Int)) = false := decide_eq_false (by omega)
          obtain ⟨ad, e0, x0, _, x2, _, _⟩ := at_T30 (Kd.C_below hC hB) (pre.length : Int) i0 i1
          subst e0
          rw [hPS pre.length hlen] at hx
          obtain ⟨X0, hX0⟩ : ∃ X, (rd_T30 L (pre.length : Int)).f0 = X := ⟨_, rfl⟩
          obtain ⟨X2, hX2⟩ : ∃ X, (rd_T30 L (pre.length : Int)).f2 = X := ⟨_, rfl⟩
          rw [hX0] at x0 hx
          rw [hX2] at x2 hx
          have HX := Aside0.mk hx
          have HLV := Aside0.mk hlive
          obtain ⟨M, hM⟩ : ∃ M : Int, (pre.length : Int) = M := ⟨_, rfl⟩
          have hMw : wrap64 (M + 1) = (pre.length : Int) + 1 := by rw [← hM]; unfold wrap64; omega
          have HM := Aside0.mk hM
          have hMi : IntKind.i64.wrap (M + 1) = wrap64 (M + 1) := i64_w _
          obtain ⟨M2, hM2⟩ : ∃ M2 : Int, wrap64 (M + 1) = M2 := ⟨_, rfl⟩
          have HM2 : Aside0 (M2 = ((pre.length + 1 : Nat) : Int)) := ⟨by rw [← hM2, hMw]; rfl⟩
          rw [hM2] at hMi
          have hIM : Aside0 (pre.length < L.length) := ⟨hl2⟩
          rw [hM] at hcn i0 i1 hge hge2 x0 x2
          replace i0 := eq_true i0
          replace i1 := eq_true i1
          clear hx hM hMw hX0 hX2 hl2 hlen hlive
          obtain ⟨x1, xr⟩ := x
          try dsimp only at HX

          by_cases h1 : x1 = X0
          · by_cases h2 : xr = X2
            · have hpx : pre ++ [(x1, xr)] <+: PS := HX.out.2 (by rw [h1, h2])
              have HPX := Aside0.mk hpx
              subst h1
              subst h2
              have b1 : (x1 != x1) = false := bne_self_eq_false _
              have b2 : (xr != xr) = false := bne_self_eq_false _
              have hc2 := World.cell?_setCell_same' V ⟨w3.heap.size + 1, 0, none⟩ (.int .i64 M2) (by rw [hcn]; rfl)
              have hcw2 := (World.cell?_setCell_other V ⟨w3.heap.size + 1, 0, none⟩ ⟨w3.heap.size, 0, none⟩ (.int .i64 M2) (by simp)).trans hcw
              have hfn2 : (V.setCell ⟨w3.heap.size + 1, 0, none⟩ (.int .i64 M2)).frozen? ⟨w3.heap.size + 1, 0, none⟩ = false := by rw [World.frozen?_setCell]; exact hfn
              have hB2 := hB.setCell (p := ⟨w3.heap.size + 1, 0, none⟩) (by simp) (.int .i64 M2)
              have hKD2 := (KeepsOthers.setCell V ⟨w3.heap.size + 1, 0, none⟩ (.int .i64 M2)).same D _ hKD rfl
              have hln : ((pre ++ [(x1, xr)]).length : Int) = M2 := by rw [List.length_append, HM2.out]; rfl
              have HLN := Aside0.mk hln
              clear hln hpx
              gi_wp2
              exact ⟨KeepsOthers.setCell _ _ _, (KeepsOthers.setCell _ _ _).walks, ⟨HPX.out, hcw2, by rw [HLN.out]; exact hc2, hfn2, hKD2⟩, hB2⟩
            · have hn2 : ¬ pre ++ [(x1, xr)] <+: PS := fun h => h2 (congrArg Prod.snd (HX.out.1 h))
              have HN2 := Aside0.mk hn2
              subst h1
              have b1 : (x1 != x1) = false := bne_self_eq_false _
              clear hn2
              have b2 : (xr != X2) = true := bne_iff_ne.2 h2
              have hRc := (hB.cell (World.block_lt_of_cell? w3 _ hR3)).trans hR3
              have hRfz := Rg.froz_belowN hR3 hF3 hB
              gi_wp2
              exact ⟨KeepsOthers.setCell _ _ _, rfl, HN2.out⟩

          · have hn1 : ¬ pre ++ [(x1, xr)] <+: PS := fun h => h1 (congrArg Prod.fst (HX.out.1 h))
            have HN1 := Aside0.mk hn1
            clear hn1
            have b1 : (x1 != X0) = true := bne_iff_ne.2 h1
            have hRc := (hB.cell (World.block_lt_of_cell? w3 _ hR3)).trans hR3
            have hRfz := Rg.froz_belowN hR3 hF3 hB
            gi_wp2
            exact ⟨KeepsOthers.setCell _ _ _, rfl, HN1.out⟩

        case stop2 =>
          rintro D2 c2 pre V hD2 hpre ⟨rfl, hnp⟩ hK2
          rw [hst] at hpre
          exact absurd hpre hnp
        case done2 =>
          rintro D2 ys V hD2 hys ⟨⟨_, hcw, hcn, hfn, hKD⟩, hB2⟩ hK2
          rw [hys, hst, hPL] at hcn
          have hR4 : V.cell? ⟨w.heap.size + 1, 0, none⟩ = some (.bool false) := (hB2.cell (World.block_lt_of_cell? w3 _ hR3)).trans hR3
          have hRf : V.frozen? ⟨w.heap.size + 1, 0, none⟩ = false := (Rg.froz_belowN hR3 hF3 hB2)
          have hee : ((L.length : Int) == (L.length : Int)) = true := beq_self_eq_true _
          gi_wp2
          have hKa := (KeepsOthers.setCell V ⟨w.heap.size + 1, 0, none⟩ (.bool true)).same D2 _ hK2 rfl
          have hKb := (KeepsOthers.setCell V ⟨w.heap.size + 1, 0, none⟩ (.bool true)).same D _ hKD rfl
          have hcT := World.cell?_setCell_same' V ⟨w.heap.size + 1, 0, none⟩ (.bool true) (by rw [hR4]; rfl)
          refine ⟨by simp, .inl ⟨_, _, rfl, run_takeDeferred hKa, ?_⟩⟩
          have hne : D ≠ D2 := by omega
          have hKc : ((V.setCell ⟨w.heap.size + 1, 0, none⟩ (.bool true)).putObj D2 (.deferred none)).heap[D]? = some (.deferred (some [])) := ((grownBy_putObj' _ D2 (.deferred none)).block D (Array.getElem?_eq_some_iff.1 hKb).1 (fun e => hne (by injection e))).trans hKb
          refine ⟨by simp, .inl ⟨_, _, rfl, run_takeDeferred hKc, ?_⟩⟩
          have hc4 := Go.cell_kept hcT (grownBy_putObj' _ D2 (.deferred none)) (fun r e => by cases e; exact ⟨_, hKa, rfl⟩)
          have hc5 := Go.cell_kept hc4 (grownBy_putObj' _ D (.deferred none)) (fun r e => by cases e; exact ⟨_, hKc, rfl⟩)
          refine ⟨.bool true, ?_, rfl, ?_⟩
          · simp [results, Tryd.f6, go_sem, hc5]
          · have hBV : Below w.heap.size w (V.setCell ⟨w.heap.size + 1, 0, none⟩ (.bool true)) := (hB03.trans (hB2.mono hB03.size)).setCell (p := ⟨w.heap.size + 1, 0, none⟩) (by simp) _
            have hs3 := hB03.size
            have hs4 := hB2.size
            have hlt2 : w.heap.size ≤ D2 := by omega
            have hlt1 : w.heap.size ≤ D := by omega
            exact (hBV.grown (grownBy_putObj' _ D2 (.deferred none)) hBV.size (fun k e => by cases e; exact hlt2)).grown (grownBy_putObj' _ D (.deferred none)) (by have := hBV.size; exact Nat.le_trans this (grownBy_putObj' _ D2 (.deferred none)).size) (fun k e => by cases e; exact hlt1)
theorem siglumlaw01_GlyphAll.calls (a0 : ByteArray) (a1 : Int) (r : Bool) (w : World) (hT : Lib.Utf8Tabs 0 1 w) (h : siglumlaw01_GlyphAll.f a0 a1 = some r) :
    Calls Tryd.prog 6 #[.string a0, .int .i64 a1] w fun e w' => e = .returned (.bool r) ∧ Below w.heap.size w w' := by
  unfold siglumlaw01_GlyphAll.f at h
  by_cases hs : a0.size ≤ 4294967296
  · rw [if_pos hs] at h
    obtain rfl := Option.some.inj h
    exact callsIn_wide.1 (all_law a0 a1 w hs hT)
  · rw [if_neg hs] at h
    cases h
end Go.Proofs.YtfcobfjjcocggaaDoor.C
