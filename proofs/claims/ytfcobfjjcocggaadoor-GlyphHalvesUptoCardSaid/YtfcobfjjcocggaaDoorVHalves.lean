/-
  The walk through the law GlyphHalves, at every text and number: by what is known of the cells of both parts.
-/
import Derived.Test.YtfcobfjjcocggaaDoorVFacts
import Derived.Test.YtfcobfjjcocggaaDoorPureHalvesFacts
import Derived.Test.YtfcobfjjcocggaaDoorPureGlyphCells
import Derived.Test.YtfcobfjjcocggaaDoorVx4
import Derived.Test.YtfcobfjjcocggaaDoorVx16
namespace Go.Proofs.YtfcobfjjcocggaaDoor.V
open Go.RowKit Go.Proofs.YtfcobfjjcocggaaDoorW.PrintWords Go.Proofs.YtfcobfjjcocggaaDoorW.PrintLast Go.Proofs.YtfcobfjjcocggaaDoorW.PrintMore
set_option linter.unusedVariables false
set_option linter.unusedSimpArgs false
attribute [local go_sem high] eqA30

def siglumlaw01_GlyphHalves.f (a0 : ByteArray) (a1 : Int) : Option Bool := if a0.size ≤ 4294967296 then some true else none
theorem map_get {α β : Type} (f : α → β) (l : List α) (m : List β) (i : Nat) (h : i < l.length) (e : l.map f = m) (h2 : i < m.length) : m[i] = f l[i] := by
  subst e
  simp
/-- A cell reads behind a new block as it read. -/
theorem cell_alloc {w : World} {a : Addr} {v : Value} (h : w.cell? a = some v) (o : Obj) : (w.alloc o).cell? a = some v :=
  ((below_alloc (Below.refl w.heap.size w) o).cell (World.block_lt_of_cell? w _ h)).trans h
set_option maxHeartbeats 16000000 in
set_option maxRecDepth 100000 in
theorem siglumlaw01_GlyphHalves.calls (a0 : ByteArray) (a1 : Int) (r : Bool) (w : World) (hT : Lib.Utf8Tabs 0 1 w) (h : siglumlaw01_GlyphHalves.f a0 a1 = some r) :
    Calls Tryd.prog 9 #[.string a0, .int .i64 a1] w fun e w' => e = .returned (.bool r) ∧ Below w.heap.size w w' := by
  unfold siglumlaw01_GlyphHalves.f at h
  by_cases hs : a0.size ≤ 4294967296
  · rw [if_pos hs] at h
    obtain rfl := Option.some.inj h
    clear h
    have HT := Aside0.mk hT
    clear hT
    have HL : Aside0 (glyph_Cells.f a0 = some (gCells a0 a0.size 0)) := ⟨by unfold glyph_Cells.f; rw [if_pos hs]⟩
    have hlen := Pl.cells_le a0
    have hcl := Pl.cells_length a0
    by_cases hout : a1 < 0 ∨ ((gCells a0 a0.size 0).length : Int) < a1
    · have HC : Aside0 (glyph_Cut.f a0 a1 = some (⟨#[]⟩, ⟨#[]⟩, 2)) := ⟨by
        unfold glyph_Cut.f
        rw [if_pos hs]
        by_cases h0 : a1 < 0
        · rw [if_pos h0]
        · rw [if_neg h0, if_pos (by omega)]⟩
      obtain ⟨L, hLe⟩ : ∃ L, gCells a0 a0.size 0 = L := ⟨_, rfl⟩
      rw [hLe] at HL hlen hout
      clear hLe hcl
      by_cases h0 : a1 < 0
      · have d0 : decide (a1 < 0) = true := decide_eq_true h0
        go_enter Tryd.func9, Tryd.ntmps9
        go_wp2_with (first | (go_at_call 13; (with_reducible refine (siglumlaw01_awake.calls true _ HT.out Pure.awake1).mono ?_); rintro e w1 ⟨rfl, hb1⟩; have HB1 := Aside0.mk hb1; clear hb1) | (go_at_call 28; (with_reducible refine (glyph_Cut.calls a0 a1 _ _ _ _ HC.out).mono ?_); rintro e w2 ⟨rfl, hb2⟩; have HB2 := Aside0.mk (below_step HB1.out hb2); clear hb2) | (go_at_call 21; (with_reducible refine (glyph_Cells.calls a0 L _ (Utf.tabs_step HT.out HB2.out) HL.out).mono ?_); rintro e w3 ⟨v, rfl, ho, hb3⟩; have HB3 := Aside0.mk (below_step HB2.out hb3); clear hb3; obtain ⟨Ao, co, rfl⟩ := Kd.R_slice ho; clear ho))
        go_ret
        exact ⟨rfl, HB3.out⟩
      · have d0 : decide (a1 < 0) = false := decide_eq_false h0
        have d1 : decide ((L.length : Int) < a1) = true := decide_eq_true (by omega)
        have d1b : decide (a1 > (L.length : Int)) = true := decide_eq_true (by omega)
        go_enter Tryd.func9, Tryd.ntmps9
        go_wp2_with (first | (go_at_call 13; (with_reducible refine (siglumlaw01_awake.calls true _ HT.out Pure.awake1).mono ?_); rintro e w1 ⟨rfl, hb1⟩; have HB1 := Aside0.mk hb1; clear hb1) | (go_at_call 28; (with_reducible refine (glyph_Cut.calls a0 a1 _ _ _ _ HC.out).mono ?_); rintro e w2 ⟨rfl, hb2⟩; have HB2 := Aside0.mk (below_step HB1.out hb2); clear hb2) | (go_at_call 21; (with_reducible refine (glyph_Cells.calls a0 L _ (Utf.tabs_step HT.out HB2.out) HL.out).mono ?_); rintro e w3 ⟨v, rfl, ho, hb3⟩; have HB3 := Aside0.mk (below_step HB2.out hb3); clear hb3; obtain ⟨Ao, co, rfl⟩ := Kd.R_slice ho; clear ho))
        go_ret
        exact ⟨rfl, HB3.out⟩
    · obtain ⟨n, hn⟩ : ∃ n : Nat, a1 = (n : Int) := ⟨a1.toNat, by omega⟩
      have hnl : n ≤ (gCells a0 a0.size 0).length := by omega
      obtain ⟨p, hp, hps, hX, hY⟩ := Pure.halves a0 n hnl
      have HC : Aside0 (glyph_Cut.f a0 a1 = some (a0.extract 0 p, a0.extract p a0.size, 0)) := ⟨by
        unfold glyph_Cut.f
        rw [if_pos hs, if_neg (by omega), if_neg (by omega), hn, Int.toNat_natCast, hp]⟩
      have hAs : (a0.extract 0 p).size = p := by rw [ByteArray.size_extract]; omega
      have hBs : (a0.extract p a0.size).size = a0.size - p := by rw [ByteArray.size_extract]; omega
      have HXc : Aside0 (glyph_Cells.f (a0.extract 0 p) = some ((gCells a0 a0.size 0).take n)) := ⟨by
        unfold glyph_Cells.f
        rw [if_pos (by omega), hX]⟩
      have HYc : Aside0 (glyph_Cells.f (a0.extract p a0.size) = some (gCells (a0.extract p a0.size) (a0.extract p a0.size).size 0)) := ⟨by
        unfold glyph_Cells.f
        rw [if_pos (by omega)]⟩
      have hjoin : (a0.extract 0 p ++ a0.extract p a0.size).toList = a0.toList := by
        rw [ByteArray.toList_eq, ByteArray.toList_eq]
        simp [ByteArray.data_append, ByteArray.data_extract]
        try (have : a0.data.size = a0.size := rfl; rw [← this, List.extract_eq_take_drop, List.extract_eq_take_drop]; simp)
      obtain ⟨L, hLe⟩ : ∃ L, gCells a0 a0.size 0 = L := ⟨_, rfl⟩
      obtain ⟨Y, hYe⟩ : ∃ Y, gCells (a0.extract p a0.size) (a0.extract p a0.size).size 0 = Y := ⟨_, rfl⟩
      rw [hYe] at HYc hY
      rw [hLe] at HL hlen HXc hY hnl
      obtain ⟨A, hA⟩ : ∃ A, a0.extract 0 p = A := ⟨_, rfl⟩
      obtain ⟨B, hB⟩ : ∃ B, a0.extract p a0.size = B := ⟨_, rfl⟩
      rw [hA, hB] at HC hjoin
      rw [hA] at HXc hAs
      rw [hB] at HYc hBs
      obtain ⟨X, hXe⟩ : ∃ X, L.take n = X := ⟨_, rfl⟩
      rw [hXe] at HXc
      have hXl : X.length = n := by rw [← hXe, List.length_take]; omega
      have hYl : Y.length + n = L.length := by
        have := congrArg List.length hY
        rw [List.length_map, List.length_drop] at this
        omega
      have HSM : Aside0 (siglumlaw01_same.f (n + 2) X X = some true) := ⟨Pure.same_eq X (by omega) _ (by omega)⟩
      have HYg : Aside0 (∀ i : Nat, i < Y.length → (rd_T30 L ((n + i : Nat) : Int)) = ({ rd_T30 Y (i : Int) with f0 := (rd_T30 Y (i : Int)).f0 + (p : Int) } : S30)) := ⟨fun i hi => by
        have hd : i < (L.drop n).length := by rw [List.length_drop]; omega
        have := map_get _ Y (L.drop n) i hi hY hd
        rw [List.getElem_drop] at this
        rw [Pl.get_rd L (n + i) (by omega), Pl.get_rd Y i hi, this]⟩
      have HYr : Aside0 (∀ i : Nat, i < Y.length → 0 ≤ (rd_T30 L ((n + i : Nat) : Int)).f0 ∧ (rd_T30 L ((n + i : Nat) : Int)).f0 ≤ 4294967296) := ⟨fun i hi => by
        have : ∀ (f q : Nat), q ≤ a0.size → ∀ c ∈ gCells a0 f q, 0 ≤ c.f0 ∧ c.f0 ≤ (a0.size : Int) := by
          intro f
          induction f with
          | zero => intro q _ c hc; cases hc
          | succ f ih =>
            intro q hq c hc
            unfold gCells at hc
            split at hc
            · rename_i hlt
              rcases List.mem_cons.1 hc with rfl | hc
              · show 0 ≤ (q : Int) ∧ (q : Int) ≤ (a0.size : Int)
                omega
              · exact ih _ (Utf.width_le a0 q hlt) c hc
            · cases hc
        rw [Pl.get_rd L (n + i) (by omega)]
        have h2 := this a0.size 0 (by omega) L[n + i] (by rw [hLe]; exact List.getElem_mem _)
        omega⟩
      have HXe := Aside0.mk hXe
      have HN := Aside0.mk hn
      clear hX hY hYe hLe hA hB hXe hp hcl hout
      have c5' : (0 : Int) ≤ a1 := by rw [hn]; exact Int.natCast_nonneg n
      have c6' : a1 ≤ (L.length : Int) := by rw [hn]; exact Int.ofNat_le.2 hnl
      have c5 := eq_true c5'
      have c6 := eq_true c6'
      have c5d : decide ((0 : Int) ≤ a1) = true := decide_eq_true c5'
      have c6d : decide (a1 ≤ (L.length : Int)) = true := decide_eq_true c6'
      clear c5' c6'
      have c0 : ((X.length : Int) == a1) = true := beq_iff_eq.2 (by omega)
      have c1 : ((X.length : Int) != a1) = false := bne_eq_false_iff_eq.2 (by omega)
      have c2 : wrap64 ((X.length : Int) + (Y.length : Int)) = (L.length : Int) := by rw [Pl.wrap_small _ (by omega) (by omega)]; omega
      have c2w : IntKind.i64.wrap ((X.length : Int) + (Y.length : Int)) = (L.length : Int) := (i64_w _).trans c2
      have c3 : ((A ++ B).toList == a0.toList) = true := beq_iff_eq.2 hjoin
      have c3b : ((A ++ B).toList != a0.toList) = false := bne_eq_false_iff_eq.2 hjoin
      have c4 : A.size + B.size ≤ 9223372036854775807 := by omega
      have c4b : (9223372036854775807 < A.size + B.size) = False := eq_false (by omega)
      have c4c : decide (A.size + B.size ≤ 9223372036854775807) = true := decide_eq_true c4
      have HS := Aside0.mk hs
      have HXl := Aside0.mk hXl
      have HYl := Aside0.mk hYl
      have HAs := Aside0.mk hAs
      have HPs := Aside0.mk hps
      have HLn := Aside0.mk hlen
      have HNl := Aside0.mk hnl
      clear hs hXl hYl hAs hBs hn hps hlen hnl hjoin c4
      go_enter Tryd.func9, Tryd.ntmps9
      go_upto_region 8 with (first | (go_at_call 13; (with_reducible refine (siglumlaw01_awake.calls true _ HT.out Pure.awake1).mono ?_); rintro e w1 ⟨rfl, hb1⟩; have HB1 := Aside0.mk hb1; clear hb1) | (go_at_call 28; (with_reducible refine (glyph_Cut.calls a0 a1 _ _ _ _ HC.out).mono ?_); rintro e w2 ⟨rfl, hb2⟩; have HB2 := Aside0.mk (below_step HB1.out hb2); clear hb2) | (go_at_call 21; (with_reducible refine (glyph_Cells.calls a0 L _ (Utf.tabs_step HT.out HB2.out) HL.out).mono ?_); rintro e w3 ⟨v, rfl, ho, hb3⟩; have HB3 := Aside0.mk (below_step HB2.out hb3); have HO := Aside0.mk (Kd.R_lower ho HB2.out.size); clear hb3 ho; obtain ⟨Ao, co, rfl⟩ := Kd.R_slice HO.out) | (go_at_call 21; (with_reducible refine (glyph_Cells.calls A X _ (Utf.tabs_step HT.out HB3.out) HXc.out).mono ?_); rintro e w4 ⟨v, rfl, ho, hb4⟩; have HB4 := Aside0.mk (below_step HB3.out hb4); have HO4 := Aside0.mk (Kd.R_below HO.out hb4); have HX4 := Aside0.mk (Kd.R_lower ho HB3.out.size); clear hb4 ho; obtain ⟨Ax, cx, rfl⟩ := Kd.R_slice HX4.out) | (go_at_call 21; (with_reducible refine (glyph_Cells.calls B Y _ (Utf.tabs_step HT.out HB4.out) HYc.out).mono ?_); rintro e w5 ⟨v, rfl, ho, hb5⟩; have HB5 := Aside0.mk (below_step HB4.out hb5); have HO5 := Aside0.mk (Kd.R_below HO4.out hb5); have HX5 := Aside0.mk (Kd.R_below HX4.out hb5); have HY5 := Aside0.mk (Kd.R_lower ho HB4.out.size); clear hb5 ho; obtain ⟨Ay, cy, rfl⟩ := Kd.R_slice HY5.out; have hco := (Kd.R_reads' HO5.out).2.1))
      have q26 : a1 ≤ (L.length : Int) := of_eq_true c6
      have q27 : (0 : Int) ≤ a1 := of_eq_true c5
      obtain ⟨i026, hi026, _, hsz26, _⟩ := info_parts info30
      have hroom26 : L.length ≤ co := (Kd.R_reads' HO5.out).2.1
      have hC26 : Kd.C k30 _ Ao L.length L := (Kd.R_reads' HO5.out).2.2
      have hcut26 := cut_to (P := Tryd.prog) 22 30 .i64 Tryd.underlying22 hi026 Ao L.length co a1 q27 q26 hroom26
      have hr26 := Kd.C_take (m := a1.toNat) hC26 (by omega)
      have hy26 : X.length = a1.toNat := by have := HXl.out; have := HN.out; omega
      have hxe : L.take a1.toNat = X := by rw [← HXe.out, HN.out]; rfl
      rw [hxe] at hr26
      rw [← hy26] at hcut26
      have HR310 := Aside0.mk hr26
      have HC310 := Aside0.mk (show X.length ≤ co from by have := HXl.out; have := HN.out; omega)
      clear hr26 hC26 hroom26 hi026 hsz26 hy26 hxe q26 q27
      go_wp2_with (first | (go_at_call 29; (with_reducible refine (siglumlaw01_same.calls (n + 2) _ _ X _ _ X true _ ?side1 ?side2 ?side3 ?side4 HSM.out).mono ?_); (case side1 => repeat (first | exact (Kd.R_reads' HX5.out).2.2 | (with_reducible refine Kd.C_alloc ?_ _) | (with_reducible refine Kd.C_drewN ?_ _) | (with_reducible refine Kd.C_drew ?_))); (case side2 => exact (Kd.R_reads' HX5.out).2.1); (case side3 => repeat (first | exact HR310.out | (with_reducible refine Kd.C_alloc ?_ _) | (with_reducible refine Kd.C_drewN ?_ _) | (with_reducible refine Kd.C_drew ?_))); (case side4 => exact HC310.out); rintro e w6 ⟨rfl, hd⟩; have HB6 := Aside0.mk (below_step HB5.out hd.below); have HO6 := Aside0.mk (Kd.R_below HO5.out hd.below); have HY6 := Aside0.mk (Kd.R_below HY5.out hd.below); clear hd))
      go_loopw [81] (fun v wr => ∃ (i : Nat) (I : Int), v = .int .i64 I ∧ Aside0 (I = (i : Int)) ∧ i ≤ Y.length ∧ Aside0 (Kd.R k30 30 wr w.heap.size (fun _ => True) (.slice Ao L.length co) L) ∧ Aside0 (Kd.R k30 30 wr w.heap.size (fun _ => True) (.slice Ay Y.length cy) Y) ∧ Aside0 (Below w.heap.size w wr)) (fun v _ => Y.length - (intOf v).toNat)
      case atStart => exact ⟨0, 0, rfl, ⟨rfl⟩, Nat.zero_le _, by first | exact HO6 | exact ⟨Kd.R_drewN HO6.out _⟩, by first | exact HY6 | exact ⟨Kd.R_drewN HY6.out _⟩, by first | exact HB6 | exact ⟨pw_below_drewN HB6.out _⟩⟩
      case round =>
        obtain ⟨i, I, rfl, HI, hi, HOr, HYr2, HBr⟩ := hrel
        clear hcut26
        by_cases hil : i < Y.length
        · have hIi := HI.out
          have hyl := HYl.out
          have hnn := HN.out
          have hll := HLn.out
          have hss := HS.out
          have i0 : (0 : Int) ≤ I := by rw [hIi]; exact Int.natCast_nonneg i
          have i1 : I < (Y.length : Int) := by rw [hIi]; exact Int.ofNat_lt.2 hil
          have hc : decide (I < (Y.length : Int)) = true := decide_eq_true i1
          have hJ0 : a1 + I = ((n + i : Nat) : Int) := by rw [hnn, hIi]; rfl
          obtain ⟨J, hJ⟩ : ∃ J, wrap64 (a1 + I) = J := ⟨_, rfl⟩
          have hJe : J = ((n + i : Nat) : Int) := by rw [← hJ, hJ0, Pl.wrap_small _ (by omega) (by omega)]
          have hJw : IntKind.i64.wrap (a1 + I) = J := (i64_w _).trans hJ
          have j0 : (0 : Int) ≤ J := by rw [hJe]; exact Int.natCast_nonneg _
          have j1 : J < (L.length : Int) := by rw [hJe]; exact Int.ofNat_lt.2 (by omega)
          have hg := HYg.out i hil
          have hgr := HYr.out i hil
          rw [← hJe, ← hIi] at hg
          rw [← hJe] at hgr
          obtain ⟨Yc, hy⟩ : ∃ y, rd_T30 Y I = y := ⟨_, rfl⟩
          rw [hy] at hg
          obtain ⟨y0, y1, y2, y3, y4⟩ := Yc
          rw [hg] at hgr
          dsimp only at hg hgr
          obtain ⟨z0, hz0⟩ : ∃ z0, y0 + (p : Int) = z0 := ⟨_, rfl⟩
          rw [hz0] at hg hgr
          have hz : wrap64 (y0 + (A.size : Int)) = z0 := by rw [HAs.out, hz0, Pl.wrap_small _ hgr.1 (by omega)]
          have hzw : IntKind.i64.wrap (y0 + (A.size : Int)) = z0 := (i64_w _).trans hz
          obtain ⟨ady, ey, yy0, yy1, yy2, yy3, yy4⟩ := at_T30 (Kd.R_reads' HYr2.out).2.2 I i0 i1
          cases ey
          rw [hy] at yy0 yy1 yy2 yy3 yy4
          obtain ⟨adl, el, ll0, ll1, ll2, ll3, ll4⟩ := at_T30 (Kd.R_reads' HOr.out).2.2 J j0 j1
          cases el
          rw [hg] at ll0 ll1 ll2 ll3 ll4
          have ml0 := fun o => cell_alloc ll0 o
          have ml1 := fun o => cell_alloc ll1 o
          have ml2 := fun o => cell_alloc ll2 o
          have ml3 := fun o => cell_alloc ll3 o
          have ml4 := fun o => cell_alloc ll4 o
          have k0 := eq_true i0
          have k1 := eq_true i1
          have k2 := eq_true j0
          have k3 := eq_true j1
          obtain ⟨I2, hI2⟩ : ∃ I2, wrap64 (I + 1) = I2 := ⟨_, rfl⟩
          have HI2 : Aside0 (I2 = ((i + 1 : Nat) : Int)) := ⟨by rw [← hI2, hIi, Pl.wrap_small _ (by omega) (by omega)]; rfl⟩
          have hI2w : IntKind.i64.wrap (I + 1) = I2 := (i64_w _).trans hI2
          clear hIi hyl hnn hll hss hJ0 hJe hg hgr hy hz0 i0 i1 j0 j1 ll0 ll1 ll2 ll3 ll4 HYg HYr
          go_wp2
          repeat (go_quiet (fail); try go_wp2)
          go_roundw
          case rel => exact ⟨i + 1, I2, rfl, HI2, by omega, ⟨by (with_reducible repeat (first | apply Kd.R_drewN | apply Kd.R_drew | apply Kd.R_alloc)); exact HOr.out⟩, ⟨by (with_reducible repeat (first | apply Kd.R_drewN | apply Kd.R_drew | apply Kd.R_alloc)); exact HYr2.out⟩, ⟨pw_below_drewN (HBr.out.alloc HBr.out.size _) _⟩⟩
          case measure => have := HI2.out; have := HI.out; simp [intOf]; omega
        · have hie : i = Y.length := by omega
          have hc : decide (I < (Y.length : Int)) = false := decide_eq_false (by have := HI.out; omega)
          clear hie hil hi
          go_wp2
          go_ret
          exact ⟨rfl, HBr.out⟩
  · rw [if_neg hs] at h
    cases h
end Go.Proofs.YtfcobfjjcocggaaDoor.V
