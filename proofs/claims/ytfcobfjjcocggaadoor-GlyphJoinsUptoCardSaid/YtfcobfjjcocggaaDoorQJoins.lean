/-
  The walk through the law GlyphJoins, at every text: by what is known of a text's cells.
-/
import Derived.Test.YtfcobfjjcocggaaDoorQFacts
import Derived.Test.YtfcobfjjcocggaaDoorPureGlyphTexts
import Derived.Test.YtfcobfjjcocggaaDoorQx4
import Derived.Test.YtfcobfjjcocggaaDoorQx14
import Derived.Test.YtfcobfjjcocggaaDoorQx2
namespace Go.Proofs.YtfcobfjjcocggaaDoor.Q
open Go.RowKit Go.Proofs.YtfcobfjjcocggaaDoorW.PrintWords Go.Proofs.YtfcobfjjcocggaaDoorW.PrintLast Go.Proofs.YtfcobfjjcocggaaDoorW.PrintMore
set_option linter.unusedVariables false
set_option linter.unusedSimpArgs false

def siglumlaw01_GlyphJoins.f (a0 : ByteArray) : Option Bool := if a0.size ≤ 4294967296 then some true else none
/-- A good cell's rune is written as its bytes. -/
theorem good_text (s : ByteArray) (i : Nat) (h : i < s.size) (hb : Utf.bad s i = false) : (Utf8.encode ((Utf8.decode s i).1 : Int)).toList = (s.extract i (i + (Utf8.decode s i).2)).toList := by
  rw [ByteArray.toList_eq, ByteArray.toList_eq, Utf.encode_bytes s i h hb]
  simp [ByteArray.data_extract, List.extract_eq_take_drop]
set_option maxHeartbeats 8000000 in
set_option maxRecDepth 100000 in
theorem siglumlaw01_GlyphJoins.calls (a0 : ByteArray) (r : Bool) (w : World) (hT : Lib.Utf8Tabs 0 1 w) (h : siglumlaw01_GlyphJoins.f a0 = some r) :
    Calls Tryd.prog 5 #[.string a0] w fun e w' => e = .returned (.bool r) ∧ Below w.heap.size w w' := by
  unfold siglumlaw01_GlyphJoins.f at h
  by_cases hs : a0.size ≤ 4294967296
  · rw [if_pos hs] at h
    obtain rfl := Option.some.inj h
    clear h
    have HT := Aside0.mk hT
    clear hT
    have HL : Aside0 (glyph_Cells.f a0 = some (gCells a0 a0.size 0)) := ⟨by unfold glyph_Cells.f; rw [if_pos hs]⟩
    have hlen := Pl.cells_le a0
    have HTX : Aside0 (glyph_Text.f (gCells a0 a0.size 0) = some a0) := ⟨by
      unfold glyph_Text.f
      rw [if_pos ⟨by omega, Pl.cells_byte a0 _ _⟩, Pl.text_back]⟩
    have HCN : Aside0 (glyph_Count.f a0 = some ((gCells a0 a0.size 0).length : Int)) := ⟨by
      unfold glyph_Count.f
      rw [if_pos hs, Pl.cells_length]⟩
    have HCS : Aside0 (∀ f i, a0.size ≤ i + f → i < a0.size → gCells a0 f i = gCell a0 i :: gCells a0 (f - 1) (i + (Utf8.decode a0 i).2)) := ⟨fun f i hf hi => by
      obtain ⟨g, rfl⟩ : ∃ g, f = g + 1 := ⟨f - 1, by omega⟩
      exact gCells_step a0 g i hi⟩
    obtain ⟨L, hLe⟩ : ∃ L, gCells a0 a0.size 0 = L := ⟨_, rfl⟩
    rw [hLe] at HL HTX HCN hlen
    have HLe := Aside0.mk hLe
    clear hLe
    have hlm : L.length ≤ 4294967296 := by omega
    go_enter Tryd.func5, Tryd.ntmps5
    go_wp2_with (first | (go_at_call 13; refine (siglumlaw01_awake.calls true _ HT.out Pure.awake1).mono ?_; rintro e w1 ⟨rfl, hb1⟩; have HB1 := Aside0.mk hb1; clear hb1) | (go_at_call 21; refine (glyph_Cells.calls a0 L _ (Utf.tabs_step HT.out HB1.out) HL.out).mono ?_; rintro e w2 ⟨v, rfl, ho, hb2⟩; have HB2 := Aside0.mk (below_step HB1.out hb2); have HO := Aside0.mk (Kd.R_lower ho HB1.out.size); clear hb2 ho; obtain ⟨Ao, co, rfl⟩ := Kd.R_slice HO.out))
    go_loopw [4, 12] (fun v4 v12 wr => ∃ (pos i f : Nat) (P I : Int), v4 = .int .i64 P ∧ v12 = .int .i64 I ∧ Aside0 (P = (pos : Int)) ∧ Aside0 (I = (i : Int)) ∧ i ≤ L.length ∧ pos ≤ a0.size ∧ a0.size ≤ pos + f ∧ Aside0 (L.drop i = gCells a0 f pos) ∧ Aside0 (Kd.R k30 30 wr w.heap.size (fun _ => True) (.slice Ao L.length co) L) ∧ Aside0 (Below w.heap.size w wr)) (fun _ v12 _ => L.length - (intOf v12).toNat)
    case atStart => exact ⟨0, 0, a0.size, 0, 0, rfl, rfl, ⟨rfl⟩, ⟨rfl⟩, Nat.zero_le _, Nat.zero_le _, by omega, ⟨by rw [List.drop_zero]; exact HLe.out.symm⟩, HO, HB2⟩
    case round =>
      obtain ⟨pos, i, f, P, I, rfl, rfl, HP, HI, hi, hp, hf, HD, HO, HB⟩ := hrel
      have hP := HP.out
      have hI := HI.out
      by_cases hil : i < L.length
      · have hc : decide (I < (L.length : Int)) = true := decide_eq_true (by omega)
        have hps : pos < a0.size := by
          apply Classical.byContradiction
          intro hn
          have := HD.out
          rw [gCells_end a0 f pos hn] at this
          have := congrArg List.length this
          rw [List.length_drop] at this
          simp at this
          omega
        have hst := HCS.out f pos hf hps
        rw [← HD.out, List.drop_eq_getElem_cons hil, List.cons.injEq] at hst
        obtain ⟨hg, htl⟩ := hst
        have HTL := Aside0.mk htl
        clear htl
        have hw1 := Utf.width_pos a0 pos hps
        have hw2 := Utf.width_le a0 pos hps
        have hr1 := Utf.rune_le a0 pos
        have hbd := Utf.bad_iff a0 pos
        have hgt := good_text a0 pos hps
        have hrd : rd_T30 L I = gCell a0 pos := by rw [hI]; exact (Pl.get_rd L i hil).trans hg
        clear hg
        obtain ⟨ad, e0, x0, x1, x2, x3, x4⟩ := at_T30 (Kd.R_reads' HO.out).2.2 I (by omega) (by omega)
        cases e0
        rw [hrd] at x0 x1 x2 x3 x4
        clear hrd
        have hnn := eq_true (show (0 : Int) ≤ I by omega)
        have hil2 := eq_true (show I < (L.length : Int) by omega)
        have hnp := eq_true (show (0 : Int) ≤ P by omega)
        have hps2 := eq_true (show P < (a0.size : Int) by omega)
        have hnpd : decide ((0 : Int) ≤ P) = true := decide_eq_true (by omega)
        have hpd : decide (P < (a0.size : Int)) = true := decide_eq_true (by omega)
        obtain ⟨I2, hI2⟩ : ∃ I2, wrap64 (I + 1) = I2 := ⟨_, rfl⟩
        have HI2 : Aside0 (I2 = ((i + 1 : Nat) : Int)) := ⟨by rw [← hI2, Pl.wrap_small _ (by omega) (by omega)]; omega⟩
        have hI2w : IntKind.i64.wrap (I + 1) = I2 := (i64_w _).trans hI2
        have y0 : (gCell a0 pos).f0 = P := hP.symm
        have y1 : (gCell a0 pos).f1 = ((Utf8.decode a0 pos).2 : Int) := rfl
        have y2 : (gCell a0 pos).f2 = ((Utf8.decode a0 pos).1 : Int) := rfl
        have y3 : (gCell a0 pos).f3 = Utf.bad a0 pos := rfl
        have y4 : (gCell a0 pos).f4 = if Utf.bad a0 pos = true then bt a0 P else 0 := by rw [hP]; rfl
        rw [y0] at x0
        rw [y1] at x1
        rw [y2] at x2
        rw [y3] at x3
        rw [y4] at x4
        clear y0 y1 y2 y3 y4
        obtain ⟨R, hR⟩ : ∃ R, (Utf8.decode a0 pos).1 = R := ⟨_, rfl⟩
        obtain ⟨Wn, hWn⟩ : ∃ W, (Utf8.decode a0 pos).2 = W := ⟨_, rfl⟩
        rw [hR, hWn] at hbd hgt
        rw [hR] at x2 hr1
        rw [hWn] at x1 hw1 hw2 HTL
        clear hR hWn
        obtain ⟨W, hW⟩ : ∃ W : Int, (Wn : Int) = W := ⟨_, rfl⟩
        obtain ⟨Ri, hRi⟩ : ∃ R2 : Int, (R : Int) = R2 := ⟨_, rfl⟩
        rw [hW] at x1
        rw [hRi] at x2 hgt
        have d1 : decide (W < 1) = false := decide_eq_false (by omega)
        obtain ⟨S, hS⟩ : ∃ S, wrap64 ((a0.size : Int) - P) = S := ⟨_, rfl⟩
        have hS1 : S = ((a0.size - pos : Nat) : Int) := by rw [← hS, Pl.wrap_small _ (by omega) (by omega)]; omega
        have hSw : IntKind.i64.wrap ((a0.size : Int) - P) = S := (i64_w _).trans hS
        have d2 : decide (S < W) = false := decide_eq_false (by omega)
        have d2b : decide (W > S) = false := decide_eq_false (by omega)
        clear hS1
        obtain ⟨P2, hP2⟩ : ∃ P2, wrap64 (P + W) = P2 := ⟨_, rfl⟩
        have hP2w : IntKind.i64.wrap (P + W) = P2 := (i64_w _).trans hP2
        have hP2e : P2 = ((pos + Wn : Nat) : Int) := by rw [← hP2, Pl.wrap_small _ (by omega) (by omega)]; omega
        have HP2 := Aside0.mk hP2e
        have hpp : P.toNat = pos := by omega
        have hpp2 : P2.toNat = pos + Wn := by omega
        replace hgt : Utf.bad a0 pos = false → (Utf8.encode Ri).toList = (a0.extract P.toNat P2.toNat).toList := by rw [hpp2, hpp]; exact hgt
        have hpw := eq_true (show P ≤ P2 by omega)
        have hpz := eq_true (show P2 ≤ (a0.size : Int) by omega)
        have hpwd : decide (P ≤ P2) = true := decide_eq_true (by omega)
        have hpzd : decide (P2 ≤ (a0.size : Int)) = true := decide_eq_true (by omega)
        have hby := bt_at a0 P
        have HRI := Aside0.mk hRi
        have HW := Aside0.mk hW
        have HPP := Aside0.mk hpp
        clear hP2e hRi hW hpp hpp2 hP hI
        cases hb : Utf.bad a0 pos
        · have hgt := hgt hb
          rw [hb] at x3 x4
          rw [if_neg (by decide)] at x4
          have q1 : ((Utf8.encode Ri).toList == (a0.extract P.toNat P2.toNat).toList) = true := beq_iff_eq.2 hgt
          have q2 : ((Utf8.encode Ri).toList != (a0.extract P.toNat P2.toNat).toList) = false := bne_eq_false_iff_eq.2 hgt
          clear hgt hby
          by_cases hr : R = 65533
          · have d3 : (Ri == 65533) = true := beq_iff_eq.2 (by have := HRI.out; omega)
            have d4 : (W == 1) = false := beq_eq_false_iff_ne.2 (fun e => by have := HW.out; rw [hbd.2 ⟨hr, by omega⟩] at hb; cases hb)
            clear hbd hb hr
            go_wp2
            repeat (go_quiet (fail); try go_wp2)
            go_roundw
            case rel => exact ⟨pos + Wn, i + 1, f - 1, P2, I2, rfl, rfl, HP2, HI2, by omega, by omega, by omega, HTL, ⟨by (with_reducible repeat (first | apply Kd.R_alloc | apply Kd.R_drewN | apply Kd.R_drew)); exact HO.out⟩, ⟨by repeat (first | (with_reducible first | exact HB.out | apply below_alloc | apply pw_below_drewN | apply below_drew1) | exact HB.out)⟩⟩
            case measure => have := HI2.out; have := HI.out; simp [intOf]; omega
          · have d3 : (Ri == 65533) = false := beq_eq_false_iff_ne.2 (by have := HRI.out; omega)
            clear hbd hb hr
            go_wp2
            repeat (go_quiet (fail); try go_wp2)
            go_roundw
            case rel => exact ⟨pos + Wn, i + 1, f - 1, P2, I2, rfl, rfl, HP2, HI2, by omega, by omega, by omega, HTL, ⟨by (with_reducible repeat (first | apply Kd.R_alloc | apply Kd.R_drewN | apply Kd.R_drew)); exact HO.out⟩, ⟨by repeat (first | (with_reducible first | exact HB.out | apply below_alloc | apply pw_below_drewN | apply below_drew1) | exact HB.out)⟩⟩
            case measure => have := HI2.out; have := HI.out; simp [intOf]; omega
        · obtain ⟨hr, hw⟩ := hbd.1 hb
          have d3 : (Ri == 65533) = true := beq_iff_eq.2 (by have := HRI.out; omega)
          have d4 : (W == 1) = true := beq_iff_eq.2 (by have := HW.out; omega)
          rw [hb] at x3 x4
          rw [if_pos rfl] at x4
          have hpn : P.toNat < a0.size := by have := HPP.out; omega
          have hby2 := hby hpn
          clear hby hgt hb hbd hr hw
          go_wp2
          repeat (go_quiet (fail); try go_wp2)
          go_roundw
          case rel => exact ⟨pos + Wn, i + 1, f - 1, P2, I2, rfl, rfl, HP2, HI2, by omega, by omega, by omega, HTL, ⟨by (with_reducible repeat (first | apply Kd.R_alloc | apply Kd.R_drewN | apply Kd.R_drew)); exact HO.out⟩, ⟨by repeat (first | (with_reducible first | exact HB.out | apply below_alloc | apply pw_below_drewN | apply below_drew1) | exact HB.out)⟩⟩
          case measure => have := HI2.out; have := HI.out; simp [intOf]; omega
      · have hc : decide (I < (L.length : Int)) = false := decide_eq_false (by omega)
        have hpe : P = (a0.size : Int) := by
          have : pos = a0.size := by
            apply Classical.byContradiction
            intro hn
            have := HCS.out f pos hf (by omega)
            rw [← HD.out, List.drop_of_length_le (by omega)] at this
            cases this
          omega
        subst hpe
        have he : ((a0.size : Int) == (a0.size : Int)) = true := beq_iff_eq.2 rfl
        have hrd := Kd.R_reads' HO.out
        have q1 : (a0.toList == a0.toList) = true := beq_iff_eq.2 rfl
        go_wp2_with (first | (go_at_call 14; refine (glyph_Text.calls Ao co L a0 _ (Kd.R_reads' HO.out).2.2 (Kd.R_reads' HO.out).2.1 HTX.out).mono ?_; rintro e w3 ⟨rfl, hb3⟩; have HB3 := Aside0.mk (below_step HB.out hb3); clear hb3) | (go_at_call 22; refine (glyph_Count.calls a0 _ _ HCN.out).mono ?_; rintro e w4 ⟨rfl, hb4⟩; have HB4 := Aside0.mk (below_step HB3.out hb4); clear hb4))
        go_ret
        exact ⟨rfl, HB4.out⟩
  · rw [if_neg hs] at h
    cases h
end Go.Proofs.YtfcobfjjcocggaaDoor.Q
