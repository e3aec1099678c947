/-
  The law that the spans cover the text: the walk by hand, under what is known of both answers.
-/
import Derived.Test.YtpmiaaphmgoapaaHx
import Derived.Test.YtpmiaaphmgoapaaHSpans
import Derived.Test.YtpmiaaphmgoapaaHxf12
import Derived.Test.YtpmiaaphmgoapaaHxf13
import Derived.Test.YtpmiaaphmgoapaaHxf9
namespace Go.Proofs.Ytpmiaaphmgoapaa.H
open Go.RowKit Go.Proofs Go.Proofs.YtpmiaaphmgoapaaW.PrintWords Go.Proofs.YtpmiaaphmgoapaaW.PrintLast Go.Proofs.YtpmiaaphmgoapaaW.PrintMore
set_option linter.unusedVariables false
set_option linter.unusedSimpArgs false
/-- Do the spans stand one behind the other, and does each hold its piece's text? -/
def coverB (s : ByteArray) (h : Int) : List S37 → List (Int × Int) → Int → Bool
  | [], _, P => decide (P = (s.size : Int))
  | _ :: _, [], _ => false
  | p :: L, x :: X, P => decide (x.1 = P ∧ 0 ≤ P ∧ P ≤ x.2 ∧ x.2 ≤ (s.size : Int) ∧ ((p.f0 = 1 ∨ p.f0 = 4) → 0 < p.f1.length ∧ rdOf ByteArray.empty p.f1 0 = s.extract P.toNat x.2.toNat) ∧ (p.f0 = 3 → h < (p.f1.length : Int) → 0 ≤ h ∧ rdOf ByteArray.empty p.f1 h = s.extract P.toNat x.2.toNat)) && coverB s h L X x.2
def siglumlaw06_HandCovers.f (k : Nat) (l0 : List S37) (a1 : Int) : Option Bool := (siglumlaw06_awake.f k).bind fun b => if b = true then ((hand_Read.f k l0 a1).bind fun s => (hand_Spans.f k l0 a1).bind fun t => if s.2 = 0 then (if t.2 = 0 ∧ coverB s.1 a1 l0 t.1 0 = true ∧ t.1.length = l0.length ∧ l0.length ≤ 4294967296 * 1024 ∧ s.1.size ≤ 65536 then some true else none) else ((siglumref05_Right.f k l0).bind fun q => if t = ([], s.2) ∧ s.1 = ⟨#[]⟩ ∧ (q = false ∨ a1 < 0 ∨ 4 ≤ a1 ∨ s.2 = 1) then some true else none)) else none
set_option maxHeartbeats 4000000 in
set_option maxRecDepth 100000 in
theorem siglumlaw06_HandCovers.calls (k : Nat) (A0 : Option Addr) (c0 : Nat) (l0 : List S37) (a1 : Int) (r : Bool) (w : World) (hr0 : Kd.C k37 w A0 l0.length l0) (hc0 : l0.length ≤ c0) (h : siglumlaw06_HandCovers.f k l0 a1 = some r) :
    Calls Try.prog 4 #[.slice A0 l0.length c0, .int .i64 a1] w fun e w' => e = .returned (.bool r) ∧ Below w.heap.size w w' := by
  obtain ⟨b, hAw, h⟩ := Option.bind_eq_some_iff.mp h
  by_cases hb : b = true
  · subst hb
    rw [if_pos rfl] at h
    obtain ⟨⟨s, e⟩, hS, h⟩ := Option.bind_eq_some_iff.mp h
    obtain ⟨⟨sp, f⟩, hT, h⟩ := Option.bind_eq_some_iff.mp h
    dsimp only at h
    have HAW := Aside0.mk hAw
    have HS := Aside0.mk hS
    have HT := Aside0.mk hT
    have HR := Aside0.mk hr0
    have HC := Aside0.mk hc0
    clear hAw hS hT hr0 hc0
    by_cases he : e = 0
    · subst he
      rw [if_pos rfl] at h
      by_cases hg : f = 0 ∧ coverB s a1 l0 sp 0 = true ∧ sp.length = l0.length ∧ l0.length ≤ 4294967296 * 1024 ∧ s.size ≤ 65536
      · rw [if_pos hg] at h
        obtain ⟨rfl, hcov, hlen, hl0, hss⟩ := hg
        obtain rfl := Option.some.inj h
        have HCV := Aside0.mk hcov
        have HLEN := Aside0.mk hlen
        clear h hcov
        have hu := Try.underlying30
        have hup := Try.underlying37
        have hll : ((sp.length : Int) != (l0.length : Int)) = false := by rw [hlen]; exact bne_self_eq_false _
        clear hlen
        go_enter Try.func4, Try.ntmps4
        go_wp2_with (first | (go_at_call 9; (with_reducible refine (siglumlaw06_awake.calls k true _ HAW.out).mono ?_); rintro e' w1 ⟨rfl, hb⟩; have HB1 := Aside0.mk hb; have HR1 := Aside0.mk (Kd.C_below HR.out hb); clear hb) | (go_at_call 12; (with_reducible refine (hand_Read.calls k A0 c0 l0 a1 s 0 _ HR1.out HC.out HS.out).mono ?_); rintro e' w2 ⟨rfl, hb⟩; have HB2 := Aside0.mk (below_step HB1.out hb); have HR2 := Aside0.mk (Kd.C_below HR1.out hb); clear hb) | (go_at_call 10; (with_reducible refine (hand_Spans.calls k A0 c0 l0 a1 sp 0 _ HR2.out HC.out HT.out).mono ?_); rintro e' w3 ⟨v, rfl, hv, hb⟩; obtain ⟨A1, c1, rfl, hc1, hC1⟩ := Kd.R_reads hv; have HB3 := Aside0.mk (below_step HB2.out hb); have HS3 := Aside0.mk hC1; clear hb hv hC1 hc1))
        go_loopw [9, 69] (fun v9 v69 wr => ∃ (i : Nat) (I P : Int), v9 = .int .i64 P ∧ v69 = .int .i64 I ∧ Aside0 (I = (i : Int)) ∧ i ≤ sp.length ∧ Aside0 (coverB s a1 (l0.drop i) (sp.drop i) P = true) ∧ Aside0 (Below w.heap.size w wr) ∧ Aside0 (Kd.C kSpan wr A1 sp.length sp)) (fun _ v69 _ => sp.length - (intOf v69).toNat)
        case atStart => exact ⟨0, 0, 0, rfl, rfl, ⟨rfl⟩, Nat.zero_le _, HCV, HB3, HS3⟩
        case round =>
          obtain ⟨i, I, P, rfl, rfl, HI, hi, HA, HB, HSr⟩ := hrel
          have hlen := HLEN.out
          by_cases hil : i < sp.length
          · have i0 : 0 ≤ I := by rw [HI.out]; exact Int.natCast_nonneg i
            have i1 : I < (sp.length : Int) := by rw [HI.out]; exact Int.ofNat_lt.2 hil
            have j1 : I < (l0.length : Int) := by rw [← hlen]; exact i1
            have hil0 : i < l0.length := by omega
            have i1b : decide (I < (sp.length : Int)) = true := decide_eq_true i1
            obtain ⟨ad, e0, x0, x1⟩ := at_span HSr.out I i0 i1
            subst e0
            obtain ⟨bd, A2, c2, e1, y0, y1, y2, hl2, hi2⟩ := at_T37 (Kd.C_below HR.out HB.out) I i0 j1
            subst e1
            obtain ⟨C, hC⟩ : ∃ C, rd_T37 l0 I = C := ⟨_, rfl⟩
            have hdr : l0.drop i = C :: l0.drop (i + 1) := by
              rw [← hC, HI.out]
              unfold rd_T37
              rw [Int.toNat_natCast, List.drop_eq_getElem_cons hil0, List.getD_eq_getElem?_getD, List.getElem?_eq_getElem hil0]
              rfl
            obtain ⟨⟨P', Q⟩, hX⟩ : ∃ X, rdSp sp I = X := ⟨_, rfl⟩
            have hdrS : sp.drop i = (P', Q) :: sp.drop (i + 1) := by
              rw [← hX, HI.out]
              unfold rdSp
              rw [Int.toNat_natCast, List.drop_eq_getElem_cons hil, List.getD_eq_getElem?_getD, List.getElem?_eq_getElem hil]
              rfl
            rw [hC] at y0 y1 y2 hl2 hi2
            rw [hX] at x0 x1
            clear hC hX
            obtain ⟨p0, l1, p2⟩ := C
            dsimp only at x0 x1 y0 y1 y2 hl2 hi2
            have hcv := HA.out
            rw [hdr, hdrS] at hcv
            unfold coverB at hcv
            rw [Bool.and_eq_true, decide_eq_true_eq] at hcv
            obtain ⟨⟨hPP, hP0, hPQ, hQs, hk14, hk3⟩, hcv2⟩ := hcv
            dsimp only at hPP hP0 hPQ hQs hk14 hk3 hcv2
            subst hPP
            have HCV2 := Aside0.mk hcv2
            have hne : (P' != P') = false := bne_self_eq_false _
            have hd1 : decide (Q < P') = false := decide_eq_false (by omega)
            have hd2 : decide (Q > (s.size : Int)) = false := decide_eq_false (by omega)
            have hd3 : decide ((s.size : Int) < Q) = false := decide_eq_false (by omega)
            obtain ⟨X, hXe⟩ : ∃ X, s.extract P'.toNat Q.toNat = X := ⟨_, rfl⟩
            rw [hXe] at hk14 hk3
            have hXX : (X.toList != X.toList) = false := bne_self_eq_false _
            obtain ⟨I2, hI2⟩ : ∃ x : Int, wrap64 (I + 1) = x := ⟨_, rfl⟩
            have hI2w : IntKind.i64.wrap (I + 1) = I2 := (i64_w _).trans hI2
            have EI2 : Aside0 (I2 = ((i + 1 : Nat) : Int)) := ⟨by rw [← hI2, HI.out, hw64 _ (by omega) (by omega)]; rfl⟩
            have hP1 : (0 ≤ P') = True := eq_true hP0
            have hPQ1 : (P' ≤ Q) = True := eq_true hPQ
            have hQs1 : (Q ≤ (s.size : Int)) = True := eq_true hQs
            have hQ0 : (0 ≤ Q) = True := eq_true (by omega)
            have z0 := fun o => cell_allocH y0 o
            have z1 := fun o => cell_allocH y1 o
            have z2 := fun o => cell_allocH y2 o
            have HSa := fun o => Kd.C_alloc HSr.out o
            replace i0 := eq_true i0
            replace i1 := eq_true i1
            replace j1 := eq_true j1
            clear hlen hdr hdrS HA hP0 hPQ hQs hcv2
            by_cases h14 : p0 = 1 ∨ p0 = 4
            · obtain ⟨hl1, hXt⟩ := hk14 h14
              have hlz : (0 : Int) < (l1.length : Int) := by omega
              obtain ⟨td, e2, t0⟩ := Kd.at_string hi2 0 (Int.le_refl 0) hlz
              subst e2
              rw [hXt] at t0
              have t1 := fun o => cell_allocH t0 o
              have hlz1 : (0 < l1.length) = True := eq_true hl1
              have t2 : ∀ o, (wr.alloc o).cell? td = some (.string X) := t1
              replace hlz := eq_true hlz
              clear hk14 hk3
              rcases h14 with rfl | rfl
              · go_wp2
                go_roundw
                case rel => exact ⟨i + 1, I2, Q, rfl, rfl, EI2, by omega, HCV2, ⟨HB.out.alloc HB.out.size _⟩, ⟨HSa _⟩⟩
                case measure => have := HI.out; have := EI2.out; simp [intOf]; omega
              · go_wp2
                go_roundw
                case rel => exact ⟨i + 1, I2, Q, rfl, rfl, EI2, by omega, HCV2, ⟨HB.out.alloc HB.out.size _⟩, ⟨HSa _⟩⟩
                case measure => have := HI.out; have := EI2.out; simp [intOf]; omega
            · have h1 : (p0 == 1) = false := beq_eq_false_iff_ne.2 fun h => h14 (.inl h)
              have h4 : (p0 == 4) = false := beq_eq_false_iff_ne.2 fun h => h14 (.inr h)
              clear hk14 h14
              by_cases h3 : p0 = 3
              · by_cases hlt : a1 < (l1.length : Int)
                · obtain ⟨ha0, hXt⟩ := hk3 h3 hlt
                  subst h3
                  obtain ⟨td, e2, t0⟩ := Kd.at_string hi2 a1 ha0 hlt
                  subst e2
                  rw [hXt] at t0
                  have t1 := fun o => cell_allocH t0 o
                  have hltb : decide (a1 < (l1.length : Int)) = true := decide_eq_true hlt
                  replace hlt := eq_true hlt
                  replace ha0 := eq_true ha0
                  clear hk3
                  go_wp2
                  go_roundw
                  case rel => exact ⟨i + 1, I2, Q, rfl, rfl, EI2, by omega, HCV2, ⟨HB.out.alloc HB.out.size _⟩, ⟨HSa _⟩⟩
                  case measure => have := HI.out; have := EI2.out; simp [intOf]; omega
                · subst h3
                  have hltb : decide (a1 < (l1.length : Int)) = false := decide_eq_false hlt
                  clear hk3
                  go_wp2
                  go_roundw
                  case rel => exact ⟨i + 1, I2, Q, rfl, rfl, EI2, by omega, HCV2, ⟨HB.out.alloc HB.out.size _⟩, ⟨HSa _⟩⟩
                  case measure => have := HI.out; have := EI2.out; simp [intOf]; omega
              · have h3b : (p0 == 3) = false := beq_eq_false_iff_ne.2 h3
                clear hk3 h3
                go_wp2
                go_roundw
                case rel => exact ⟨i + 1, I2, Q, rfl, rfl, EI2, by omega, HCV2, ⟨HB.out.alloc HB.out.size _⟩, ⟨HSa _⟩⟩
                case measure => have := HI.out; have := EI2.out; simp [intOf]; omega
          · have i1b : decide (I < (sp.length : Int)) = false := decide_eq_false (by rw [HI.out]; omega)
            have hPs : P = (s.size : Int) := by
              have h1 := HA.out
              rw [List.drop_of_length_le (by omega)] at h1
              unfold coverB at h1
              exact of_decide_eq_true h1
            have hPb : (P == (s.size : Int)) = true := beq_iff_eq.2 hPs
            clear hPs hlen
            go_wp2
            go_ret
            exact ⟨rfl, HB.out⟩
      · rw [if_neg hg] at h
        cases h
    · rw [if_neg he] at h
      obtain ⟨q, hQ, h9⟩ := Option.bind_eq_some_iff.mp h
      clear h
      by_cases hg : (sp, f) = ([], e) ∧ s = ⟨#[]⟩ ∧ (q = false ∨ a1 < 0 ∨ 4 ≤ a1 ∨ e = 1)
      · rw [if_pos hg] at h9
        obtain ⟨hsf, rfl, hor⟩ := hg
        obtain ⟨rfl, rfl⟩ := Prod.mk.inj hsf
        obtain rfl := Option.some.inj h9
        have HQ := Aside0.mk hQ
        have heb : (f != 0) = true := bne_iff_ne.2 he
        have hee : (f == f) = true := beq_self_eq_true f
        clear h9 hQ hsf he
        cases q with
        | false =>
          clear hor
          go_enter Try.func4, Try.ntmps4
          go_wp2_with (first | (go_at_call 9; (with_reducible refine (siglumlaw06_awake.calls k true _ HAW.out).mono ?_); rintro e' w1 ⟨rfl, hb⟩; have HB1 := Aside0.mk hb; have HR1 := Aside0.mk (Kd.C_below HR.out hb); clear hb) | (go_at_call 12; (with_reducible refine (hand_Read.calls k A0 c0 l0 a1 ⟨#[]⟩ f _ HR1.out HC.out HS.out).mono ?_); rintro e' w2 ⟨rfl, hb⟩; have HB2 := Aside0.mk (below_step HB1.out hb); have HR2 := Aside0.mk (Kd.C_below HR1.out hb); clear hb) | (go_at_call 10; (with_reducible refine (hand_Spans.calls k A0 c0 l0 a1 [] f _ HR2.out HC.out HT.out).mono ?_); rintro e' w3 ⟨v, rfl, hv, hb⟩; obtain ⟨A1, c1, rfl⟩ := Kd.R_slice hv; have HB3 := Aside0.mk (below_step HB2.out hb); have HR3 := Aside0.mk (Kd.C_below HR2.out hb); clear hb hv) | (go_at_call 13; (with_reducible refine (siglumref05_Right.calls k A0 c0 l0 false _ HR3.out HC.out HQ.out).mono ?_); rintro e' w4 ⟨rfl, hb⟩; have HB4 := Aside0.mk (below_step HB3.out hb); clear hb))
          go_ret
          exact ⟨rfl, HB4.out⟩
        | true =>
          by_cases hq1 : a1 < 0
          · have hq1b : decide (a1 < 0) = true := decide_eq_true hq1
            clear hor hq1
            go_enter Try.func4, Try.ntmps4
            go_wp2_with (first | (go_at_call 9; (with_reducible refine (siglumlaw06_awake.calls k true _ HAW.out).mono ?_); rintro e' w1 ⟨rfl, hb⟩; have HB1 := Aside0.mk hb; have HR1 := Aside0.mk (Kd.C_below HR.out hb); clear hb) | (go_at_call 12; (with_reducible refine (hand_Read.calls k A0 c0 l0 a1 ⟨#[]⟩ f _ HR1.out HC.out HS.out).mono ?_); rintro e' w2 ⟨rfl, hb⟩; have HB2 := Aside0.mk (below_step HB1.out hb); have HR2 := Aside0.mk (Kd.C_below HR1.out hb); clear hb) | (go_at_call 10; (with_reducible refine (hand_Spans.calls k A0 c0 l0 a1 [] f _ HR2.out HC.out HT.out).mono ?_); rintro e' w3 ⟨v, rfl, hv, hb⟩; obtain ⟨A1, c1, rfl⟩ := Kd.R_slice hv; have HB3 := Aside0.mk (below_step HB2.out hb); have HR3 := Aside0.mk (Kd.C_below HR2.out hb); clear hb hv) | (go_at_call 13; (with_reducible refine (siglumref05_Right.calls k A0 c0 l0 true _ HR3.out HC.out HQ.out).mono ?_); rintro e' w4 ⟨rfl, hb⟩; have HB4 := Aside0.mk (below_step HB3.out hb); clear hb))
            go_ret
            exact ⟨rfl, HB4.out⟩
          · have hq1b : decide (a1 < 0) = false := decide_eq_false hq1
            by_cases hq2 : 4 ≤ a1
            · have hq2b : decide (a1 ≥ 4) = true := decide_eq_true hq2
              have hq2c : decide (4 ≤ a1) = true := decide_eq_true hq2
              clear hor hq1 hq2
              go_enter Try.func4, Try.ntmps4
              go_wp2_with (first | (go_at_call 9; (with_reducible refine (siglumlaw06_awake.calls k true _ HAW.out).mono ?_); rintro e' w1 ⟨rfl, hb⟩; have HB1 := Aside0.mk hb; have HR1 := Aside0.mk (Kd.C_below HR.out hb); clear hb) | (go_at_call 12; (with_reducible refine (hand_Read.calls k A0 c0 l0 a1 ⟨#[]⟩ f _ HR1.out HC.out HS.out).mono ?_); rintro e' w2 ⟨rfl, hb⟩; have HB2 := Aside0.mk (below_step HB1.out hb); have HR2 := Aside0.mk (Kd.C_below HR1.out hb); clear hb) | (go_at_call 10; (with_reducible refine (hand_Spans.calls k A0 c0 l0 a1 [] f _ HR2.out HC.out HT.out).mono ?_); rintro e' w3 ⟨v, rfl, hv, hb⟩; obtain ⟨A1, c1, rfl⟩ := Kd.R_slice hv; have HB3 := Aside0.mk (below_step HB2.out hb); have HR3 := Aside0.mk (Kd.C_below HR2.out hb); clear hb hv) | (go_at_call 13; (with_reducible refine (siglumref05_Right.calls k A0 c0 l0 true _ HR3.out HC.out HQ.out).mono ?_); rintro e' w4 ⟨rfl, hb⟩; have HB4 := Aside0.mk (below_step HB3.out hb); clear hb))
              go_ret
              exact ⟨rfl, HB4.out⟩
            · have hq2b : decide (a1 ≥ 4) = false := decide_eq_false hq2
              have hq2c : decide (4 ≤ a1) = false := decide_eq_false hq2
              have hf1 : f = 1 := by
                rcases hor with h | h | h | h
                · cases h
                · exact absurd h hq1
                · exact absurd h hq2
                · exact h
              have hf1b : (f == 1) = true := beq_iff_eq.2 hf1
              clear hor hq1 hq2 hf1
              go_enter Try.func4, Try.ntmps4
              go_wp2_with (first | (go_at_call 9; (with_reducible refine (siglumlaw06_awake.calls k true _ HAW.out).mono ?_); rintro e' w1 ⟨rfl, hb⟩; have HB1 := Aside0.mk hb; have HR1 := Aside0.mk (Kd.C_below HR.out hb); clear hb) | (go_at_call 12; (with_reducible refine (hand_Read.calls k A0 c0 l0 a1 ⟨#[]⟩ f _ HR1.out HC.out HS.out).mono ?_); rintro e' w2 ⟨rfl, hb⟩; have HB2 := Aside0.mk (below_step HB1.out hb); have HR2 := Aside0.mk (Kd.C_below HR1.out hb); clear hb) | (go_at_call 10; (with_reducible refine (hand_Spans.calls k A0 c0 l0 a1 [] f _ HR2.out HC.out HT.out).mono ?_); rintro e' w3 ⟨v, rfl, hv, hb⟩; obtain ⟨A1, c1, rfl⟩ := Kd.R_slice hv; have HB3 := Aside0.mk (below_step HB2.out hb); have HR3 := Aside0.mk (Kd.C_below HR2.out hb); clear hb hv) | (go_at_call 13; (with_reducible refine (siglumref05_Right.calls k A0 c0 l0 true _ HR3.out HC.out HQ.out).mono ?_); rintro e' w4 ⟨rfl, hb⟩; have HB4 := Aside0.mk (below_step HB3.out hb); clear hb))
              go_ret
              exact ⟨rfl, HB4.out⟩
      · rw [if_neg hg] at h9
        cases h9
  · rw [if_neg hb] at h
    cases h
end Go.Proofs.Ytpmiaaphmgoapaa.H
