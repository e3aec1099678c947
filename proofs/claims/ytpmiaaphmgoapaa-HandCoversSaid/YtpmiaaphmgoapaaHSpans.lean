/-
  The document's spans, and the law that both ways tell the same spans: walks by hand.
-/
import Derived.Test.YtpmiaaphmgoapaaHx
import Derived.ChangeKeysEq
import Derived.Test.YtpmiaaphmgoapaaHxf12
import Derived.Test.YtpmiaaphmgoapaaHxf14
import Derived.Test.YtpmiaaphmgoapaaHxf22
import Derived.Test.YtpmiaaphmgoapaaHxf9
namespace Go.Proofs.Ytpmiaaphmgoapaa.H
open Go.RowKit Go.Proofs Go.Proofs.YtpmiaaphmgoapaaW.PrintWords Go.Proofs.YtpmiaaphmgoapaaW.PrintLast Go.Proofs.YtpmiaaphmgoapaaW.PrintMore
set_option linter.unusedVariables false
set_option linter.unusedSimpArgs false
def siglumref06_Spans.f (k : Nat) (l0 : List S37) (a1 : Int) : Option (List (Int × Int) × Int) := (siglumref06_Read.f k l0 a1).bind fun t => if t.2 = 0 then (if (∀ p ∈ l0, siglumref06_gives.f k p.f0 p.f1 p.f2 a1 = some (givesS p a1)) ∧ l0.length ≤ 4294967296 * 1024 ∧ (spansG a1 l0 0 []).isSome = true then some (spansR (spansG a1 l0 0 [])) else none) else some ([], t.2)
set_option maxHeartbeats 4000000 in
set_option maxRecDepth 100000 in
theorem siglumref06_Spans.calls (k : Nat) (A0 : Option Addr) (c0 : Nat) (l0 : List S37) (a1 : Int) (r1 : List (Int × Int)) (r2 : Int) (w : World) (hr0 : Kd.C k37 w A0 l0.length l0) (hc0 : l0.length ≤ c0) (h : siglumref06_Spans.f k l0 a1 = some (r1, r2)) :
    Calls Try.prog 11 #[.slice A0 l0.length c0, .int .i64 a1] w fun e w' => ∃ v : Value, e = .returned (.tuple #[v, .int .i64 r2]) ∧ Kd.R kSpan 30 w' w.heap.size (fun _ => True) v r1 ∧ Below w.heap.size w w' := by
  obtain ⟨⟨s, e⟩, hH, h⟩ := Option.bind_eq_some_iff.mp h
  have HH := Aside0.mk hH
  have HR := Aside0.mk hr0
  have HC := Aside0.mk hc0
  clear hH hr0 hc0
  dsimp only at h
  by_cases he : e = 0
  · subst he
    rw [if_pos rfl] at h
    by_cases hp : (∀ p ∈ l0, siglumref06_gives.f k p.f0 p.f1 p.f2 a1 = some (givesS p a1)) ∧ l0.length ≤ 4294967296 * 1024 ∧ (spansG a1 l0 0 []).isSome = true
    · rw [if_pos hp] at h
      obtain ⟨hgv, hlen, hsm⟩ := hp
      obtain ⟨RS, hRS⟩ := Option.isSome_iff_exists.1 hsm
      rw [hRS] at h
      have HRS := Aside0.mk hRS
      have HRES := Aside0.mk (Option.some.inj h)
      have HP := Aside0.mk hgv
      clear h hgv hsm hRS
      have hu := Try.underlying37
      go_enter Try.func11, Try.ntmps11
      go_wp2_with (go_at_call 14; (with_reducible refine (siglumref06_Read.calls k A0 c0 l0 a1 s 0 _ HR.out HC.out HH.out).mono ?_); rintro e w1 ⟨rfl, hb⟩; have HB1 := Aside0.mk hb; clear hb)
      go_loopw [8, 9, 10] (fun v8 v9 v10 wr => ∃ (i : Nat) (I P : Int) (acc : List (Int × Int)), v9 = .int .i64 P ∧ v10 = .int .i64 I ∧ Aside0 (I = (i : Int)) ∧ i ≤ l0.length ∧ Aside0 (0 ≤ P ∧ P ≤ 65536) ∧ Aside0 (spansG a1 (l0.drop i) P acc = some RS) ∧ Aside0 (acc.length = i) ∧ Aside0 (Kd.R kSpan 30 wr w.heap.size (fun _ => True) v8 acc) ∧ Aside0 (Below w.heap.size w wr)) (fun _ _ v10 _ => l0.length - (intOf v10).toNat)
      case atStart => exact ⟨0, 0, 0, [], rfl, rfl, ⟨rfl⟩, Nat.zero_le _, ⟨by omega⟩, HRS, ⟨rfl⟩, ⟨Kd.R_nil _ _ _ _ _⟩, HB1⟩
      case round =>
        obtain ⟨i, I, P, acc, rfl, rfl, HI, hi, HPb, HA, HAL, HO, HB⟩ := hrel
        by_cases hil : i < l0.length
        · have i0 : 0 ≤ I := by rw [HI.out]; exact Int.natCast_nonneg i
          have i1 : I < (l0.length : Int) := by rw [HI.out]; exact Int.ofNat_lt.2 hil
          have i1b : decide (I < (l0.length : Int)) = true := decide_eq_true i1
          obtain ⟨ad, A1, c1, e0, x0, x1, x2, hl1, hi1⟩ := at_T37 (Kd.C_below HR.out HB.out) I i0 i1
          subst e0
          obtain ⟨C, hC⟩ : ∃ C, rd_T37 l0 I = C := ⟨_, rfl⟩
          have hdr : l0.drop i = C :: l0.drop (i + 1) := by
            rw [← hC, HI.out]
            unfold rd_T37
            rw [Int.toNat_natCast, List.drop_eq_getElem_cons hil, List.getD_eq_getElem?_getD, List.getElem?_eq_getElem hil]
            rfl
          have hmem : C ∈ l0 := List.mem_of_mem_drop (by rw [hdr]; exact List.mem_cons_self)
          have hok := HP.out C hmem
          rw [hC] at x0 x1 x2 hl1 hi1
          clear hC hmem
          obtain ⟨p0, l1, p2⟩ := C
          dsimp only at x0 x1 x2 hl1 hi1 hok
          have HI1 := Aside0.mk hi1
          have HL1 := Aside0.mk hl1
          obtain ⟨G, hG⟩ : ∃ G, givesS ⟨p0, l1, p2⟩ a1 = G := ⟨_, rfl⟩
          rw [hG] at hok
          have HGV := Aside0.mk hok
          have HA2 : Aside0 (spansG a1 (⟨p0, l1, p2⟩ :: l0.drop (i + 1)) P acc = some RS) := ⟨by rw [← hdr]; exact HA.out⟩
          have hPb := HPb.out
          obtain ⟨P2, hP2⟩ : ∃ x : Int, P + (G.size : Int) = x := ⟨_, rfl⟩
          have hbig : ¬ 65536 < P2 := fun hb => by
            have h1 := HA2.out
            unfold spansG at h1
            rw [hG, hP2, if_pos hb] at h1
            cases h1
          have hP2w : wrap64 (P + (G.size : Int)) = P2 := by rw [hw64 _ (by omega) (by omega)]; exact hP2
          have hP2i : IntKind.i64.wrap (P + (G.size : Int)) = P2 := (i64_w _).trans hP2w
          obtain ⟨I2, hI2⟩ : ∃ x : Int, wrap64 (I + 1) = x := ⟨_, rfl⟩
          have hI2w : IntKind.i64.wrap (I + 1) = I2 := (i64_w _).trans hI2
          have EI2 : Aside0 (I2 = ((i + 1 : Nat) : Int)) := ⟨by rw [← hI2, HI.out, hw64 _ (by omega) (by omega)]; rfl⟩
          have HA3 : Aside0 (spansG a1 (l0.drop (i + 1)) P2 (acc ++ [(P, P2)]) = some RS) := ⟨by
            have h1 := HA2.out
            unfold spansG at h1
            rw [hG, hP2, if_neg hbig] at h1
            exact h1⟩
          have HPb2 : Aside0 (0 ≤ P2 ∧ P2 ≤ 65536) := ⟨by omega⟩
          have hal := HAL.out
          replace i0 := eq_true i0
          replace i1 := eq_true i1
          clear hdr hG hok hi1 hl1 HA HA2 hP2 hPb hbig
          go_wp2_with (first | (go_at_call 22; (with_reducible refine (siglumref06_gives.calls k p0 A1 c1 l1 p2 a1 G _ HI1.out HL1.out HGV.out).mono ?_); rintro e w5 ⟨rfl, hb⟩; have HB5 := Aside0.mk (below_step HB.out hb); have HO5 := Aside0.mk (Kd.R_below HO.out hb); clear hb) | (at_builtin; refine Kd.R_append kSpan (w0 := w) w.heap.size rfl (.tmp 34) (.tmp 40) 24 30 (.agg #[(.int .i64 0), (.int .i64 0)]) 16 rfl Try.underlying24 infoSpan rfl (by decide) (by omega) u8 acc (P, P2) [.int .i64 P, .int .i64 P2] (fun _ => True) (fun _ => False) rfl (by first | (go_simp; done) | (go_simp; rfl)) ?aP (fun _ h => h.elim) (fun _ _ => trivial) ?aO ?aB ?aS ?aL ?_; (case aP => exact ⟨[.int .i64 P], [.int .i64 P2], rfl, rfl, rfl⟩); (case aO => exact HO5.out); (case aB => exact HB5.out); (case aS => exact HB5.out.size); (case aL => omega); intro v1 w1 hown hbel hgrow _; obtain ⟨Ax, cx, rfl⟩ := Kd.R_slice hown))
          go_roundw
          case rel => exact ⟨i + 1, I2, P2, acc ++ [(P, P2)], rfl, rfl, EI2, by omega, HPb2, HA3, ⟨by rw [List.length_append]; simp; omega⟩, ⟨by have h3 := hown; rw [List.length_append, HAL.out] at h3; exact h3⟩, ⟨hbel⟩⟩
          case measure => have := HI.out; have := EI2.out; simp [intOf]; omega
        · have hie : i = l0.length := by omega
          have i1b : decide (I < (l0.length : Int)) = false := decide_eq_false (by rw [HI.out]; omega)
          have HE : Aside0 (r1 = acc ∧ r2 = 0) := ⟨by
            have h1 := HA.out
            rw [hie, List.drop_length] at h1
            unfold spansG at h1
            have h2 := HRES.out
            rw [← h1] at h2
            obtain ⟨h3, h4⟩ := Prod.mk.inj h2
            exact ⟨h3.symm, h4.symm⟩⟩
          go_wp2
          go_ret2
          exact ⟨_, by rw [HE.out.2]; rfl, by rw [HE.out.1]; exact HO.out, HB.out⟩
    · rw [if_neg hp] at h
      cases h
  · rw [if_neg he] at h
    obtain ⟨rfl, rfl⟩ := Prod.mk.inj (Option.some.inj h)
    have heb : (e != 0) = true := bne_iff_ne.2 he
    clear h
    go_enter Try.func11, Try.ntmps11
    go_wp2_with (go_at_call 14; (with_reducible refine (siglumref06_Read.calls k A0 c0 l0 a1 s e _ HR.out HC.out HH.out).mono ?_); rintro e w1 ⟨rfl, hb⟩; have HB1 := Aside0.mk hb; clear hb)
    go_ret2
    exact ⟨_, rfl, Kd.R_nil _ _ _ _ _, HB1.out⟩
def rdSp (l : List (Int × Int)) (i : Int) : Int × Int := l.getD i.toNat (0, 0)
theorem at_span {w : World} {A : Option Addr} {n : Nat} {xs : List (Int × Int)} (h : Kd.C kSpan w A n xs) (i : Int) (h0 : 0 ≤ i) (h1 : i < n) : ∃ ad, A = some ad ∧ w.cell? (ad.add (i.toNat * 2)) = some (.int .i64 (rdSp xs i).1) ∧ w.cell? ⟨(ad.add (i.toNat * 2)).block, (ad.add (i.toNat * 2)).off + 1, none⟩ = some (.int .i64 (rdSp xs i).2) := by
  obtain ⟨ad, c, e, _, hK, hc0⟩ := Kd.C_get h (0, 0) i h0 h1
  have hc : ∀ j u, c[j]? = some u → w.cell? (ad.add (i.toNat * 2 + j)) = some u := hc0
  obtain ⟨_, _, rfl, rfl, rfl⟩ := hK
  exact ⟨ad, e, hc 0 _ rfl, by rw [← add_field _ _ 1 (by omega)]; exact hc 1 _ rfl⟩
/-- Two equal spans are equal. -/
theorem eq_span (P Q : Int) (w : World) : (Op.equalIn 10000 30 (.agg #[.int .i64 P, .int .i64 Q]) (.agg #[.int .i64 P, .int .i64 Q])).run Try.prog w = .ok true w := by
  obtain ⟨i, hi⟩ : ∃ i, Try.prog.info? 3 = some i := by
    cases h : Try.prog.info? 3 with
    | some i => exact ⟨i, rfl⟩
    | none => exact absurd (congrArg Option.isSome h) (by decide +kernel)
  rw [show (10000 : Nat) = 9999 + 1 from rfl, run_equalIn_array w 9999 _ _ Try.underlying30 hi]
  have hc : Try.prog.cellsOf 3 = 1 := by kernel_rfl
  rw [hc]
  show (Op.eqItems 9999 3 1 _ _ [0, 1]).run Try.prog w = _
  have p0 : ∀ w : World, (part 3 #[Value.int .i64 P, .int .i64 Q] (0 * 1)).run Try.prog w = .ok (.int .i64 P) w := by
    intro w
    go_simp
  have p1 : ∀ w : World, (part 3 #[Value.int .i64 P, .int .i64 Q] 1).run Try.prog w = .ok (.int .i64 Q) w := by
    intro w
    go_simp
  have u3 := Try.underlying3
  simp only [Op.eqItems, Sem.run_bind, p0, p1, Result.andThen_ok]
  rw [show (9999 : Nat) = 9998 + 1 from rfl]
  simp [run_equalIn_int _ _ _ _ _ _ _ u3, Result.andThen_ok, p1]
def siglumlaw06_HandSpans.f (k : Nat) (l0 : List S37) (a1 : Int) : Option Bool := (siglumlaw06_awake.f k).bind fun b => if b = true then ((hand_Spans.f k l0 a1).bind fun t => (siglumref06_Spans.f k l0 a1).bind fun u => if t = u ∧ t.1.length ≤ 4294967296 * 1024 then some true else none) else none
set_option maxHeartbeats 4000000 in
set_option maxRecDepth 100000 in
theorem siglumlaw06_HandSpans.calls (k : Nat) (A0 : Option Addr) (c0 : Nat) (l0 : List S37) (a1 : Int) (r : Bool) (w : World) (hr0 : Kd.C k37 w A0 l0.length l0) (hc0 : l0.length ≤ c0) (h : siglumlaw06_HandSpans.f k l0 a1 = some r) :
    Calls Try.prog 3 #[.slice A0 l0.length c0, .int .i64 a1] w fun e w' => e = .returned (.bool r) ∧ Below w.heap.size w w' := by
  obtain ⟨b, hAw, h⟩ := Option.bind_eq_some_iff.mp h
  by_cases hb : b = true
  · subst hb
    rw [if_pos rfl] at h
    obtain ⟨⟨sp, e⟩, hS, h⟩ := Option.bind_eq_some_iff.mp h
    obtain ⟨u, hT, h⟩ := Option.bind_eq_some_iff.mp h
    by_cases hg : (sp, e) = u ∧ sp.length ≤ 4294967296 * 1024
    · rw [if_pos hg] at h
      obtain ⟨rfl, hlen⟩ := hg
      obtain rfl := Option.some.inj h
      have HAW := Aside0.mk hAw
      have HS := Aside0.mk hS
      have HT := Aside0.mk hT
      have HR := Aside0.mk hr0
      have HC := Aside0.mk hc0
      clear h hAw hS hT hr0 hc0
      have hu := Try.underlying30
      have hee : (e != e) = false := bne_self_eq_false e
      have hll : ((sp.length : Int) != (sp.length : Int)) = false := bne_self_eq_false _
      go_enter Try.func3, Try.ntmps3
      go_wp2_with (first | (go_at_call 9; (with_reducible refine (siglumlaw06_awake.calls k true _ HAW.out).mono ?_); rintro e' w1 ⟨rfl, hb⟩; have HB1 := Aside0.mk hb; have HR1 := Aside0.mk (Kd.C_below HR.out hb); clear hb) | (go_at_call 10; (with_reducible refine (hand_Spans.calls k A0 c0 l0 a1 sp e _ HR1.out HC.out HS.out).mono ?_); rintro e' w2 ⟨v, rfl, hv, hb⟩; obtain ⟨A1, c1, rfl, hc1, hC1⟩ := Kd.R_reads hv; have HB2 := Aside0.mk (below_step HB1.out hb); have HR2 := Aside0.mk (Kd.C_below HR1.out hb); have HS2 := Aside0.mk hC1; clear hb hv hC1 hc1) | (go_at_call 11; (with_reducible refine (siglumref06_Spans.calls k A0 c0 l0 a1 sp e _ HR2.out HC.out HT.out).mono ?_); rintro e' w3 ⟨v, rfl, hv, hb⟩; obtain ⟨A2, c2, rfl, hc2, hC2⟩ := Kd.R_reads hv; have HB3 := Aside0.mk (below_step HB2.out hb); have HS3 := Aside0.mk (Kd.C_below HS2.out hb); have HT3 := Aside0.mk hC2; clear hb hv hC2 hc2))
      go_loopw [36] (fun v36 wr => ∃ (i : Nat) (I : Int), v36 = .int .i64 I ∧ Aside0 (I = (i : Int)) ∧ i ≤ sp.length ∧ Aside0 (Below w.heap.size w wr) ∧ Aside0 (Kd.C kSpan wr A1 sp.length sp) ∧ Aside0 (Kd.C kSpan wr A2 sp.length sp)) (fun v36 _ => sp.length - (intOf v36).toNat)
      case atStart => exact ⟨0, 0, rfl, ⟨rfl⟩, Nat.zero_le _, HB3, HS3, HT3⟩
      case round =>
        obtain ⟨i, I, rfl, HI, hi, HB, HSr, HTr⟩ := hrel
        by_cases hil : i < sp.length
        · have i0 : 0 ≤ I := by rw [HI.out]; exact Int.natCast_nonneg i
          have i1 : I < (sp.length : Int) := by rw [HI.out]; exact Int.ofNat_lt.2 hil
          have i1b : decide (I < (sp.length : Int)) = true := decide_eq_true i1
          obtain ⟨ad, e0, x0, x1⟩ := at_span HSr.out I i0 i1
          subst e0
          obtain ⟨bd, e1, y0, y1⟩ := at_span HTr.out I i0 i1
          subst e1
          obtain ⟨⟨P, Q⟩, hPQ⟩ : ∃ x, rdSp sp I = x := ⟨_, rfl⟩
          rw [hPQ] at x0 x1 y0 y1
          dsimp only at x0 x1 y0 y1
          obtain ⟨I2, hI2⟩ : ∃ x : Int, wrap64 (I + 1) = x := ⟨_, rfl⟩
          have hI2w : IntKind.i64.wrap (I + 1) = I2 := (i64_w _).trans hI2
          have EI2 : Aside0 (I2 = ((i + 1 : Nat) : Int)) := ⟨by rw [← hI2, HI.out, hw64 _ (by omega) (by omega)]; rfl⟩
          replace i0 := eq_true i0
          replace i1 := eq_true i1
          clear hPQ
          have hq := eq_span P Q
          go_wp2
          go_quiet (fail)
          try go_wp2
          go_roundw
          case rel => exact ⟨i + 1, I2, rfl, EI2, by omega, ⟨pw_below_drewN HB.out _⟩, ⟨Kd.C_below HSr.out (pw_below_drewN (Below.refl _ _) _)⟩, ⟨Kd.C_below HTr.out (pw_below_drewN (Below.refl _ _) _)⟩⟩
          case measure => have := HI.out; have := EI2.out; simp [intOf]; omega
        · have i1b : decide (I < (sp.length : Int)) = false := decide_eq_false (by rw [HI.out]; omega)
          go_wp2
          go_ret
          exact ⟨rfl, HB.out⟩
    · rw [if_neg hg] at h
      cases h
  · rw [if_neg hb] at h
    cases h
end Go.Proofs.Ytpmiaaphmgoapaa.H
