-- Printed by hprint.py (this session's program over the kit's print) out of the translation; the parts 'by hand' are the session's own.
import Derived.Test.YtpmiaaphmgoapaaHx0
import Derived.Test.YtpmiaaphmgoapaaHxf19
import Derived.Test.YtpmiaaphmgoapaaHxf20
import Derived.Test.YtpmiaaphmgoapaaHxf21
namespace Go.Proofs.Ytpmiaaphmgoapaa.H
open Go.RowKit Go.Proofs.YtpmiaaphmgoapaaW.PrintWords Go.Proofs.YtpmiaaphmgoapaaW.PrintLast Go.Proofs.YtpmiaaphmgoapaaW.PrintMore
attribute [local go_sem] max2_int min2_int max_two min_two max_three min_three max_four min_four   -- for this text's walks alone
set_option linter.unusedVariables false
set_option linter.unusedSimpArgs false

/-! ### hand_Read: function 12: by hand -/
def givesS (p : S37) (h : Int) : ByteArray := givesP p.f0 p.f1 p.f2 h
def pieceOk (h : Int) (p : S37) : Prop := givesOk p.f0 p.f1.length p.f2 h ∧ (givesS p h).size ≤ 140737488355328
instance (h : Int) (p : S37) : Decidable (pieceOk h p) := by unfold pieceOk; infer_instance
/-- Where each piece's text begins and ends; none: the text is too long. -/
def spansG (h : Int) : List S37 → Int → List (Int × Int) → Option (List (Int × Int))
  | [], _, acc => some acc
  | p :: l, at_, acc => if at_ + (givesS p h).size > 65536 then none else spansG h l (at_ + (givesS p h).size) (acc ++ [(at_, at_ + (givesS p h).size)])
def spansR : Option (List (Int × Int)) → List (Int × Int) × Int
  | some l => (l, 0)
  | none => ([], 1)
def hand_Spans.f (k : Nat) (l0 : List S37) (a1 : Int) : Option (List (Int × Int) × Int) := (mark_Hands.f k l0).bind fun t => if t.2 = 0 then (if 0 ≤ a1 ∧ a1 < 4 then (if (∀ p ∈ l0, pieceOk a1 p) ∧ l0.length ≤ 4294967296 * 1024 then some (spansR (spansG a1 l0 0 [])) else none) else some ([], 2)) else some ([], t.2)
theorem hand_Spans.mono : ∀ a0 a1 k, LeO (hand_Spans.f k a0 a1) (hand_Spans.f (k + 1) a0 a1) := fun a0 a1 k => LeO.bind (mark_Hands.mono _ _) (fun _ => LeO.refl _)
def kSpan : Kd (Int × Int) := Kd.pair (Kd.int .i64) (Kd.int .i64)
theorem infoSpan : (Try.prog.info? 30).map (fun i => (i.zero, i.size, i.bytes)) = some (some (.agg #[(.int .i64 0), (.int .i64 0)]), 2, 16) := by kernel_rfl
set_option maxHeartbeats 4000000 in
set_option maxRecDepth 100000 in
theorem hand_Spans.calls (k : Nat) (A0 : Option Addr) (c0 : Nat) (l0 : List S37) (a1 : Int) (r1 : List (Int × Int)) (r2 : Int) (w : World) (hr0 : Kd.C k37 w A0 l0.length l0) (hc0 : l0.length ≤ c0) (h : hand_Spans.f k l0 a1 = some (r1, r2)) :
    Calls Try.prog 10 #[.slice A0 l0.length c0, .int .i64 a1] w fun e w' => ∃ v : Value, e = .returned (.tuple #[v, .int .i64 r2]) ∧ Kd.R kSpan 30 w' w.heap.size (fun _ => True) v r1 ∧ Below w.heap.size w w' := by
  obtain ⟨⟨n, e⟩, hH, h⟩ := Option.bind_eq_some_iff.mp h
  have HH := Aside0.mk hH
  have HR := Aside0.mk hr0
  have HC := Aside0.mk hc0
  clear hH hr0 hc0
  dsimp only at h
  by_cases he : e = 0
  · subst he
    rw [if_pos rfl] at h
    by_cases hw : 0 ≤ a1 ∧ a1 < 4
    · rw [if_pos hw] at h
      have hwf : hand_wrong.f a1 = some false := by unfold hand_wrong.f; rw [if_neg (by omega)]; simp; omega
      have HW := Aside0.mk hwf
      clear hwf
      by_cases hp : (∀ p ∈ l0, pieceOk a1 p) ∧ l0.length ≤ 4294967296 * 1024
      · rw [if_pos hp] at h
        obtain ⟨RS, hRS⟩ : ∃ RS, spansG a1 l0 0 [] = RS := ⟨_, rfl⟩
        rw [hRS] at h
        have HRS := Aside0.mk hRS
        have HRES := Aside0.mk (Option.some.inj h)
        clear hRS
        have HP := Aside0.mk hp.1
        have hlen := hp.2
        clear h hp hw
        have hu := Try.underlying37
        go_enter Try.func10, Try.ntmps10
        go_wp2_with (first | (go_at_call 19; (with_reducible refine (mark_Hands.calls k A0 c0 l0 n 0 _ HR.out HC.out HH.out).mono ?_); rintro e w1 ⟨rfl, hb⟩; have HB1 := Aside0.mk hb; clear hb) | (go_at_call 20; (with_reducible refine (hand_wrong.calls a1 false _ HW.out).mono ?_); rintro e w2 ⟨rfl, hb⟩; have HB2 := Aside0.mk (below_step HB1.out hb.below); clear hb))
        go_loopw [8, 9, 25] (fun v8 v9 v25 wr => ∃ (i : Nat) (I P : Int) (acc : List (Int × Int)), v9 = .int .i64 P ∧ v25 = .int .i64 I ∧ Aside0 (I = (i : Int)) ∧ i ≤ l0.length ∧ Aside0 (0 ≤ P ∧ P ≤ 65536) ∧ Aside0 (spansG a1 (l0.drop i) P acc = RS) ∧ Aside0 (acc.length = i) ∧ Aside0 (Kd.R kSpan 30 wr w.heap.size (fun _ => True) v8 acc) ∧ Aside0 (Below w.heap.size w wr)) (fun _ _ v25 _ => l0.length - (intOf v25).toNat)
        case atStart => exact ⟨0, 0, 0, [], rfl, rfl, ⟨rfl⟩, Nat.zero_le _, ⟨by omega⟩, HRS, ⟨rfl⟩, ⟨Kd.R_nil _ _ _ _ _⟩, HB2⟩
        case round =>
          obtain ⟨i, I, P, acc, rfl, rfl, HI, hi, HPb, HA, HAL, HO, HB⟩ := hrel
          by_cases hil : i < l0.length
          · have i0 : 0 ≤ I := by rw [HI.out]; exact Int.natCast_nonneg i
            have i1 : I < (l0.length : Int) := by rw [HI.out]; exact Int.ofNat_lt.2 hil
            have i1b : decide (I < (l0.length : Int)) = true := decide_eq_true i1
            obtain ⟨ad, A1, c1, e0, x0, x1, x2, hl1, hi1⟩ := at_T37 (Kd.C_below HR.out HB.out) I i0 i1
            subst e0
            obtain ⟨C, hC⟩ : ∃ C, rd_T37 l0 I = C := ⟨_, rfl⟩
            have hdr : l0.drop i = C :: l0.drop (i + 1) := by
              rw [← hC, HI.out]
              unfold rd_T37
              rw [Int.toNat_natCast, List.drop_eq_getElem_cons hil, List.getD_eq_getElem?_getD, List.getElem?_eq_getElem hil]
              rfl
            have hmem : C ∈ l0 := List.mem_of_mem_drop (by rw [hdr]; exact List.mem_cons_self)
            have hok := HP.out C hmem
            rw [hC] at x0 x1 x2 hl1 hi1
            clear hC hmem
            obtain ⟨p0, l1, p2⟩ := C
            dsimp only at x0 x1 x2 hl1 hi1
            have HI1 := Aside0.mk hi1
            have HL1 := Aside0.mk hl1
            obtain ⟨G, hG⟩ : ∃ G, givesP p0 l1 p2 a1 = G := ⟨_, rfl⟩
            have HGV : Aside0 (hand_gives.f p0 l1 p2 a1 = some G) := ⟨by unfold hand_gives.f; rw [if_pos hok.1, hG]⟩
            have hgs : G.size ≤ 140737488355328 := by have := hok.2; unfold givesS at this; rw [hG] at this; exact this
            have HA2 : Aside0 (spansG a1 (⟨p0, l1, p2⟩ :: l0.drop (i + 1)) P acc = RS) := ⟨by rw [← hdr]; exact HA.out⟩
            have hgS : givesS ⟨p0, l1, p2⟩ a1 = G := hG
            have hPb := HPb.out
            obtain ⟨P2, hP2⟩ : ∃ x : Int, P + (G.size : Int) = x := ⟨_, rfl⟩
            have hP2w : wrap64 (P + (G.size : Int)) = P2 := by rw [hw64 _ (by omega) (by omega)]; exact hP2
            have hP2i : IntKind.i64.wrap (P + (G.size : Int)) = P2 := (i64_w _).trans hP2w
            obtain ⟨I2, hI2⟩ : ∃ x : Int, wrap64 (I + 1) = x := ⟨_, rfl⟩
            have hI2w : IntKind.i64.wrap (I + 1) = I2 := (i64_w _).trans hI2
            have EI2 : Aside0 (I2 = ((i + 1 : Nat) : Int)) := ⟨by rw [← hI2, HI.out, hw64 _ (by omega) (by omega)]; rfl⟩
            have hP20 : 0 ≤ P2 := by omega
            replace i0 := eq_true i0
            replace i1 := eq_true i1
            by_cases hbig : 65536 < P2
            · have hbb : decide (P2 > 65536) = true := decide_eq_true hbig
              have hbc : decide (65536 < P2) = true := decide_eq_true hbig
              have HE : Aside0 (r1 = [] ∧ r2 = 1) := ⟨by
                have h1 := HA2.out
                unfold spansG at h1
                rw [hgS, hP2, if_pos hbig] at h1
                have h2 := HRES.out
                rw [← h1] at h2
                obtain ⟨h3, h4⟩ := Prod.mk.inj h2
                exact ⟨h3.symm, h4.symm⟩⟩
              clear hdr hG hgS hok hi1 hl1 HA HA2 hP2 hgs hPb hbig hP20
              go_wp2_with (go_at_call 21; (with_reducible refine (hand_gives.calls p0 A1 c1 l1 p2 a1 G _ (Kd.C_alloc HI1.out _) HL1.out HGV.out).mono ?_); rintro e w5 ⟨rfl, hb⟩; have HB5 := Aside0.mk (below_step (HB.out.alloc HB.out.size _) hb); clear hb)
              go_ret2
              exact ⟨_, by rw [HE.out.2]; rfl, by rw [HE.out.1]; exact Kd.R_nil _ _ _ _ _, HB5.out⟩
            · have hbb : decide (P2 > 65536) = false := decide_eq_false hbig
              have hbc : decide (65536 < P2) = false := decide_eq_false hbig
              have HA3 : Aside0 (spansG a1 (l0.drop (i + 1)) P2 (acc ++ [(P, P2)]) = RS) := ⟨by
                have h1 := HA2.out
                unfold spansG at h1
                rw [hgS, hP2, if_neg hbig] at h1
                exact h1⟩
              have HPb2 : Aside0 (0 ≤ P2 ∧ P2 ≤ 65536) := ⟨by omega⟩
              have hal := HAL.out
              clear hdr hG hgS hok hi1 hl1 HA HA2 hP2 hgs hPb hbig hP20
              go_wp2_with (first | (go_at_call 21; (with_reducible refine (hand_gives.calls p0 A1 c1 l1 p2 a1 G _ (Kd.C_alloc HI1.out _) HL1.out HGV.out).mono ?_); rintro e w5 ⟨rfl, hb⟩; have HB5 := Aside0.mk (below_step (HB.out.alloc HB.out.size _) hb); have HO5 := Aside0.mk (Kd.R_below (Kd.R_alloc HO.out _) hb); clear hb) | (at_builtin; refine Kd.R_append kSpan (w0 := w) w.heap.size rfl (.tmp 38) (.tmp 42) 24 30 (.agg #[(.int .i64 0), (.int .i64 0)]) 16 rfl Try.underlying24 infoSpan rfl (by decide) (by omega) u8 acc (P, P2) [.int .i64 P, .int .i64 P2] (fun _ => True) (fun _ => False) rfl (by first | (go_simp; done) | (go_simp; rfl)) ?aP (fun _ h => h.elim) (fun _ _ => trivial) ?aO ?aB ?aS ?aL ?_; (case aP => exact ⟨[.int .i64 P], [.int .i64 P2], rfl, rfl, rfl⟩); (case aO => exact HO5.out); (case aB => exact HB5.out); (case aS => exact HB5.out.size); (case aL => omega); intro v1 w1 hown hbel hgrow _; obtain ⟨Ax, cx, rfl⟩ := Kd.R_slice hown))
              go_roundw
              case rel => exact ⟨i + 1, I2, P2, acc ++ [(P, P2)], rfl, rfl, EI2, by omega, HPb2, HA3, ⟨by rw [List.length_append]; simp; omega⟩, ⟨by have h3 := hown; rw [List.length_append, HAL.out] at h3; exact h3⟩, ⟨hbel⟩⟩
              case measure => have := HI.out; have := EI2.out; simp [intOf]; omega
          · have hie : i = l0.length := by omega
            have i1b : decide (I < (l0.length : Int)) = false := decide_eq_false (by rw [HI.out]; omega)
            have HE : Aside0 (r1 = acc ∧ r2 = 0) := ⟨by
              have h1 := HA.out
              rw [hie, List.drop_length] at h1
              unfold spansG at h1
              have h2 := HRES.out
              rw [← h1] at h2
              obtain ⟨h3, h4⟩ := Prod.mk.inj h2
              exact ⟨h3.symm, h4.symm⟩⟩
            go_wp2
            go_ret2
            exact ⟨_, by rw [HE.out.2]; rfl, by rw [HE.out.1]; exact HO.out, HB.out⟩
      · rw [if_neg hp] at h
        cases h
    · rw [if_neg hw] at h
      obtain ⟨rfl, rfl⟩ := Prod.mk.inj (Option.some.inj h)
      have hwf : hand_wrong.f a1 = some true := by unfold hand_wrong.f; split <;> simp <;> omega
      have HW := Aside0.mk hwf
      clear hwf h hw
      go_enter Try.func10, Try.ntmps10
      go_wp2_with (first | (go_at_call 19; (with_reducible refine (mark_Hands.calls k A0 c0 l0 n 0 _ HR.out HC.out HH.out).mono ?_); rintro e w1 ⟨rfl, hb⟩; have HB1 := Aside0.mk hb; clear hb) | (go_at_call 20; (with_reducible refine (hand_wrong.calls a1 true _ HW.out).mono ?_); rintro e w2 ⟨rfl, hb⟩; have HB2 := Aside0.mk (below_step HB1.out hb.below); clear hb))
      go_ret2
      exact ⟨_, rfl, Kd.R_nil _ _ _ _ _, HB2.out⟩
  · rw [if_neg he] at h
    obtain ⟨rfl, rfl⟩ := Prod.mk.inj (Option.some.inj h)
    have heb : (e != 0) = true := bne_iff_ne.2 he
    clear h
    go_enter Try.func10, Try.ntmps10
    go_wp2_with (go_at_call 19; (with_reducible refine (mark_Hands.calls k A0 c0 l0 n e _ HR.out HC.out HH.out).mono ?_); rintro e w1 ⟨rfl, hb⟩; have HB1 := Aside0.mk hb; clear hb)
    go_ret2
    exact ⟨_, rfl, Kd.R_nil _ _ _ _ _, HB1.out⟩
theorem isB_below {T e : TypeId} {B b : Nat} {bs : List Value} {W W' : World} (h : Lib.IsBuilderF T e B b bs W) (hb : Below W.heap.size W W') : Lib.IsBuilderF T e B b bs W' := by
  have one : ∀ p, Lib.BuilderAtF T e B b p bs W → Lib.BuilderAtF T e B b p bs W' := fun p h => by
    have hlt := h.lt
    obtain ⟨hB, v, hv, hown, hne⟩ := h
    exact ⟨hB, v, (hb.block b hlt).trans hv, hown.kept (row := none) ⟨hb.os, hb.tape, hb.output, hb.size, fun k hk _ => hb.block k hk⟩ (Classical.em _), hne⟩
  exact h.elim (fun x => .inl (one _ x)) (fun x => .inr (one _ x))
/-- The text that pieces give. -/
def givesT (h : Int) (l : List S37) : List UInt8 := l.flatMap fun p => (givesS p h).data.toList
theorem givesT_snoc (h : Int) (l : List S37) (p : S37) : givesT h (l ++ [p]) = givesT h l ++ (givesS p h).data.toList := by simp [givesT]
theorem spans_sum (h : Int) : ∀ (l : List S37) (at_ : Int) (acc r : List (Int × Int)), 0 ≤ at_ → at_ ≤ 65536 → spansG h l at_ acc = some r → at_ + (givesT h l).length ≤ 65536
  | [], at_, acc, r, h0, h1, _ => by simp [givesT]; exact h1
  | p :: l, at_, acc, r, h0, h1, hs => by
    unfold spansG at hs
    split at hs
    · cases hs
    · rename_i hb
      have ih := spans_sum h l _ _ r (by omega) (by omega) hs
      have e : givesT h (p :: l) = (givesS p h).data.toList ++ givesT h l := by simp [givesT]
      have e2 : (givesS p h).data.toList.length = (givesS p h).size := by rw [Array.length_toList]; rfl
      rw [e, List.length_append, e2]
      omega
def hand_Read.f (k : Nat) (l0 : List S37) (a1 : Int) : Option (ByteArray × Int) := (hand_Spans.f k l0 a1).bind fun t => if t.2 = 0 then some (⟨(givesT a1 l0).toArray⟩, 0) else some (⟨#[]⟩, t.2)
theorem hand_Read.mono : ∀ a0 a1 k, LeO (hand_Read.f k a0 a1) (hand_Read.f (k + 1) a0 a1) := fun a0 a1 k => LeO.bind (hand_Spans.mono _ _ _) (fun _ => LeO.refl _)
theorem take_nextH {α : Type} (l : List α) (k : Nat) (d : α) (h : k < l.length) : l.take (k + 1) = l.take k ++ [l.getD k d] := by
  rw [List.take_succ_eq_append_getElem h]
  simp [List.getD_eq_getElem?_getD, List.getElem?_eq_getElem h]
theorem spans_ok (k : Nat) (l0 : List S37) (a1 : Int) (r : List (Int × Int)) (h : hand_Spans.f k l0 a1 = some (r, 0)) : (∀ p ∈ l0, pieceOk a1 p) ∧ l0.length ≤ 4294967296 * 1024 ∧ (givesT a1 l0).length ≤ 65536 := by
  obtain ⟨⟨n, e⟩, hH, h⟩ := Option.bind_eq_some_iff.mp h
  dsimp only at h
  split at h
  · split at h
    · split at h
      · rename_i _ _ hp
        refine ⟨hp.1, hp.2, ?_⟩
        cases hg : spansG a1 l0 0 [] with
        | none => rw [hg] at h; simp [spansR] at h
        | some q =>
          have := spans_sum a1 l0 0 [] q (by omega) (by omega) hg
          omega
      · cases h
    · simp at h
  · rename_i he
    simp only [Option.some.injEq, Prod.mk.injEq] at h
    exact absurd h.2 he
set_option maxHeartbeats 4000000 in
set_option maxRecDepth 100000 in
theorem hand_Read.calls (k : Nat) (A0 : Option Addr) (c0 : Nat) (l0 : List S37) (a1 : Int) (r1 : ByteArray) (r2 : Int) (w : World) (hr0 : Kd.C k37 w A0 l0.length l0) (hc0 : l0.length ≤ c0) (h : hand_Read.f k l0 a1 = some (r1, r2)) :
    Calls Try.prog 12 #[.slice A0 l0.length c0, .int .i64 a1] w fun e w' => e = .returned (.tuple #[.string r1, .int .i64 r2]) ∧ Below w.heap.size w w' := by
  obtain ⟨⟨sp, e⟩, hH, h⟩ := Option.bind_eq_some_iff.mp h
  have HH := Aside0.mk hH
  have HR := Aside0.mk hr0
  have HC := Aside0.mk hc0
  clear hr0 hc0
  dsimp only at h
  by_cases he : e = 0
  · subst he
    rw [if_pos rfl] at h
    obtain ⟨rfl, rfl⟩ := Prod.mk.inj (Option.some.inj h)
    obtain ⟨hok, hlen, hsum⟩ := spans_ok k l0 a1 sp hH
    have HP := Aside0.mk hok
    clear h hH hok
    have hu := Try.underlying37
    go_enter Try.func12, Try.ntmps12
    go_wp2_with (go_at_call 10; (with_reducible refine (hand_Spans.calls k A0 c0 l0 a1 sp 0 _ HR.out HC.out HH.out).mono ?_); rintro e w1 ⟨v, rfl, _, hb⟩; have HB1 := Aside0.mk hb; have HI1 := Aside0.mk (Lib.IsBuilderF.of (Lib.fresh_isBuilder 56 5 w1)); clear hb)
    go_loopw [22] (fun v22 wr => ∃ (i : Nat) (I : Int), v22 = .int .i64 I ∧ Aside0 (I = (i : Int)) ∧ i ≤ l0.length ∧ Aside0 (Lib.IsBuilderF 56 5 w1.heap.size w1.heap.size (Lib.byteCells (givesT a1 (l0.take i))) wr) ∧ Aside0 (Below w.heap.size w wr) ∧ Aside0 (w1.heap.size ≤ wr.heap.size)) (fun v22 _ => l0.length - (intOf v22).toNat)
    case atStart => exact ⟨0, 0, rfl, ⟨rfl⟩, Nat.zero_le _, ⟨by have := HI1.out; simpa [givesT, Lib.byteCells] using this⟩, ⟨HB1.out.alloc HB1.out.size _⟩, ⟨by simp⟩⟩
    case round =>
      obtain ⟨i, I, rfl, HI, hi, HIB, HB, HSZ⟩ := hrel
      by_cases hil : i < l0.length
      · have i0 : 0 ≤ I := by rw [HI.out]; exact Int.natCast_nonneg i
        have i1 : I < (l0.length : Int) := by rw [HI.out]; exact Int.ofNat_lt.2 hil
        have i1b : decide (I < (l0.length : Int)) = true := decide_eq_true i1
        obtain ⟨ad, A1, c1, e0, x0, x1, x2, hl1, hi1⟩ := at_T37 (Kd.C_below HR.out HB.out) I i0 i1
        subst e0
        have hrd : rd_T37 l0 I = l0.getD i z37 := by unfold rd_T37; rw [HI.out, Int.toNat_natCast]
        have htn := take_nextH l0 i z37 hil
        have hmem : l0.getD i z37 ∈ l0 := by rw [List.getD_eq_getElem?_getD, List.getElem?_eq_getElem hil]; exact List.getElem_mem hil
        have HTN := Aside0.mk (givesT_snoc a1 (l0.take i) (l0.getD i z37))
        rw [← htn] at HTN
        rw [hrd] at x0 x1 x2 hl1 hi1
        have hok := HP.out _ hmem
        obtain ⟨C, hC⟩ : ∃ C, l0.getD i z37 = C := ⟨_, rfl⟩
        rw [hC] at x0 x1 x2 hl1 hi1 hok HTN
        clear hC hmem hrd htn
        obtain ⟨p0, l1, p2⟩ := C
        dsimp only at x0 x1 x2 hl1 hi1
        have HI1 := Aside0.mk hi1
        have HL1 := Aside0.mk hl1
        obtain ⟨G, hG⟩ : ∃ G, givesP p0 l1 p2 a1 = G := ⟨_, rfl⟩
        have HGV : Aside0 (hand_gives.f p0 l1 p2 a1 = some G) := ⟨by unfold hand_gives.f; rw [if_pos hok.1, hG]⟩
        have hgS : givesS ⟨p0, l1, p2⟩ a1 = G := hG
        have hgs : G.size ≤ 140737488355328 := by have := hok.2; rw [hgS] at this; exact this
        rw [hgS] at HTN
        have hpre : (givesT a1 (l0.take i)).length ≤ (givesT a1 l0).length := by
          have : givesT a1 l0 = givesT a1 (l0.take i) ++ givesT a1 (l0.drop i) := by unfold givesT; rw [← List.flatMap_append, List.take_append_drop]
          rw [this, List.length_append]
          omega
        have hpre2 : (givesT a1 (l0.take (i + 1))).length ≤ (givesT a1 l0).length := by
          have : givesT a1 l0 = givesT a1 (l0.take (i + 1)) ++ givesT a1 (l0.drop (i + 1)) := by unfold givesT; rw [← List.flatMap_append, List.take_append_drop]
          rw [this, List.length_append]
          omega
        have HLB : Aside0 ((Lib.byteCells (givesT a1 (l0.take i))).length + G.size ≤ 140737488355328) := ⟨by
          rw [HTN.out, List.length_append] at hpre2
          have e2 : G.data.toList.length = G.size := by rw [Array.length_toList]; rfl
          rw [Lib.byteCells_length]
          omega⟩
        have HTA : Aside0 (Lib.byteCells (givesT a1 (l0.take (i + 1))) = Lib.byteCells (givesT a1 (l0.take i)) ++ Lib.strCells G) := ⟨by rw [HTN.out, Lib.byteCells_append, Lib.strCells_eq]⟩
        obtain ⟨bs, hbs⟩ : ∃ bs, Lib.byteCells (givesT a1 (l0.take i)) = bs := ⟨_, rfl⟩
        rw [hbs] at HLB HTA HIB
        obtain ⟨I2, hI2⟩ : ∃ x : Int, wrap64 (I + 1) = x := ⟨_, rfl⟩
        have hI2w : IntKind.i64.wrap (I + 1) = I2 := (i64_w _).trans hI2
        have hlen0 : (l0.length : Int) ≤ 9223372036854775806 := by omega
        have EI2 : Aside0 (I2 = ((i + 1 : Nat) : Int)) := ⟨by rw [← hI2, HI.out, hw64 _ (by omega) (by omega)]; rfl⟩
        replace i0 := eq_true i0
        replace i1 := eq_true i1
        clear hG hgS hok hi1 hl1 hgs hpre hpre2 hbs HTN hlen0
        go_wp2_with (first | (go_at_call 21; (with_reducible refine (hand_gives.calls p0 A1 c1 l1 p2 a1 G _ (Kd.C_alloc HI1.out _) HL1.out HGV.out).mono ?_); rintro e w5 ⟨rfl, hb⟩; have HB5 := Aside0.mk (below_step (HB.out.alloc HB.out.size _) hb); have HIB5 := Aside0.mk (isB_below (HIB.out.alloc _) hb); have HSZ5 := Aside0.mk (Nat.le_trans HSZ.out (Nat.le_trans (Below.size ((Below.refl _ wr).alloc (Nat.le_refl _) _)) hb.size)); clear hb) | (go_at_call 23; (with_reducible refine (Try.writeString_k w1.heap.size w1.heap.size bs G _ HIB5.out HLB.out HSZ5.out).mono ?_); rintro e w6 ⟨rfl, h1, b1, k1⟩; have HI6 := Aside0.mk h1; have HB6 := Aside0.mk b1; clear h1 b1 k1))
        go_roundw
        case rel => exact ⟨i + 1, I2, rfl, EI2, by omega, ⟨by rw [HTA.out]; exact Or.inr HI6.out⟩, ⟨HB5.out.trans (HB6.out.mono HB1.out.size)⟩, ⟨Nat.le_trans HSZ5.out HB6.out.size⟩⟩
        case measure => have := HI.out; have := EI2.out; simp [intOf]; omega
      · have hie : i = l0.length := by omega
        have i1b : decide (I < (l0.length : Int)) = false := decide_eq_false (by rw [HI.out]; omega)
        have HI3' : Aside0 (Lib.IsBuilderF 56 5 w1.heap.size w1.heap.size (Lib.byteCells (givesT a1 l0)) wr) := ⟨by have h7 := HIB.out; rw [hie, List.take_length] at h7; exact h7⟩
        go_wp2_with (go_at_call 24; (with_reducible refine (Try.Builder_String_any_k w1.heap.size w1.heap.size (givesT a1 l0) _ HI3'.out HSZ.out).mono ?_); rintro e w5 ⟨rfl, _, b1, _⟩; have HB5 := Aside0.mk b1; clear b1)
        go_ret2
        exact ⟨rfl, HB.out.trans (HB5.out.mono HB1.out.size)⟩
  · rw [if_neg he] at h
    obtain ⟨rfl, rfl⟩ := Prod.mk.inj (Option.some.inj h)
    have heb : (e != 0) = true := bne_iff_ne.2 he
    clear h hH
    go_enter Try.func12, Try.ntmps12
    go_wp2_with (go_at_call 10; (with_reducible refine (hand_Spans.calls k A0 c0 l0 a1 sp e _ HR.out HC.out HH.out).mono ?_); rintro e' w1 ⟨v, rfl, _, hb⟩; have HB1 := Aside0.mk hb; clear hb)
    go_ret2
    exact ⟨rfl, HB1.out⟩

end Go.Proofs.Ytpmiaaphmgoapaa.H
