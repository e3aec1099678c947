-- Printed by hprint.py (this session's program over the kit's print) out of the translation; the parts 'by hand' are the session's own.
import Derived.Test.YtfcobfjjcocggaaDoorCx0
namespace Go.Proofs.YtfcobfjjcocggaaDoor.C
open Go.RowKit Go.Proofs.YtfcobfjjcocggaaDoorW.PrintWords Go.Proofs.YtfcobfjjcocggaaDoorW.PrintLast Go.Proofs.YtfcobfjjcocggaaDoorW.PrintMore
attribute [local go_sem] max2_int min2_int max_two min_two max_three min_three max_four min_four   -- for this text's walks alone
set_option linter.unusedVariables false
set_option linter.unusedSimpArgs false

/-! ### glyph_Text: function 14: by hand -/
/-- The bytes of cells. -/
def cBytes (c : S30) : List UInt8 := if c.f3 = true then [UInt8.ofNat c.f4.toNat] else (Utf8.encode c.f2).data.toList
def gText (l : List S30) : List UInt8 := l.flatMap cBytes
def glyph_Text.f (a0 : List S30) : Option ByteArray := if a0.length ≤ 5864062014805 ∧ (∀ c ∈ a0, 0 ≤ c.f4 ∧ c.f4 < 256) then some ⟨(gText a0).toArray⟩ else none
theorem encode_len (r : Int) : (Utf8.encode r).data.toList.length ≤ 4 := by
  unfold Utf8.encode
  generalize (if Utf8.valid r then r.toNat else Utf8.runeError) = c
  dsimp only
  split
  · simp
  · split
    · simp
    · split
      · simp
      · simp
theorem cBytes_len (c : S30) : (cBytes c).length ≤ 4 := by
  unfold cBytes
  split
  · simp
  · exact encode_len _
theorem gText_snoc (l : List S30) (c : S30) : gText (l ++ [c]) = gText l ++ cBytes c := by simp [gText]
theorem gText_len (l : List S30) : (gText l).length ≤ 4 * l.length := by
  induction l with
  | nil => simp [gText]
  | cons c l ih =>
    have := cBytes_len c
    have e : gText (c :: l) = cBytes c ++ gText l := by simp [gText]
    rw [e, List.length_append, List.length_cons]
    omega
theorem take_next {α : Type} (l : List α) (k : Nat) (d : α) (h : k < l.length) : l.take (k + 1) = l.take k ++ [l.getD k d] := by
  rw [List.take_succ_eq_append_getElem h]
  simp [List.getD_eq_getElem?_getD, List.getElem?_eq_getElem h]
theorem byteCells_one (n : Int) (h0 : 0 ≤ n) (h1 : n < 256) : Lib.byteCells [UInt8.ofNat n.toNat] = [.int .u8 n] := by
  simp [Lib.byteCells]
  omega
set_option maxHeartbeats 4000000 in
set_option maxRecDepth 100000 in
theorem glyph_Text.calls (A0 : Option Addr) (c0 : Nat) (l0 : List S30) (r : ByteArray) (w : World) (hr0 : Kd.C k30 w A0 l0.length l0) (hc0 : l0.length ≤ c0) (h : glyph_Text.f l0 = some r) :
    Calls Tryd.prog 14 #[.slice A0 l0.length c0] w fun e w' => e = .returned (.string r) ∧ Below w.heap.size w w' := by
  unfold glyph_Text.f at h
  by_cases hs : l0.length ≤ 5864062014805 ∧ (∀ c ∈ l0, 0 ≤ c.f4 ∧ c.f4 < 256)
  · rw [if_pos hs] at h
    obtain rfl := Option.some.inj h
    clear h
    obtain ⟨hs, hby⟩ := hs
    have HR := Aside0.mk hr0
    have HY := Aside0.mk hby
    clear hr0 hc0 hby
    go_enter Tryd.func14, Tryd.ntmps14
    go_wp2
    go_loopw [8] (fun i wr => ∃ k : Nat, k ≤ l0.length ∧ i = .int .i64 (k : Int) ∧ Aside0 (Lib.IsBuilderF 55 5 w.heap.size w.heap.size (Lib.byteCells (gText (l0.take k))) wr) ∧ Aside0 (Below w.heap.size w wr) ∧ w.heap.size ≤ wr.heap.size) (fun i _ => l0.length - (intOf i).toNat)
    case atStart => exact ⟨0, Nat.zero_le _, rfl, ⟨Lib.IsBuilderF.of (Lib.fresh_isBuilder _ _ w)⟩, ⟨(Below.refl _ w).alloc (Nat.le_refl _) _⟩, by simp⟩
    case round =>
      obtain ⟨k, hk, rfl, HI, HB, hsz⟩ := hrel
      by_cases hlt : k < l0.length
      · have hln := gText_len (l0.take k)
        rw [List.length_take_of_le hk] at hln
        have htn := take_next l0 k z30 hlt
        have hmem : l0.getD k z30 ∈ l0 := by rw [List.getD_eq_getElem?_getD, List.getElem?_eq_getElem hlt]; exact List.getElem_mem hlt
        have hyy := HY.out _ hmem
        obtain ⟨ad, e0, x0, x1, x2, x3, x4⟩ := at_T30 HR.out (k : Int) (by omega) (by omega)
        subst e0
        unfold rd_T30 at x0 x1 x2 x3 x4
        simp only [Int.toNat_natCast] at x0 x1 x2 x3 x4
        replace x0 := (HB.out.cell (World.block_lt_of_cell? w _ x0)).trans x0
        replace x1 := (HB.out.cell (World.block_lt_of_cell? w _ x1)).trans x1
        replace x2 := (HB.out.cell (World.block_lt_of_cell? w _ x2)).trans x2
        replace x3 := (HB.out.cell (World.block_lt_of_cell? w _ x3)).trans x3
        replace x4 := (HB.out.cell (World.block_lt_of_cell? w _ x4)).trans x4
        have HTN := Aside0.mk (gText_snoc (l0.take k) (l0.getD k z30))
        rw [← htn] at HTN
        clear htn hmem
        obtain ⟨C, hC⟩ : ∃ C, l0.getD k z30 = C := ⟨_, rfl⟩
        rw [hC] at x0 x1 x2 x3 x4 hyy HTN
        clear hC
        obtain ⟨c0_, c1_, c2_, c3_, c4_⟩ := C
        dsimp only at x0 x1 x2 x3 x4 hyy
        obtain ⟨T0, hT0⟩ : ∃ T0, gText (l0.take k) = T0 := ⟨_, rfl⟩
        rw [hT0] at HTN hln HI
        clear hT0
        cases c3_ with
        | true =>
          have HTN2 : Aside0 (Lib.byteCells (gText (l0.take (k + 1))) = Lib.byteCells T0 ++ [.int .u8 c4_]) := ⟨by rw [HTN.out, Lib.byteCells_append]; unfold cBytes; rw [if_pos rfl, byteCells_one c4_ hyy.1 hyy.2]⟩
          clear HTN
          have hlb : (Lib.byteCells T0).length + 1 ≤ 140737488355328 := by rw [Lib.byteCells_length]; omega
          obtain ⟨bs, hbs⟩ : ∃ bs, Lib.byteCells T0 = bs := ⟨_, rfl⟩
          rw [hbs] at HI hlb HTN2
          clear hbs
          go_wp2_with (go_at_call 36; refine (Tryd.writeByte_k w.heap.size w.heap.size bs c4_ _ (HI.out.alloc _) hlb (by simp; omega)).mono ?_; rintro e w1 ⟨rfl, h1, b1, k1⟩; have HI1 := Aside0.mk h1; have HB1 := Aside0.mk ((HB.out.alloc hsz _).trans b1); have hsz1 := HB1.out.size; clear h1 b1 k1)
          go_roundw
          case rel => exact ⟨k + 1, by omega, by go_num, ⟨by rw [HTN2.out]; exact Or.inr HI1.out⟩, ⟨HB1.out⟩, hsz1⟩
          case measure => simp [intOf]; omega
        | false =>
          have HTN2 : Aside0 (Lib.byteCells (gText (l0.take (k + 1))) = Lib.byteCells T0 ++ Lib.strCells (Utf8.encode c2_)) := ⟨by rw [HTN.out, Lib.byteCells_append]; unfold cBytes; rw [if_neg (by simp), Lib.strCells_eq]⟩
          clear HTN
          have hl4 := encode_len c2_
          have hlb : (Lib.byteCells T0).length + (Utf8.encode c2_).size ≤ 140737488355328 := by
            rw [Lib.byteCells_length]
            have : (Utf8.encode c2_).size = (Utf8.encode c2_).data.toList.length := rfl
            omega
          obtain ⟨bs, hbs⟩ : ∃ bs, Lib.byteCells T0 = bs := ⟨_, rfl⟩
          rw [hbs] at HI hlb HTN2
          clear hbs hl4
          go_wp2_with (go_at_call 37; refine (Tryd.writeString_k w.heap.size w.heap.size bs (Utf8.encode c2_) _ (HI.out.alloc _) hlb (by simp; omega)).mono ?_; rintro e w1 ⟨rfl, h1, b1, k1⟩; have HI1 := Aside0.mk h1; have HB1 := Aside0.mk ((HB.out.alloc hsz _).trans b1); have hsz1 := HB1.out.size; clear h1 b1 k1)
          go_roundw
          case rel => exact ⟨k + 1, by omega, by go_num, ⟨by rw [HTN2.out]; exact Or.inr HI1.out⟩, ⟨HB1.out⟩, hsz1⟩
          case measure => simp [intOf]; omega
      · obtain rfl : k = l0.length := by omega
        have HI2 := HI.out
        rw [List.take_length] at HI2
        have HI3 := Aside0.mk HI2
        clear HI2 HI
        obtain ⟨T0, hT0⟩ : ∃ T0, gText l0 = T0 := ⟨_, rfl⟩
        rw [hT0] at HI3
        have HT0 := Aside0.mk hT0
        clear hT0
        go_wp2_with (go_at_call 38; refine (Tryd.Builder_String_any_k w.heap.size w.heap.size T0 _ HI3.out hsz).mono ?_; rintro e w1 ⟨rfl, _, b1, _⟩; have HB1 := Aside0.mk (HB.out.trans b1); clear b1)
        go_ret
        exact ⟨by rw [HT0.out]; rfl, HB1.out⟩
  · rw [if_neg hs] at h
    cases h

end Go.Proofs.YtfcobfjjcocggaaDoor.C
