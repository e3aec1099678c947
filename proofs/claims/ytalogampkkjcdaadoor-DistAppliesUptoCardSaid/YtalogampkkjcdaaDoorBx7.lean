-- Printed by hprint.py (this session's program over the kit's print) out of the translation; the parts 'by hand' are the session's own.
import Derived.Test.YtalogampkkjcdaaDoorBx0
import Derived.Test.YtalogampkkjcdaaDoorBx3
namespace Go.Proofs.YtalogampkkjcdaaDoor.B
open Go.RowKit Go.Proofs.YtalogampkkjcdaaDoorW.PrintWords Go.Proofs.YtalogampkkjcdaaDoorW.PrintLast Go.Proofs.YtalogampkkjcdaaDoorW.PrintMore
attribute [local go_sem] max2_int min2_int max_two min_two max_three min_three max_four min_four   -- for this text's walks alone
set_option linter.unusedVariables false
set_option linter.unusedSimpArgs false

/-! ### dist_Apply: function 29: by hand -/
/-- Edits done to pieces: the bytes, if that can be. -/
def applyL : List ByteArray → List S30 → List UInt8 → Option (List UInt8)
  | xs, [], acc => if xs = [] then some acc else none
  | xs, e :: l, acc =>
    if e.f0 = 1 then (match xs with
      | [] => none
      | x :: xs => if x.toList = e.f1.toList then applyL xs l (acc ++ e.f1.data.toList) else none)
    else if e.f0 = 3 then (match xs with
      | [] => none
      | x :: xs => if x.toList = e.f1.toList then applyL xs l acc else none)
    else if e.f0 = 2 then (match xs with
      | [] => none
      | _ :: xs => applyL xs l (acc ++ e.f1.data.toList))
    else if e.f0 = 4 then applyL xs l (acc ++ e.f1.data.toList) else none
/-- How many bytes edits bring. -/
def editSum : List S30 → Nat
  | [] => 0
  | e :: l => e.f1.size + editSum l
def applied : Option (List UInt8) → ByteArray × Int
  | some t => (⟨t.toArray⟩, 0)
  | none => (⟨#[]⟩, 2)
def dist_Apply.f (k : Nat) (a0 : ByteArray) (a1 : List S30) : Option (ByteArray × Int) := (dist_pieces.f k a0).bind fun X => if editSum a1 ≤ 140737488351232 ∧ a1.length ≤ 4294967296 ∧ X.length ≤ 4294967296 then some (applied (applyL X a1 [])) else none
theorem dist_Apply.mono : ∀ a0 a1 k, LeO (dist_Apply.f k a0 a1) (dist_Apply.f (k + 1) a0 a1) := fun a0 a1 k => LeO.bind (dist_pieces.mono _ _) (fun _ => LeO.refl _)
theorem apw (x : Int) (h : -9223372036854775808 ≤ x) (h2 : x < 9223372036854775808) : wrap64 x = x := by
  unfold wrap64
  omega
theorem infoStrA : (Tryd.prog.info? 9).map (fun i => (i.zero, i.size, i.bytes)) = some (some (.string ⟨#[]⟩), 1, 16) := by kernel_rfl
theorem cell_alloc2 {w : World} {a : Addr} {v : Value} (h : w.cell? a = some v) (o : Obj) : (w.alloc o).cell? a = some v :=
  ((below_alloc (Below.refl w.heap.size w) o).cell (World.block_lt_of_cell? w _ h)).trans h
theorem isB_below {T e : TypeId} {B b : Nat} {bs : List Value} {W W' : World} (h : Lib.IsBuilderF T e B b bs W) (hb : Below W.heap.size W W') : Lib.IsBuilderF T e B b bs W' := by
  have one : ∀ p, Lib.BuilderAtF T e B b p bs W → Lib.BuilderAtF T e B b p bs W' := fun p h => by
    have hlt := h.lt
    obtain ⟨hB, v, hv, hown, hne⟩ := h
    exact ⟨hB, v, (hb.block b hlt).trans hv, hown.kept (row := none) ⟨hb.os, hb.tape, hb.output, hb.size, fun k hk _ => hb.block k hk⟩ (Classical.em _), hne⟩
  exact h.elim (fun x => .inl (one _ x)) (fun x => .inr (one _ x))
theorem bytes_of_str (s : ByteArray) : (⟨s.data.toList.toArray⟩ : ByteArray) = s := by
  apply ByteArray.ext
  simp
set_option maxHeartbeats 8000000 in
set_option maxRecDepth 100000 in
theorem dist_Apply.calls (k : Nat) (a0 : ByteArray) (A1 : Option Addr) (c1 : Nat) (l1 : List S30) (r1 : ByteArray) (r2 : Int) (w : World) (hr1 : Kd.C k30 w A1 l1.length l1) (hc1 : l1.length ≤ c1) (hT : Lib.Utf8Tabs 0 1 w) (h : dist_Apply.f k a0 l1 = some (r1, r2)) :
    Calls Tryd.prog 29 #[.string a0, .slice A1 l1.length c1] w fun e w' => e = .returned (.tuple #[.string r1, .int .i64 r2]) ∧ Below w.heap.size w w' := by
  obtain ⟨X, hX, h⟩ := Option.bind_eq_some_iff.mp h
  by_cases hl : editSum l1 ≤ 140737488351232 ∧ l1.length ≤ 4294967296 ∧ X.length ≤ 4294967296
  · rw [if_pos hl] at h
    obtain ⟨RR, hRR⟩ : ∃ R, applyL X l1 [] = R := ⟨_, rfl⟩
    rw [hRR] at h
    have HRR := Aside0.mk hRR
    have HRES := Aside0.mk (Option.some.inj h)
    clear hRR
    obtain ⟨hl0, hl1, hl2⟩ := hl
    have HSUM := Aside0.mk hl0
    have HX := Aside0.mk hX
    have HT := Aside0.mk hT
    have HR := Aside0.mk hr1
    have HXl := Aside0.mk hl2
    clear h hX hT hr1 hc1 hl0 hl2
    have hu30 := Tryd.underlying30
    go_enter Tryd.func29, Tryd.ntmps29
    go_wp2_with (go_at_call 42; (with_reducible refine (dist_pieces.calls k a0 X _ HT.out HX.out).mono ?_); rintro e w1 ⟨v, rfl, ho, hb1⟩; have HB1 := Aside0.mk hb1; obtain ⟨Ax, cx, rfl, hxl, hxr⟩ := Kd.R_reads ho; have HXR := Aside0.mk hxr; have HXC := Aside0.mk hxl; clear hb1 ho hxl hxr)
    go_loopw [6, 14] (fun v6 v14 wr => ∃ (i : Nat) (I : Int) (xs : List ByteArray) (acc : List UInt8) (Ay : Option Addr) (cy : Nat), v6 = .slice Ay xs.length cy ∧ v14 = .int .i64 I ∧ Aside0 (I = (i : Int)) ∧ i ≤ l1.length ∧ Aside0 (applyL xs (l1.drop i) acc = RR) ∧ Aside0 (acc.length + editSum (l1.drop i) ≤ 140737488351232) ∧ Aside0 (xs.length ≤ 4294967296) ∧ Aside0 (Lib.IsBuilderF 83 5 w1.heap.size w1.heap.size (Lib.byteCells acc) wr) ∧ Aside0 (Kd.C Kd.string w1 Ay xs.length xs) ∧ Aside0 (xs.length ≤ cy) ∧ Aside0 (Below w.heap.size w wr) ∧ Aside0 (Below w1.heap.size w1 wr)) (fun _ v14 _ => l1.length - (intOf v14).toNat)
    case atStart => exact ⟨0, 0, X, [], Ax, cx, rfl, rfl, ⟨rfl⟩, Nat.zero_le _, HRR, ⟨by rw [List.drop_zero]; have := HSUM.out; simpa using this⟩, HXl, ⟨Lib.IsBuilderF.of (Lib.fresh_isBuilder _ _ w1)⟩, HXR, HXC, ⟨HB1.out.alloc HB1.out.size _⟩, ⟨(Below.refl _ w1).alloc (Nat.le_refl _) _⟩⟩
    case round =>
      obtain ⟨i, I, xs, acc, Ay, cy, rfl, rfl, HI, hi, HA, HS, HXL, HBD, HC, HCY, HB, HB2⟩ := hrel
      by_cases hil : i < l1.length
      · have hc : decide (I < (l1.length : Int)) = true := decide_eq_true (by rw [HI.out]; exact Int.ofNat_lt.2 hil)
        have i0 : 0 ≤ I := by rw [HI.out]; exact Int.natCast_nonneg i
        have i1 : I < (l1.length : Int) := by rw [HI.out]; exact Int.ofNat_lt.2 hil
        obtain ⟨ad, e0, x0, x1⟩ := at_T30 (Kd.C_below HR.out HB.out) I i0 i1
        subst e0
        obtain ⟨C, hC⟩ : ∃ C, rd_T30 l1 I = C := ⟨_, rfl⟩
        have hdr : l1.drop i = C :: l1.drop (i + 1) := by
          rw [← hC, HI.out]
          unfold rd_T30
          rw [Int.toNat_natCast, List.drop_eq_getElem_cons hil, List.getD_eq_getElem?_getD, List.getElem?_eq_getElem hil]
          rfl
        rw [hC] at x0 x1
        clear hC
        obtain ⟨t, txt⟩ := C
        dsimp only at x0 x1
        have HA2 : Aside0 (applyL xs (⟨t, txt⟩ :: l1.drop (i + 1)) acc = RR) := ⟨by rw [← hdr]; exact HA.out⟩
        have HS2 : Aside0 (acc.length + (txt.size + editSum (l1.drop (i + 1))) ≤ 140737488351232) := ⟨by have := HS.out; rw [hdr] at this; exact this⟩
        obtain ⟨I2, hI2⟩ : ∃ x : Int, wrap64 (I + 1) = x := ⟨_, rfl⟩
        have hI2w : IntKind.i64.wrap (I + 1) = I2 := (i64_w _).trans hI2
        have EI2 : Aside0 (I2 = ((i + 1 : Nat) : Int)) := ⟨by rw [← hI2, HI.out, apw _ (by omega) (by omega)]; rfl⟩
        have hlb : (Lib.byteCells acc).length + txt.size ≤ 140737488355328 := by rw [Lib.byteCells_length]; have := HS2.out; omega
        have HLB := Aside0.mk hlb
        have HAC : Aside0 (Lib.byteCells (acc ++ txt.data.toList) = Lib.byteCells acc ++ Lib.strCells txt) := ⟨by rw [Lib.byteCells_append, Lib.strCells_eq]⟩
        have HSZ : Aside0 (w1.heap.size ≤ wr.heap.size) := ⟨HB2.out.size⟩
        replace i0 := eq_true i0
        replace i1 := eq_true i1
        clear hdr HA HS hlb
        by_cases ht1 : t = 1
        · subst ht1
          cases xs with
          | nil =>
            have hl0 : (((0 : Nat) : Int) == 0) = true := rfl
            have HF : Aside0 (r1 = ⟨#[]⟩ ∧ r2 = 2) := ⟨by have := HRES.out; rw [← HA2.out] at this; unfold applyL at this; simp only [if_true, if_false, reduceIte, Int.reduceEq] at this; rw [applied] at this; obtain ⟨h1, h2⟩ := Prod.mk.inj this; exact ⟨h1.symm, h2.symm⟩⟩
            go_wp2
            try go_quiet (fail)
            try go_wp2
            go_ret2
            exact ⟨by rw [HF.out.1, HF.out.2]; rfl, by first | exact HB.out.alloc HB.out.size _ | exact pw_below_drewN (HB.out.alloc HB.out.size _) _⟩
          | cons x xs =>
            have hl0 : (((x :: xs).length : Int) == 0) = false := beq_eq_false_iff_ne.2 (by rw [List.length_cons]; omega)
            have hl0n : ((x :: xs).length == 0) = false := rfl
            have h1x := Kd.at_string (Kd.C_below HC.out HB2.out) 0 (by omega) (by rw [List.length_cons]; omega)
            obtain ⟨ax, eax, hx0⟩ := h1x
            subst eax
            have hx0' : wr.cell? ax = some (.string x) := by have := hx0; simpa [rdOf, Addr.add] using this
            have hx1' := fun o => cell_alloc2 hx0' o
            clear hx0
            by_cases hsame : x.toList = txt.toList
            · have hb1 : (x.toList == txt.toList) = true := beq_iff_eq.2 hsame
              have hb2 : (x.toList != txt.toList) = false := bne_eq_false_iff_eq.2 hsame
              have HA3 : Aside0 (applyL xs (l1.drop (i + 1)) (acc ++ txt.data.toList) = RR) := ⟨by have := HA2.out; unfold applyL at this; simp only [if_true, if_false, reduceIte, Int.reduceEq, hsame] at this; exact this⟩
              have HS3 : Aside0 ((acc ++ txt.data.toList).length + editSum (l1.drop (i + 1)) ≤ 140737488351232) := ⟨by have := HS2.out; rw [List.length_append, show txt.data.toList.length = txt.size from by rw [Array.length_toList]; rfl]; omega⟩
              clear hsame
              obtain ⟨ic, hic, _, hszc, _⟩ := info_parts infoStrA
              have hcut := cut_from (P := Tryd.prog) 65 9 .i64 Tryd.underlying65 hic 1 hszc (some ax) (x :: xs).length cy 1 (by omega) (by rw [List.length_cons]; omega)
              have hcr := Kd.C_drop (m := (1 : Int).toNat) (c := cy) HC.out (by rw [List.length_cons]; show 1 ≤ _; omega) HCY.out
              rw [show (x :: xs).drop (1 : Int).toNat = xs from rfl] at hcr
              rw [show (x :: xs).length - (1 : Int).toNat = xs.length from rfl] at hcut
              obtain ⟨Az, hAz⟩ : ∃ A_, A_ = (if cy = (1 : Int).toNat then (some ax) else (some ax : Option Addr).map (·.add ((1 : Int).toNat * 1))) := ⟨_, rfl⟩
              obtain ⟨cz, hcz⟩ : ∃ c_, c_ = cy - (1 : Int).toNat := ⟨_, rfl⟩
              have HCZ : Aside0 (Kd.C Kd.string w1 Az xs.length xs) := ⟨by rw [hAz]; exact hcr⟩
              have HZ : Aside0 (xs.length ≤ cz) := ⟨by have := HCY.out; rw [List.length_cons] at this; rw [hcz]; show xs.length ≤ cy - 1; omega⟩
              rw [← hAz, ← hcz] at hcut
              clear hAz hcz hcr hic hszc
              have HXL2 : Aside0 (xs.length ≤ 4294967296) := ⟨by have := HXL.out; rw [List.length_cons] at this; omega⟩
              obtain ⟨N, hN⟩ : ∃ N, (x :: xs).length = N := ⟨_, rfl⟩
              have hn0 : (0 < N) = True := eq_true (by rw [← hN, List.length_cons]; omega)
              have hn1 : ((0 : Int) < (N : Int)) = True := eq_true (by rw [← hN, List.length_cons]; omega)
              rw [hN] at hcut hl0 hl0n
              simp only [hN]
              clear hN
              go_wp2
              go_quiet (fail)
              go_wp2_with (go_at_call 43; refine (Tryd.writeString_k w1.heap.size w1.heap.size (Lib.byteCells acc) txt _ (isB_below (HBD.out.alloc _) (pw_below_drewN (Below.refl _ _) _)) HLB.out (by have := HSZ.out; simp; omega)).mono ?_; rintro e w9 ⟨rfl, h1, b1, k1⟩; have HBD9 := Aside0.mk h1; have HB9 := Aside0.mk ((pw_below_drewN (HB.out.alloc HB.out.size _) _).trans (b1.mono HB1.out.size)); have HB29 := Aside0.mk ((pw_below_drewN (HB2.out.alloc HSZ.out _) _).trans b1); clear h1 b1 k1)
              go_roundw
              case rel => exact ⟨i + 1, I2, xs, acc ++ txt.data.toList, _, _, rfl, rfl, EI2, by omega, HA3, HS3, HXL2, ⟨by rw [HAC.out]; exact Or.inr HBD9.out⟩, HCZ, HZ, HB9, HB29⟩
              case measure => have := HI.out; have := EI2.out; simp [intOf]; omega
            · have hb1 : (x.toList == txt.toList) = false := beq_eq_false_iff_ne.2 hsame
              have hb2 : (x.toList != txt.toList) = true := bne_iff_ne.2 hsame
              have HF : Aside0 (r1 = ⟨#[]⟩ ∧ r2 = 2) := ⟨by have := HRES.out; rw [← HA2.out] at this; unfold applyL at this; simp only [if_true, if_false, reduceIte, Int.reduceEq, hsame] at this; rw [applied] at this; obtain ⟨h1, h2⟩ := Prod.mk.inj this; exact ⟨h1.symm, h2.symm⟩⟩
              obtain ⟨N, hN⟩ : ∃ N, (x :: xs).length = N := ⟨_, rfl⟩
              have hn0 : (0 < N) = True := eq_true (by rw [← hN, List.length_cons]; omega)
              have hn1 : ((0 : Int) < (N : Int)) = True := eq_true (by rw [← hN, List.length_cons]; omega)
              rw [hN] at hl0 hl0n
              simp only [hN]
              clear hN hsame
              go_wp2
              go_quiet (fail)
              go_wp2
              go_ret2
              exact ⟨by rw [HF.out.1, HF.out.2]; rfl, by first | exact pw_below_drewN (HB.out.alloc HB.out.size _) _ | exact HB.out.alloc HB.out.size _⟩
        by_cases ht3 : t = 3
        · subst ht3
          cases xs with
          | nil =>
            have hl0 : (((0 : Nat) : Int) == 0) = true := rfl
            have HF : Aside0 (r1 = ⟨#[]⟩ ∧ r2 = 2) := ⟨by have := HRES.out; rw [← HA2.out] at this; unfold applyL at this; simp only [if_true, if_false, reduceIte, Int.reduceEq] at this; rw [applied] at this; obtain ⟨h1, h2⟩ := Prod.mk.inj this; exact ⟨h1.symm, h2.symm⟩⟩
            go_wp2
            try go_quiet (fail)
            try go_wp2
            go_ret2
            exact ⟨by rw [HF.out.1, HF.out.2]; rfl, by first | exact HB.out.alloc HB.out.size _ | exact pw_below_drewN (HB.out.alloc HB.out.size _) _⟩
          | cons x xs =>
            have hl0 : (((x :: xs).length : Int) == 0) = false := beq_eq_false_iff_ne.2 (by rw [List.length_cons]; omega)
            have hl0n : ((x :: xs).length == 0) = false := rfl
            have h1x := Kd.at_string (Kd.C_below HC.out HB2.out) 0 (by omega) (by rw [List.length_cons]; omega)
            obtain ⟨ax, eax, hx0⟩ := h1x
            subst eax
            have hx0' : wr.cell? ax = some (.string x) := by have := hx0; simpa [rdOf, Addr.add] using this
            have hx1' := fun o => cell_alloc2 hx0' o
            clear hx0
            by_cases hsame : x.toList = txt.toList
            · have hb1 : (x.toList == txt.toList) = true := beq_iff_eq.2 hsame
              have hb2 : (x.toList != txt.toList) = false := bne_eq_false_iff_eq.2 hsame
              have HA3 : Aside0 (applyL xs (l1.drop (i + 1)) acc = RR) := ⟨by have := HA2.out; unfold applyL at this; simp only [if_true, if_false, reduceIte, Int.reduceEq, hsame] at this; exact this⟩
              have HS3 : Aside0 (acc.length + editSum (l1.drop (i + 1)) ≤ 140737488351232) := ⟨by have := HS2.out;  omega⟩
              clear hsame
              obtain ⟨ic, hic, _, hszc, _⟩ := info_parts infoStrA
              have hcut := cut_from (P := Tryd.prog) 65 9 .i64 Tryd.underlying65 hic 1 hszc (some ax) (x :: xs).length cy 1 (by omega) (by rw [List.length_cons]; omega)
              have hcr := Kd.C_drop (m := (1 : Int).toNat) (c := cy) HC.out (by rw [List.length_cons]; show 1 ≤ _; omega) HCY.out
              rw [show (x :: xs).drop (1 : Int).toNat = xs from rfl] at hcr
              rw [show (x :: xs).length - (1 : Int).toNat = xs.length from rfl] at hcut
              obtain ⟨Az, hAz⟩ : ∃ A_, A_ = (if cy = (1 : Int).toNat then (some ax) else (some ax : Option Addr).map (·.add ((1 : Int).toNat * 1))) := ⟨_, rfl⟩
              obtain ⟨cz, hcz⟩ : ∃ c_, c_ = cy - (1 : Int).toNat := ⟨_, rfl⟩
              have HCZ : Aside0 (Kd.C Kd.string w1 Az xs.length xs) := ⟨by rw [hAz]; exact hcr⟩
              have HZ : Aside0 (xs.length ≤ cz) := ⟨by have := HCY.out; rw [List.length_cons] at this; rw [hcz]; show xs.length ≤ cy - 1; omega⟩
              rw [← hAz, ← hcz] at hcut
              clear hAz hcz hcr hic hszc
              have HXL2 : Aside0 (xs.length ≤ 4294967296) := ⟨by have := HXL.out; rw [List.length_cons] at this; omega⟩
              obtain ⟨N, hN⟩ : ∃ N, (x :: xs).length = N := ⟨_, rfl⟩
              have hn0 : (0 < N) = True := eq_true (by rw [← hN, List.length_cons]; omega)
              have hn1 : ((0 : Int) < (N : Int)) = True := eq_true (by rw [← hN, List.length_cons]; omega)
              rw [hN] at hcut hl0 hl0n
              simp only [hN]
              clear hN
              go_wp2
              go_quiet (fail)
              go_wp2
              go_roundw
              case rel => exact ⟨i + 1, I2, xs, acc, _, _, rfl, rfl, EI2, by omega, HA3, HS3, HXL2, ⟨isB_below (HBD.out.alloc _) (pw_below_drewN (Below.refl _ _) _)⟩, HCZ, HZ, ⟨pw_below_drewN (HB.out.alloc HB.out.size _) _⟩, ⟨pw_below_drewN (HB2.out.alloc HSZ.out _) _⟩⟩
              case measure => have := HI.out; have := EI2.out; simp [intOf]; omega
            · have hb1 : (x.toList == txt.toList) = false := beq_eq_false_iff_ne.2 hsame
              have hb2 : (x.toList != txt.toList) = true := bne_iff_ne.2 hsame
              have HF : Aside0 (r1 = ⟨#[]⟩ ∧ r2 = 2) := ⟨by have := HRES.out; rw [← HA2.out] at this; unfold applyL at this; simp only [if_true, if_false, reduceIte, Int.reduceEq, hsame] at this; rw [applied] at this; obtain ⟨h1, h2⟩ := Prod.mk.inj this; exact ⟨h1.symm, h2.symm⟩⟩
              obtain ⟨N, hN⟩ : ∃ N, (x :: xs).length = N := ⟨_, rfl⟩
              have hn0 : (0 < N) = True := eq_true (by rw [← hN, List.length_cons]; omega)
              have hn1 : ((0 : Int) < (N : Int)) = True := eq_true (by rw [← hN, List.length_cons]; omega)
              rw [hN] at hl0 hl0n
              simp only [hN]
              clear hN hsame
              go_wp2
              go_quiet (fail)
              go_wp2
              go_ret2
              exact ⟨by rw [HF.out.1, HF.out.2]; rfl, by first | exact pw_below_drewN (HB.out.alloc HB.out.size _) _ | exact HB.out.alloc HB.out.size _⟩
        by_cases ht2 : t = 2
        · subst ht2
          cases xs with
          | nil =>
            have hl0 : (((0 : Nat) : Int) == 0) = true := rfl
            have HF : Aside0 (r1 = ⟨#[]⟩ ∧ r2 = 2) := ⟨by have := HRES.out; rw [← HA2.out] at this; unfold applyL at this; simp only [if_true, if_false, reduceIte, Int.reduceEq] at this; rw [applied] at this; obtain ⟨h1, h2⟩ := Prod.mk.inj this; exact ⟨h1.symm, h2.symm⟩⟩
            go_wp2
            go_ret2
            exact ⟨by rw [HF.out.1, HF.out.2]; rfl, HB.out.alloc HB.out.size _⟩
          | cons x xs =>
            have hl0 : (((x :: xs).length : Int) == 0) = false := beq_eq_false_iff_ne.2 (by rw [List.length_cons]; omega)
            have hl0n : ((x :: xs).length == 0) = false := rfl
            have HA3 : Aside0 (applyL xs (l1.drop (i + 1)) (acc ++ txt.data.toList) = RR) := ⟨by have := HA2.out; unfold applyL at this; simp only [if_true, if_false, reduceIte, Int.reduceEq] at this; exact this⟩
            have HS3 : Aside0 ((acc ++ txt.data.toList).length + editSum (l1.drop (i + 1)) ≤ 140737488351232) := ⟨by have := HS2.out; rw [List.length_append, show txt.data.toList.length = txt.size from by rw [Array.length_toList]; rfl]; omega⟩
            obtain ⟨ic, hic, _, hszc, _⟩ := info_parts infoStrA
            have hcut := cut_from (P := Tryd.prog) 65 9 .i64 Tryd.underlying65 hic 1 hszc Ay (x :: xs).length cy 1 (by omega) (by rw [List.length_cons]; omega)
            have hcr := Kd.C_drop (m := (1 : Int).toNat) (c := cy) HC.out (by rw [List.length_cons]; show 1 ≤ _; omega) HCY.out
            rw [show (x :: xs).drop (1 : Int).toNat = xs from rfl] at hcr
            rw [show (x :: xs).length - (1 : Int).toNat = xs.length from rfl] at hcut
            obtain ⟨Az, hAz⟩ : ∃ A_, A_ = (if cy = (1 : Int).toNat then Ay else (Ay : Option Addr).map (·.add ((1 : Int).toNat * 1))) := ⟨_, rfl⟩
            obtain ⟨cz, hcz⟩ : ∃ c_, c_ = cy - (1 : Int).toNat := ⟨_, rfl⟩
            have HCZ : Aside0 (Kd.C Kd.string w1 Az xs.length xs) := ⟨by rw [hAz]; exact hcr⟩
            have HZ : Aside0 (xs.length ≤ cz) := ⟨by have := HCY.out; rw [List.length_cons] at this; rw [hcz]; show xs.length ≤ cy - 1; omega⟩
            rw [← hAz, ← hcz] at hcut
            clear hAz hcz hcr hic hszc
            have HXL2 : Aside0 (xs.length ≤ 4294967296) := ⟨by have := HXL.out; rw [List.length_cons] at this; omega⟩
            obtain ⟨N, hN⟩ : ∃ N, (x :: xs).length = N := ⟨_, rfl⟩
            rw [hN] at hcut hl0 hl0n
            simp only [hN]
            clear hN
            go_wp2_with (go_at_call 43; refine (Tryd.writeString_k w1.heap.size w1.heap.size (Lib.byteCells acc) txt _ (HBD.out.alloc _) HLB.out (by have := HSZ.out; simp; omega)).mono ?_; rintro e w9 ⟨rfl, h1, b1, k1⟩; have HBD9 := Aside0.mk h1; have HB9 := Aside0.mk ((HB.out.alloc HB.out.size _).trans (b1.mono HB1.out.size)); have HB29 := Aside0.mk ((HB2.out.alloc HSZ.out _).trans b1); clear h1 b1 k1)
            go_roundw
            case rel => exact ⟨i + 1, I2, xs, acc ++ txt.data.toList, _, _, rfl, rfl, EI2, by omega, HA3, HS3, HXL2, ⟨by rw [HAC.out]; exact Or.inr HBD9.out⟩, HCZ, HZ, HB9, HB29⟩
            case measure => have := HI.out; have := EI2.out; simp [intOf]; omega
        by_cases ht4 : t = 4
        · subst ht4
          have HA3 : Aside0 (applyL xs (l1.drop (i + 1)) (acc ++ txt.data.toList) = RR) := ⟨by have := HA2.out; unfold applyL at this; simp only [if_true, if_false, reduceIte, Int.reduceEq] at this; exact this⟩
          have HS3 : Aside0 ((acc ++ txt.data.toList).length + editSum (l1.drop (i + 1)) ≤ 140737488351232) := ⟨by have := HS2.out; rw [List.length_append, show txt.data.toList.length = txt.size from by rw [Array.length_toList]; rfl]; omega⟩
          go_wp2_with (go_at_call 43; refine (Tryd.writeString_k w1.heap.size w1.heap.size (Lib.byteCells acc) txt _ (HBD.out.alloc _) HLB.out (by have := HSZ.out; simp; omega)).mono ?_; rintro e w9 ⟨rfl, h1, b1, k1⟩; have HBD9 := Aside0.mk h1; have HB9 := Aside0.mk ((HB.out.alloc HB.out.size _).trans (b1.mono HB1.out.size)); have HB29 := Aside0.mk ((HB2.out.alloc HSZ.out _).trans b1); clear h1 b1 k1)
          go_roundw
          case rel => exact ⟨i + 1, I2, xs, acc ++ txt.data.toList, _, _, rfl, rfl, EI2, by omega, HA3, HS3, HXL, ⟨by rw [HAC.out]; exact Or.inr HBD9.out⟩, HC, HCY, HB9, HB29⟩
          case measure => have := HI.out; have := EI2.out; simp [intOf]; omega
        have b1 : (t == 1) = false := beq_eq_false_iff_ne.2 ht1
        have b2 : (t == 2) = false := beq_eq_false_iff_ne.2 ht2
        have b3 : (t == 3) = false := beq_eq_false_iff_ne.2 ht3
        have b4 : (t == 4) = false := beq_eq_false_iff_ne.2 ht4
        have HF : Aside0 (r1 = ⟨#[]⟩ ∧ r2 = 2) := ⟨by have := HRES.out; rw [← HA2.out] at this; unfold applyL at this; simp only [ht1, ht2, ht3, ht4, if_false] at this; rw [applied] at this; obtain ⟨h1, h2⟩ := Prod.mk.inj this; exact ⟨h1.symm, h2.symm⟩⟩
        clear ht1 ht2 ht3 ht4
        go_wp2
        go_ret2
        exact ⟨by rw [HF.out.1, HF.out.2]; rfl, HB.out.alloc HB.out.size _⟩
      · have hc : decide (I < (l1.length : Int)) = false := decide_eq_false (by rw [HI.out]; omega)
        have HE : Aside0 (applyL xs [] acc = RR) := ⟨by have := HA.out; rwa [List.drop_of_length_le (by omega)] at this⟩
        clear hil hi
        cases xs with
        | nil =>
          have HF : Aside0 (r1 = ⟨acc.toArray⟩ ∧ r2 = 0) := ⟨by have := HRES.out; rw [← HE.out, applyL, if_pos rfl, applied] at this; obtain ⟨h1, h2⟩ := Prod.mk.inj this; exact ⟨h1.symm, h2.symm⟩⟩
          go_wp2_with (go_at_call 44; refine (Tryd.Builder_String_any_k w1.heap.size w1.heap.size acc _ HBD.out HB2.out.size).mono ?_; rintro e w9 ⟨rfl, _, b1, _⟩; have HB9 := Aside0.mk (HB.out.trans (b1.mono HB1.out.size)); clear b1)
          go_ret2
          exact ⟨by rw [HF.out.1, HF.out.2]; rfl, HB9.out⟩
        | cons x xs =>
          have hc2 : decide ((((x :: xs).length : Nat) : Int) > 0) = true := decide_eq_true (by rw [List.length_cons]; omega)
          have hc3 : decide ((0 : Int) < (((x :: xs).length : Nat) : Int)) = true := hc2
          have hc4 : decide (0 < (x :: xs).length) = true := decide_eq_true (by rw [List.length_cons]; omega)
          obtain ⟨N, hN⟩ : ∃ N, (x :: xs).length = N := ⟨_, rfl⟩
          rw [hN] at hc2 hc3 hc4
          simp only [hN]
          have HF : Aside0 (r1 = ⟨#[]⟩ ∧ r2 = 2) := ⟨by have := HRES.out; rw [← HE.out, applyL, if_neg (by simp), applied] at this; obtain ⟨h1, h2⟩ := Prod.mk.inj this; exact ⟨h1.symm, h2.symm⟩⟩
          clear hN
          go_wp2
          go_ret2
          exact ⟨by rw [HF.out.1, HF.out.2]; rfl, HB.out⟩
  · rw [if_neg hl] at h
    cases h

end Go.Proofs.YtalogampkkjcdaaDoor.B
