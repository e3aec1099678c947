-- Printed by hprint.py (this session's program over the kit's print) out of the translation; the parts 'by hand' are the session's own.
import Derived.Test.YtfcobfjjcocggaaDoorQx0
import Derived.Test.YtfcobfjjcocggaaDoorQx6
import Derived.Test.YtfcobfjjcocggaaDoorQx9
namespace Go.Proofs.YtfcobfjjcocggaaDoor.Q
open Go.RowKit Go.Proofs.YtfcobfjjcocggaaDoorW.PrintWords Go.Proofs.YtfcobfjjcocggaaDoorW.PrintLast Go.Proofs.YtfcobfjjcocggaaDoorW.PrintMore
attribute [local go_sem] max2_int min2_int max_two min_two max_three min_three max_four min_four   -- for this text's walks alone
set_option linter.unusedVariables false
set_option linter.unusedSimpArgs false

/-! ### kind_Run: function 25: by hand -/
theorem addr_add2 (a : Addr) (i j : Nat) : (a.add i).add j = a.add (i + j) := by
  unfold Addr.add
  by_cases hi : i = 0
  · subst hi; simp
  · by_cases hj : j = 0
    · subst hj; simp [hi]
    · simp [hi, hj, Nat.add_assoc]
/-- How many cells of a list's head are of kind t. -/
def kRun (t : Int) : List S30 → Int → Option Int
  | [], n => some n
  | c :: cs, n => (kind_Cell.f 16 c.f0 c.f1 c.f2 c.f3 c.f4).bind fun u => if u = t then kRun t cs (n + 1) else some n
def kind_Run.f (a0 : ByteArray) (a1 : Int) : Option (Int × Int) :=
  (glyph_Cells.f a0).bind fun l => if a1 < 0 then some (0, 2) else if (l.length : Int) ≤ a1 then some (0, 2)
    else (kind_Cell.f 16 (rd_T30 l a1).f0 (rd_T30 l a1).f1 (rd_T30 l a1).f2 (rd_T30 l a1).f3 (rd_T30 l a1).f4).bind fun t => (kRun t (l.drop a1.toNat) 0).bind fun n => some (n, 0)
set_option maxHeartbeats 4000000 in
set_option maxRecDepth 100000 in
theorem kind_Run.calls (a0 : ByteArray) (a1 : Int) (r1 : Int) (r2 : Int) (w : World) (hT : Lib.Utf8Tabs 0 1 w) (h : kind_Run.f a0 a1 = some (r1, r2)) :
    Calls Tryd.prog 25 #[.string a0, .int .i64 a1] w fun e w' => e = .returned (.tuple #[.int .i64 r1, .int .i64 r2]) ∧ Below w.heap.size w w' := by
  obtain ⟨l, hl, hq⟩ := Option.bind_eq_some_iff.mp h
  clear h
  have h := hq
  clear hq
  have HL := Aside0.mk hl
  have HT := Aside0.mk hT
  clear hl hT
  by_cases h0 : a1 < 0
  · rw [if_pos h0] at h
    obtain ⟨rfl, rfl⟩ : r1 = 0 ∧ r2 = 2 := by simpa [eq_comm] using h
    clear h
    have hd : decide (a1 < 0) = true := decide_eq_true h0
    go_enter Tryd.func25, Tryd.ntmps25
    go_wp2_with (go_at_call 21; refine (glyph_Cells.calls a0 l _ HT.out HL.out).mono ?_; rintro e w1 ⟨v, rfl, ho, hb⟩; obtain ⟨A, c, rfl⟩ := Kd.R_slice ho)
    go_ret2
    exact ⟨rfl, hb⟩
  · rw [if_neg h0] at h
    have hd : decide (a1 < 0) = false := decide_eq_false h0
    by_cases h1 : (l.length : Int) ≤ a1
    · rw [if_pos h1] at h
      obtain ⟨rfl, rfl⟩ : r1 = 0 ∧ r2 = 2 := by simpa [eq_comm] using h
      clear h
      have hd1 : decide ((l.length : Int) ≤ a1) = true := decide_eq_true h1
      go_enter Tryd.func25, Tryd.ntmps25
      go_wp2_with (go_at_call 21; refine (glyph_Cells.calls a0 l _ HT.out HL.out).mono ?_; rintro e w1 ⟨v, rfl, ho, hb⟩; obtain ⟨A, c, rfl⟩ := Kd.R_slice ho)
      go_ret2
      exact ⟨rfl, hb⟩
    · rw [if_neg h1] at h
      have hd1 : decide ((l.length : Int) ≤ a1) = false := decide_eq_false h1
      obtain ⟨t, ht, h2⟩ := Option.bind_eq_some_iff.mp h
      clear h
      obtain ⟨n, hn, h3⟩ := Option.bind_eq_some_iff.mp h2
      clear h2
      obtain ⟨rfl, rfl⟩ : r1 = n ∧ r2 = 0 := by simpa [eq_comm] using h3
      clear h3
      obtain ⟨j, rfl⟩ : ∃ j : Nat, a1 = (j : Int) := ⟨a1.toNat, by omega⟩
      rw [Int.toNat_natCast] at hn
      have HN := Aside0.mk hn
      have HT1 := Aside0.mk ht
      clear hn ht
      have hjl : j < l.length := by omega
      obtain ⟨t0, ht0⟩ : ∃ t0, rd_T30 l (j : Int) = t0 := ⟨_, rfl⟩
      rw [ht0] at HT1
      go_enter Tryd.func25, Tryd.ntmps25
      go_wp2_with (go_at_call 21; refine (glyph_Cells.calls a0 l _ HT.out HL.out).mono ?_; rintro e w1 ⟨v, rfl, ho, hb⟩; obtain ⟨A, c, rfl, hlc, hrd⟩ := Kd.R_reads ho; have HB := Aside0.mk hb; have HR := Aside0.mk hrd; clear hb hrd ho; obtain ⟨ad, e0, x0, x1, x2, x3, x4⟩ := at_T30 HR.out (j : Int) (by omega) (by omega); subst e0; simp only [Int.toNat_natCast] at x0 x1 x2 x3 x4; rw [ht0] at x0 x1 x2 x3 x4)
      have hsp : j < c := by omega
      go_wp2_with (go_at_call 27; refine (kind_Cell.calls 16 t0.f0 t0.f1 t0.f2 t0.f3 t0.f4 t _ HT1.out).mono ?_; rintro e w2 ⟨rfl, hb⟩)
      have HB2 := Aside0.mk (below_step HB.out hb)
      have HR2 := Aside0.mk (Kd.C_below HR.out hb)
      clear HB HR hb x0 x1 x2 x3 x4 HT1 hd hd1
      have hadd : ∀ i, (ad.add (j * 5)).add (i * 5) = ad.add ((j + i) * 5) := fun i => by rw [addr_add2, Nat.add_mul]
      have HADD := Aside0.mk hadd
      clear hadd
      obtain ⟨Bd, hBd⟩ : ∃ Bd, ad.add (j * 5) = Bd := ⟨_, rfl⟩
      rw [hBd] at HADD
      have hN : Aside0 (l.length - j + j = l.length) := ⟨by omega⟩
      obtain ⟨N, hNe⟩ : ∃ N, l.length - j = N := ⟨_, rfl⟩
      rw [hNe] at hN
      obtain ⟨M, hM⟩ : ∃ M, c - j = M := ⟨_, rfl⟩
      have hlm := HR2.out.2.1
      simp only [hBd, hNe, hM]
      have HNe := Aside0.mk hNe
      clear hBd hNe hM
      go_loopw [29] (fun i wr => ∃ k : Nat, k ≤ N ∧ i = .int .i64 (k : Int) ∧ Aside0 (kRun t (l.drop (j + k)) (k : Int) = some r1) ∧ Aside0 (Below w.heap.size w wr) ∧ Aside0 (Kd.C k30 wr (some ad) l.length l)) (fun i _ => N - (intOf i).toNat)
      case atStart => exact ⟨0, Nat.zero_le _, rfl, HN, HB2, HR2⟩
      case round =>
        obtain ⟨k, hk, rfl, HK, HB, HR⟩ := hrel
        have hNle : N ≤ 9223372036854775807 := by have := hN.out; omega
        by_cases hlt : k < N
        · have hjk : j + k < l.length := by have := hN.out; omega
          obtain ⟨ad', e0, x0, x1, x2, x3, x4⟩ := at_T30 HR.out ((j + k : Nat) : Int) (by omega) (by omega)
          injection e0 with e0
          subst e0
          simp only [Int.toNat_natCast] at x0 x1 x2 x3 x4
          rw [← HADD.out k] at x0 x1 x2 x3 x4
          have hdr : l.drop (j + k) = rd_T30 l ((j + k : Nat) : Int) :: l.drop (j + (k + 1)) := by
            rw [List.drop_eq_getElem_cons hjk]
            unfold rd_T30
            rw [Int.toNat_natCast, List.getD_eq_getElem?_getD, List.getElem?_eq_getElem hjk]
            rfl
          rw [hdr] at HK
          clear hdr
          obtain ⟨C, hC⟩ : ∃ C, rd_T30 l ((j + k : Nat) : Int) = C := ⟨_, rfl⟩
          rw [hC] at x0 x1 x2 x3 x4 HK
          clear hC
          obtain ⟨u, hu, hk2⟩ := Option.bind_eq_some_iff.mp HK.out
          have HU := Aside0.mk hu
          have HK2 := Aside0.mk hk2
          clear hu hk2 HK
          obtain ⟨f0, f1, f2, f3, f4⟩ := C
          dsimp only at x0 x1 x2 x3 x4 HU
          by_cases hut : u = t
          · subst hut
            have HK3 : Aside0 (kRun u (l.drop (j + (k + 1))) ((k : Int) + 1) = some r1) := ⟨by have := HK2.out; rwa [if_pos rfl] at this⟩
            go_wp2_with (go_at_call 27; refine (kind_Cell.calls 16 f0 f1 f2 f3 f4 u _ HU.out).mono ?_; rintro e w3 ⟨rfl, hb⟩; have HB3 := Aside0.mk (below_step (HB.out.alloc HB.out.size _) hb); have HR3 := Aside0.mk (Kd.C_below (Kd.C_below HR.out (below_alloc (Below.refl _ _) _)) hb); clear hb)
            go_roundw
            case rel => exact ⟨k + 1, by omega, by go_num, HK3, HB3, HR3⟩
            case measure => simp [intOf]; omega
          · have HK3 : Aside0 ((k : Int) = r1) := ⟨by have := HK2.out; rw [if_neg hut] at this; exact Option.some.inj this⟩
            have hne : (u == t) = false := beq_eq_false_iff_ne.2 hut
            have hne2 : (u != t) = true := bne_iff_ne.2 hut
            go_wp2_with (go_at_call 27; refine (kind_Cell.calls 16 f0 f1 f2 f3 f4 u _ HU.out).mono ?_; rintro e w3 ⟨rfl, hb⟩; have HB3 := Aside0.mk (below_step (HB.out.alloc HB.out.size _) hb); clear hb)
            go_ret2
            exact ⟨by rw [← HK3.out]; rfl, HB3.out⟩
        · obtain rfl : k = N := by omega
          have hr : (k : Int) = r1 := by
            have := HK.out
            rw [List.drop_of_length_le (by have := hN.out; omega)] at this
            exact Option.some.inj this
          have HR1 : Aside0 ((l.length : Int) - (j : Int) = r1) := ⟨by have := hN.out; omega⟩
          clear hr
          go_wp2
          go_ret2
          exact ⟨by rw [← HR1.out]; rfl, HB.out⟩

end Go.Proofs.YtfcobfjjcocggaaDoor.Q
