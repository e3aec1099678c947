import Derived.Test.YtbpinnanfanaaaaDoorV23
import Derived.Test.YtbpinnanfanaaaaDoorV25
import Derived.Test.YtbpinnanfanaaaaDoorV217
import Derived.Test.YtbpinnanfanaaaaDoorV219
import Derived.Laws.BitsLemmas
import Derived.Test.YtbpinnanfanaaaaDoorV213
import Derived.Test.YtbpinnanfanaaaaDoorV212
import Derived.Lib.MapLaws
import Derived.Lib.RuneBytes
import Derived.Laws.BytesArg
import Derived.Test.YtbpinnanfanaaaaDoorV214
import Derived.Test.YtbpinnanfanaaaaDoorV27
import Derived.Test.YtbpinnanfanaaaaDoorV215
namespace Go.Proofs.YtbpinnanfanaaaaDoor.L
open Go.RowKit Go.Proofs.YtbpinnanfanaaaaDoor.Mi Go.Proofs.YtbpinnanfanaaaaDoorW.PrintWords Go.Proofs.YtbpinnanfanaaaaDoorW.PrintLast Go.Proofs.YtbpinnanfanaaaaDoorW.PrintMore
attribute [local go_sem] min2_int min_two min_three
set_option linter.unusedVariables false
set_option linter.unusedSimpArgs false
def siglumref10_Align.f (k : Nat) (l0 : List ByteArray) (l1 : List ByteArray) (a2_0 : Int) (a2_1 : Int) (a2_2 : Int) (a2_3 : Int) : Option ((List (S59)) × Int × Int) := (siglumref09_Grid.f k l0 l1 a2_0 a2_1 a2_2 a2_3).bind fun btU2 => (if btU2.2 = 0 then ((siglumref10_Walk.f k btU2.1 (l0.length : Int) (l1.length : Int) a2_0).bind fun btU6 => (some (btU6.1, btU6.2, 0))) else (some (([] : List (S59)), 0, btU2.2)))
set_option maxHeartbeats 8000000 in
set_option maxRecDepth 100000 in
theorem siglumref10_Align.calls (k : Nat) (A0 : Option Addr) (c0 : Nat) (l0 : List ByteArray) (A1 : Option Addr) (c1 : Nat) (l1 : List ByteArray) (a2_0 : Int) (a2_1 : Int) (a2_2 : Int) (a2_3 : Int) (r1 : List (S59)) (r2 : Int) (r3 : Int) (w : World) (hr0 : Kd.C Kd.string w A0 l0.length l0) (hc0 : l0.length ≤ c0) (hr1 : Kd.C Kd.string w A1 l1.length l1) (hc1 : l1.length ≤ c1) (h : siglumref10_Align.f k l0 l1 a2_0 a2_1 a2_2 a2_3 = some (r1, r2, r3)) :
 Calls Tryd.prog 19 #[.slice A0 l0.length c0, .slice A1 l1.length c1, .agg #[.int .i64 a2_0, .int .i64 a2_1, .int .i64 a2_2, .int .i64 a2_3]] w fun e w' => ∃ v0_ : Value, e = .returned (.tuple #[v0_, .int .i64 r2, .int .i64 r3]) ∧ Kd.R k59 59 w' w.heap.size (fun _ => True) v0_ r1 ∧ Below w.heap.size w w' := by
 have hu24 := Tryd.underlying24; have HR0 := Aside0.mk hr0; have HC0 := Aside0.mk hc0; clear hr0 hc0; have HR1 := Aside0.mk hr1; have HC1 := Aside0.mk hc1; clear hr1 hc1; have HB := Aside0.mk (Below.refl w.heap.size w); have H := h; clear h; unfold siglumref10_Align.f at H; replace H := ob H; obtain ⟨⟨tU2, tU5⟩, A4, H⟩ := H; (try dsimp only at H)
 by_cases c5 : tU5 = 0
 ·rw [if_pos c5] at H; have c5b0 := beq_iff_eq.mpr c5; have c5b1 := bne_eq_false_iff_eq.mpr c5; clear c5; replace H := ob H; obtain ⟨⟨tU6, tU7⟩, A6, H⟩ := H; (try dsimp only at H); simp only [Option.some.injEq, Prod.mk.injEq] at H; obtain ⟨rfl, rfl, rfl⟩ := H; go_enter Tryd.func19, Tryd.ntmps19; go_wp2_with (first | ((with_reducible refine gd 5 ?_); refine bz 5 #[.int .i64 a2_0, .int .i64 a2_1, .int .i64 a2_2, .int .i64 a2_3] 24 ?_; clear HB; intro gbU1 w7 BKU1 GWU1 HB; have GEU1 := GWU1; obtain ⟨z8_0, z8_1, z8_2, z8_3, f8_0, f8_1, f8_2, f8_3⟩ := cz4 BKU1) | ((with_reducible refine gc 21 ?_); refine gl 17 Tryd.func21 #[.slice A0 l0.length c0, .slice A1 l1.length c1, .agg #[.int .i64 a2_0, .int .i64 a2_1, .int .i64 a2_2, .int .i64 a2_3]] ?_; (with_reducible refine (siglumref09_Grid.calls k _ _ l0 _ _ l1 a2_0 a2_1 a2_2 a2_3 tU2 tU5 _ ?side1 ?side2 ?side3 ?side4 A4.out).mono ?_); (case side1 => exact cb HR0 HB); (case side2 => exact HC0.out); (case side3 => exact cb HR1 HB); (case side4 => exact HC1.out); rintro e w9 ⟨vU3, rfl, ho0, hb⟩; refine ⟨_, rfl, ?_⟩; have HOU4 := Aside0.mk (Kd.S_lower ho0 (below_size bel)); replace BKU1 := bb BKU1 hb; replace HB := bs hb; (try clear hb); (try clear ho0); obtain ⟨z10_0, z10_1, z10_2, z10_3, f10_0, f10_1, f10_2, f10_3⟩ := cz4 BKU1; obtain ⟨Ao11, co11, eo11⟩ := Kd.S_slice HOU4.out; subst eo11) | ((with_reducible refine gc 27 ?_); refine gl 31 Tryd.func27 #[.slice Ao11 tU2.length co11, .int .i64 (l0.length : Int), .int .i64 (l1.length : Int), .int .i64 a2_0] ?_; (with_reducible refine (siglumref10_Walk.calls k _ _ tU2 (l0.length : Int) (l1.length : Int) a2_0 tU6 tU7 _ ?side1 ?side2 A6.out).mono ?_); (case side1 => repeat (first | exact (Kd.S_reads' HOU4.out).2.2 | (with_reducible refine Kd.C_alloc ?_ _) | (with_reducible refine Kd.C_drewN ?_ _) | (with_reducible refine Kd.C_drew ?_))); (case side2 => exact (Kd.S_reads' HOU4.out).2.1); rintro e w12 ⟨vU8, rfl, ho0, hb⟩; refine ⟨_, rfl, ?_⟩; replace HOU4 := Aside0.mk (Kd.S_below (sl HOU4) hb); have HOU9 := Aside0.mk (Kd.R_lower ho0 (below_size bel)); replace BKU1 := bb BKU1 hb; replace HB := bs hb; (try clear hb); (try clear ho0)))
  go_ret3
  exact ⟨_, fi, by (with_reducible repeat (first | apply Kd.R_alloc | apply Kd.R_drewN | apply Kd.R_drew)); exact HOU9.out, by exact bel⟩
 ·rw [if_neg c5] at H; have c5b0 := beq_eq_false_iff_ne.mpr c5; have c5b1 := bne_iff_ne.mpr c5; simp only [Option.some.injEq, Prod.mk.injEq] at H; obtain ⟨rfl, rfl, rfl⟩ := H; go_enter Tryd.func19, Tryd.ntmps19; go_wp2_with (first | ((with_reducible refine gd 5 ?_); refine bz 5 #[.int .i64 a2_0, .int .i64 a2_1, .int .i64 a2_2, .int .i64 a2_3] 24 ?_; clear HB; intro gbU1 w13 BKU1 GWU1 HB; have GEU1 := GWU1; obtain ⟨z14_0, z14_1, z14_2, z14_3, f14_0, f14_1, f14_2, f14_3⟩ := cz4 BKU1) | ((with_reducible refine gc 21 ?_); refine gl 17 Tryd.func21 #[.slice A0 l0.length c0, .slice A1 l1.length c1, .agg #[.int .i64 a2_0, .int .i64 a2_1, .int .i64 a2_2, .int .i64 a2_3]] ?_; (with_reducible refine (siglumref09_Grid.calls k _ _ l0 _ _ l1 a2_0 a2_1 a2_2 a2_3 tU2 tU5 _ ?side1 ?side2 ?side3 ?side4 A4.out).mono ?_); (case side1 => exact cb HR0 HB); (case side2 => exact HC0.out); (case side3 => exact cb HR1 HB); (case side4 => exact HC1.out); rintro e w15 ⟨vU3, rfl, ho0, hb⟩; refine ⟨_, rfl, ?_⟩; have HOU4 := Aside0.mk (Kd.S_lower ho0 (below_size bel)); replace BKU1 := bb BKU1 hb; replace HB := bs hb; (try clear hb); (try clear ho0)))
  go_ret3
  exact ⟨_, fi, by first | exact Kd.R_nil _ _ _ _ _ | exact Kd.N_nil _ _ _ _ _ | exact Kd.V_nil _ _ _ _ _ | exact Kd.Q_nil _ _ _ _ _ | exact Kd.S_nil _ _ _ _ _, by exact bel⟩
end Go.Proofs.YtbpinnanfanaaaaDoor.L
namespace Go.Proofs.YtbpinnanfanaaaaDoor.L
open Go.RowKit Go.Proofs.YtbpinnanfanaaaaDoor.Mi Go.Proofs.YtbpinnanfanaaaaDoorW.PrintWords Go.Proofs.YtbpinnanfanaaaaDoorW.PrintLast Go.Proofs.YtbpinnanfanaaaaDoorW.PrintMore
attribute [local go_sem] min2_int min_two min_three
set_option linter.unusedVariables false
set_option linter.unusedSimpArgs false
def siglumref11_Least.f (k : Nat) (l0 : List ByteArray) (l1 : List ByteArray) (a2_0 : Int) (a2_1 : Int) (a2_2 : Int) (a2_3 : Int) : Option (Int × Int) := (siglumref10_Align.f k l0 l1 a2_0 a2_1 a2_2 a2_3).bind fun btU2 => (some (btU2.2.1, btU2.2.2))
set_option maxHeartbeats 8000000 in
set_option maxRecDepth 100000 in
theorem siglumref11_Least.calls (k : Nat) (A0 : Option Addr) (c0 : Nat) (l0 : List ByteArray) (A1 : Option Addr) (c1 : Nat) (l1 : List ByteArray) (a2_0 : Int) (a2_1 : Int) (a2_2 : Int) (a2_3 : Int) (r1 : Int) (r2 : Int) (w : World) (hr0 : Kd.C Kd.string w A0 l0.length l0) (hc0 : l0.length ≤ c0) (hr1 : Kd.C Kd.string w A1 l1.length l1) (hc1 : l1.length ≤ c1) (h : siglumref11_Least.f k l0 l1 a2_0 a2_1 a2_2 a2_3 = some (r1, r2)) :
 Calls Tryd.prog 10 #[.slice A0 l0.length c0, .slice A1 l1.length c1, .agg #[.int .i64 a2_0, .int .i64 a2_1, .int .i64 a2_2, .int .i64 a2_3]] w fun e w' => e = .returned (.tuple #[.int .i64 r1, .int .i64 r2]) ∧ Below w.heap.size w w' := by
 have hu24 := Tryd.underlying24; have HR0 := Aside0.mk hr0; have HC0 := Aside0.mk hc0; clear hr0 hc0; have HR1 := Aside0.mk hr1; have HC1 := Aside0.mk hc1; clear hr1 hc1; have HB := Aside0.mk (Below.refl w.heap.size w); have H := h; clear h; unfold siglumref11_Least.f at H; replace H := ob H; obtain ⟨⟨tU2, tU5, tU6⟩, A4, H⟩ := H; (try dsimp only at H); simp only [Option.some.injEq, Prod.mk.injEq] at H; obtain ⟨rfl, rfl⟩ := H; go_enter Tryd.func10, Tryd.ntmps10; go_wp2_with (first | ((with_reducible refine gd 5 ?_); refine bz 5 #[.int .i64 a2_0, .int .i64 a2_1, .int .i64 a2_2, .int .i64 a2_3] 24 ?_; clear HB; intro gbU1 w5 BKU1 GWU1 HB; have GEU1 := GWU1; obtain ⟨z6_0, z6_1, z6_2, z6_3, f6_0, f6_1, f6_2, f6_3⟩ := cz4 BKU1) | ((with_reducible refine gc 19 ?_); refine gl 15 Tryd.func19 #[.slice A0 l0.length c0, .slice A1 l1.length c1, .agg #[.int .i64 a2_0, .int .i64 a2_1, .int .i64 a2_2, .int .i64 a2_3]] ?_; (with_reducible refine (siglumref10_Align.calls k _ _ l0 _ _ l1 a2_0 a2_1 a2_2 a2_3 tU2 tU5 tU6 _ ?side1 ?side2 ?side3 ?side4 A4.out).mono ?_); (case side1 => exact cb HR0 HB); (case side2 => exact HC0.out); (case side3 => exact cb HR1 HB); (case side4 => exact HC1.out); rintro e w7 ⟨vU3, rfl, ho0, hb⟩; refine ⟨_, rfl, ?_⟩; have HOU4 := Aside0.mk (Kd.R_lower ho0 (below_size bel)); replace BKU1 := bb BKU1 hb; replace HB := bs hb; (try clear hb); (try clear ho0))); go_ret2; exact ⟨fi, bel⟩
end Go.Proofs.YtbpinnanfanaaaaDoor.L
/-
  The document's cells, byte by byte, are the model's decoding: the same list of cells.
-/
namespace Go.Proofs.YtbpinnanfanaaaaDoor.L
open Go.RowKit Go.Proofs.YtbpinnanfanaaaaDoorW.PrintWords Go.Proofs.YtbpinnanfanaaaaDoorW.PrintLast
namespace Pl
theorem wrap_small (x : Int) (h : 0 ≤ x) (h2 : x < 9223372036854775808) : wrap64 x = x := by
  unfold wrap64
  omega
theorem wrap32_small (x : Int) (h : 0 ≤ x) (h2 : x < 2147483648) : wrap32 x = x := by
  unfold wrap32
  omega
theorem bt_nat (s : ByteArray) (i : Nat) (h : i < s.size) : bt s (i : Int) = ((s.get! i).toNat : Int) := by
  unfold bt; rw [dif_pos (by simpa using h), Utf.get_lt s i h]
  simp
theorem between_some (a lo hi : Int) : siglumref01_between.f a lo hi = some (decide (lo ≤ a ∧ a ≤ hi)) := by
  unfold siglumref01_between.f
  by_cases h : lo ≤ a <;> simp [h]
def want (b : Int) : Int := if b < 128 then 1 else if 194 ≤ b ∧ b ≤ 223 then 2 else if 224 ≤ b ∧ b ≤ 239 then 3 else if 240 ≤ b ∧ b ≤ 244 then 4 else 0
theorem wants_some (b : Int) : siglumref01_wants.f b = some (want b) := by
  unfold siglumref01_wants.f want; simp only [between_some, Option.bind_some, decide_eq_true_eq]
  split
  · rfl
  · split
    · rfl
    · split
      · rfl
      · split <;> rfl
def sec (a b : Int) : Prop := if a = 224 then 160 ≤ b ∧ b ≤ 191 else if a = 237 then 128 ≤ b ∧ b ≤ 159 else if a = 240 then 144 ≤ b ∧ b ≤ 191 else if a = 244 then 128 ≤ b ∧ b ≤ 143 else 128 ≤ b ∧ b ≤ 191
instance (a b : Int) : Decidable (sec a b) := by unfold sec; infer_instance
theorem sec_iff (a b : Int) : sec a b ↔ (128 ≤ b ∧ b ≤ 191 ∧ (a = 224 → 160 ≤ b) ∧ (a = 237 → b ≤ 159) ∧ (a = 240 → 144 ≤ b) ∧ (a = 244 → b ≤ 143)) := by
  unfold sec
  repeat' split
  all_goals omega
theorem second_some (a b : Int) : siglumref01_second.f a b = some (decide (sec a b)) := by
  unfold siglumref01_second.f sec; simp only [between_some, Option.bind_some]
  split
  · rfl
  · split
    · rfl
    · split
      · rfl
      · split <;> rfl
theorem fits_stop (k : Nat) (s : ByteArray) (i n x : Int) (h : ¬ (x < n ∧ wrap64 (i + x) < (s.size : Int))) : siglumref01_fits.l0 (k + 2) s i n x = some x := by
  rw [siglumref01_fits.l0]
  by_cases h1 : x < n
  · rw [if_pos h1, decide_eq_false (fun h2 => h ⟨h1, h2⟩), siglumref01_fits.j1, if_neg (by decide)]
  · rw [if_neg h1, siglumref01_fits.j1, if_neg (by decide)]
theorem fits_one (k : Nat) (s : ByteArray) (i n : Int) (h0 : 0 ≤ i) (hn : 1 < n) (hi : i + 1 < (s.size : Int)) (hs : s.size ≤ 4294967296) :
    siglumref01_fits.l0 (k + 2) s i n 1 = if sec (bt s i) (bt s (i + 1)) then siglumref01_fits.l0 k s i n 2 else some 1 := by
  have hw : wrap64 (i + 1) = i + 1 := wrap_small _ (by omega) (by omega); rw [siglumref01_fits.l0, if_pos hn, hw, decide_eq_true hi, siglumref01_fits.j1, if_pos rfl, hw, if_pos (by omega), if_pos hi, if_pos rfl, if_pos h0, if_pos (by omega), second_some]; simp only [Option.bind_some, decide_eq_true_eq]; rw [show wrap64 (1 + 1) = 2 from by unfold wrap64; omega]
  by_cases h : sec (bt s i) (bt s (i + 1))
  · rw [if_pos h, if_pos h, if_neg (by decide)]
  · rw [if_neg h, if_neg h]
theorem fits_more (k : Nat) (s : ByteArray) (i n x : Int) (h0 : 0 ≤ i) (h1 : 1 < x) (hx : x < 5) (hn : x < n) (hi : i + x < (s.size : Int)) (hs : s.size ≤ 4294967296) :
    siglumref01_fits.l0 (k + 2) s i n x = if 128 ≤ bt s (i + x) ∧ bt s (i + x) ≤ 191 then siglumref01_fits.l0 k s i n (x + 1) else some x := by
  have hw : wrap64 (i + x) = i + x := wrap_small _ (by omega) (by omega); have hw2 : wrap64 (x + 1) = x + 1 := wrap_small _ (by omega) (by omega); rw [siglumref01_fits.l0, if_pos hn, hw, decide_eq_true hi, siglumref01_fits.j1, if_pos rfl, hw, if_pos (by omega), if_pos hi, if_neg (by omega), if_pos (by omega), between_some, hw2]; simp only [Option.bind_some, decide_eq_true_eq]
def fitN (s : ByteArray) (i w : Int) : Int :=
  if 1 < w ∧ i + 1 < s.size ∧ sec (bt s i) (bt s (i + 1)) then
    (if 2 < w ∧ i + 2 < s.size ∧ (128 ≤ bt s (i + 2) ∧ bt s (i + 2) ≤ 191) then
      (if 3 < w ∧ i + 3 < s.size ∧ (128 ≤ bt s (i + 3) ∧ bt s (i + 3) ≤ 191) then 4 else 3) else 2) else 1
theorem fits_eq (k : Nat) (s : ByteArray) (i : Nat) (hi : i < s.size) (hs : s.size ≤ 4294967296) (hw : want (bt s i) ≠ 0) :
    siglumref01_fits.f (k + 10) s i = some (fitN s i (want (bt s i))) := by
  have hwr : want (bt s i) ≤ 4 := by unfold want; repeat' split <;> omega
  unfold siglumref01_fits.f; rw [if_pos (by omega), if_pos (by omega), wants_some]; simp only [Option.bind_some]; rw [if_neg hw]; generalize want (bt s i) = W at hwr hw ⊢; have w1 : wrap64 ((i : Int) + 1) = (i : Int) + 1 := wrap_small _ (by omega) (by omega); have w2 : wrap64 ((i : Int) + 2) = (i : Int) + 2 := wrap_small _ (by omega) (by omega); have w3 : wrap64 ((i : Int) + 3) = (i : Int) + 3 := wrap_small _ (by omega) (by omega); unfold fitN
  by_cases a1 : 1 < W ∧ (i : Int) + 1 < s.size
  · rw [fits_one (k + 8) s i W (by omega) a1.1 a1.2 hs]
    by_cases a2 : sec (bt s i) (bt s ((i : Int) + 1))
    · rw [if_pos a2, if_pos ⟨a1.1, a1.2, a2⟩]
      by_cases a3 : 2 < W ∧ (i : Int) + 2 < s.size
      · rw [fits_more (k + 6) s i W 2 (by omega) (by omega) (by omega) a3.1 a3.2 hs]
        by_cases a4 : 128 ≤ bt s ((i : Int) + 2) ∧ bt s ((i : Int) + 2) ≤ 191
        · rw [if_pos a4, if_pos (c := 2 < W ∧ (i : Int) + 2 < s.size ∧ (128 ≤ bt s ((i : Int) + 2) ∧ bt s ((i : Int) + 2) ≤ 191)) ⟨a3.1, a3.2, a4⟩, show (2 : Int) + 1 = 3 from rfl]
          by_cases a5 : 3 < W ∧ (i : Int) + 3 < s.size
          · rw [fits_more (k + 4) s i W 3 (by omega) (by omega) (by omega) a5.1 a5.2 hs]
            by_cases a6 : 128 ≤ bt s ((i : Int) + 3) ∧ bt s ((i : Int) + 3) ≤ 191
            · rw [if_pos a6, if_pos (c := 3 < W ∧ (i : Int) + 3 < s.size ∧ (128 ≤ bt s ((i : Int) + 3) ∧ bt s ((i : Int) + 3) ≤ 191)) ⟨a5.1, a5.2, a6⟩, show (3 : Int) + 1 = 4 from rfl]
              rw [fits_stop (k + 2) s i W 4 (by omega)]
            · rw [if_neg a6, if_neg (c := 3 < W ∧ (i : Int) + 3 < s.size ∧ (128 ≤ bt s ((i : Int) + 3) ∧ bt s ((i : Int) + 3) ≤ 191)) (fun e => a6 e.2.2)]
          · rw [fits_stop (k + 4) s i W 3 (by rw [w3]; exact a5), if_neg (c := 3 < W ∧ (i : Int) + 3 < s.size ∧ (128 ≤ bt s ((i : Int) + 3) ∧ bt s ((i : Int) + 3) ≤ 191)) (fun e => a5 ⟨e.1, e.2.1⟩)]
        · rw [if_neg a4, if_neg (c := 2 < W ∧ (i : Int) + 2 < s.size ∧ (128 ≤ bt s ((i : Int) + 2) ∧ bt s ((i : Int) + 2) ≤ 191)) (fun e => a4 e.2.2)]
      · rw [fits_stop (k + 6) s i W 2 (by rw [w2]; exact a3), if_neg (c := 2 < W ∧ (i : Int) + 2 < s.size ∧ (128 ≤ bt s ((i : Int) + 2) ∧ bt s ((i : Int) + 2) ≤ 191)) (fun e => a3 ⟨e.1, e.2.1⟩)]
    · rw [if_neg a2, if_neg (c := 1 < W ∧ (i : Int) + 1 < s.size ∧ sec (bt s i) (bt s ((i : Int) + 1))) (fun e => a2 e.2.2)]
  · rw [fits_stop (k + 8) s i W 1 (by rw [w1]; exact a1), if_neg (c := 1 < W ∧ (i : Int) + 1 < s.size ∧ sec (bt s i) (bt s ((i : Int) + 1))) (fun e => a1 ⟨e.1, e.2.1⟩)]
theorem two (x y : Int) (hx : 0 ≤ x) (hx2 : x < 256) (hy : 0 ≤ y) (hy2 : y < 256) :
    Go.bits .or .i32 (wrap32 ((wrap32 (Go.bits .and .u8 x 31)) * 64)) (wrap32 (Go.bits .and .u8 y 63)) = x % 32 * 64 + y % 64 := by
  rw [u8_and31 x hx hx2, u8_and63 y hy hy2, wrap32_small (x % 32) (by omega) (by omega), wrap32_small (y % 64) (by omega) (by omega), wrap32_small (x % 32 * 64) (by omega) (by omega)]; exact i32_or6 _ _ (by omega) (by omega) (by omega) (by omega) (by omega)
theorem three (x y z : Int) (hx : 0 ≤ x) (hx2 : x < 256) (hy : 0 ≤ y) (hy2 : y < 256) (hz : 0 ≤ z) (hz2 : z < 256) :
    Go.bits .or .i32 (Go.bits .or .i32 (wrap32 ((wrap32 (Go.bits .and .u8 x 15)) * 4096)) (wrap32 ((wrap32 (Go.bits .and .u8 y 63)) * 64))) (wrap32 (Go.bits .and .u8 z 63)) = x % 16 * 4096 + y % 64 * 64 + z % 64 := by
  rw [u8_and15 x hx hx2, u8_and63 y hy hy2, u8_and63 z hz hz2, wrap32_small (x % 16) (by omega) (by omega), wrap32_small (y % 64) (by omega) (by omega), wrap32_small (z % 64) (by omega) (by omega), wrap32_small (x % 16 * 4096) (by omega) (by omega), wrap32_small (y % 64 * 64) (by omega) (by omega)]; rw [i32_or12 (x % 16 * 4096) (y % 64 * 64) (by omega) (by omega) (by omega) (by omega) (by omega)]; exact i32_or6 _ _ (by omega) (by omega) (by omega) (by omega) (by omega)
theorem four (x y z u : Int) (hx : 0 ≤ x) (hx2 : x < 256) (hy : 0 ≤ y) (hy2 : y < 256) (hz : 0 ≤ z) (hz2 : z < 256) (hu : 0 ≤ u) (hu2 : u < 256) :
    Go.bits .or .i32 (Go.bits .or .i32 (Go.bits .or .i32 (wrap32 ((wrap32 (Go.bits .and .u8 x 7)) * 262144)) (wrap32 ((wrap32 (Go.bits .and .u8 y 63)) * 4096))) (wrap32 ((wrap32 (Go.bits .and .u8 z 63)) * 64))) (wrap32 (Go.bits .and .u8 u 63)) = x % 8 * 262144 + y % 64 * 4096 + z % 64 * 64 + u % 64 := by
  rw [u8_and7 x hx hx2, u8_and63 y hy hy2, u8_and63 z hz hz2, u8_and63 u hu hu2, wrap32_small (x % 8) (by omega) (by omega), wrap32_small (y % 64) (by omega) (by omega), wrap32_small (z % 64) (by omega) (by omega), wrap32_small (u % 64) (by omega) (by omega), wrap32_small (x % 8 * 262144) (by omega) (by omega), wrap32_small (y % 64 * 4096) (by omega) (by omega), wrap32_small (z % 64 * 64) (by omega) (by omega)]; rw [i32_or18 (x % 8 * 262144) (y % 64 * 4096) (by omega) (by omega) (by omega) (by omega) (by omega), i32_or12 (x % 8 * 262144 + y % 64 * 4096) (z % 64 * 64) (by omega) (by omega) (by omega) (by omega) (by omega)]; exact i32_or6 _ _ (by omega) (by omega) (by omega) (by omega) (by omega)
def tup (c : S93) : Int × Int × Int × Bool × Int := (c.f0, c.f1, c.f2, c.f3, c.f4)
theorem gCell_bad (s : ByteArray) (i : Nat) (h : Utf8.decode s i = (65533, 1)) : tup (gCell s i) = ((i : Int), 1, 65533, true, bt s i) := by
  have hb : Utf.bad s i = true := (Utf.bad_iff s i).2 (by rw [h]; exact ⟨rfl, rfl⟩); unfold tup gCell; rw [hb, h]
  rfl
theorem gCell_good (s : ByteArray) (i r k : Nat) (h : Utf8.decode s i = (r, k)) (hn : ¬ (r = 65533 ∧ k = 1)) : tup (gCell s i) = ((i : Int), (k : Int), (r : Int), false, 0) := by
  have hb : Utf.bad s i = false := Bool.eq_false_iff.2 (fun e => hn (by have := (Utf.bad_iff s i).1 e; rw [h] at this; exact this)); unfold tup gCell; rw [hb, h]
  rfl
set_option maxHeartbeats 2000000 in
theorem cell_eq (k : Nat) (s : ByteArray) (i : Nat) (hi : i < s.size) (hs : s.size ≤ 4294967296) : siglumref01_cell.f (k + 11) s i = some (tup (gCell s i)) := by
  have b0 := Utf.byte_lt s i; have b1 := Utf.byte_lt s (i + 1); have b2 := Utf.byte_lt s (i + 2); have b3 := Utf.byte_lt s (i + 3); have e0 := bt_nat s i hi; have e1 : i + 1 < s.size → bt s ((i : Int) + 1) = ((s.get! (i + 1)).toNat : Int) := fun h => bt_nat s (i + 1) h
  have e2 : i + 2 < s.size → bt s ((i : Int) + 2) = ((s.get! (i + 2)).toNat : Int) := fun h => bt_nat s (i + 2) h
  have e3 : i + 3 < s.size → bt s ((i : Int) + 3) = ((s.get! (i + 3)).toNat : Int) := fun h => bt_nat s (i + 3) h
  have w1 : wrap64 ((i : Int) + 1) = (i : Int) + 1 := wrap_small _ (by omega) (by omega); have w2 : wrap64 ((i : Int) + 2) = (i : Int) + 2 := wrap_small _ (by omega) (by omega); have w3 : wrap64 ((i : Int) + 3) = (i : Int) + 3 := wrap_small _ (by omega) (by omega); have hd := Lib.decode_at s i
  have hbad : ∀ W, siglumref01_cell.j0 (k + 11) s i W true = some ((i : Int), 1, 65533, true, bt s i) := by
    intro W; rw [siglumref01_cell.j0, if_pos rfl, if_pos (by omega), if_pos (by omega)]
  unfold siglumref01_cell.f; rw [if_pos (by omega), if_pos (by omega), wants_some]; simp only [Option.bind_some]; obtain ⟨W, hW⟩ : ∃ W, want (bt s i) = W := ⟨_, rfl⟩
  have hr : (W = 0 ∨ W = 1 ∨ W = 2 ∨ W = 3 ∨ W = 4) := by rw [← hW]; unfold want; repeat' split <;> omega
  by_cases hw : W = 0
  · rw [hW, if_pos hw, hbad, gCell_bad]
    rw [hd]; rw [e0, hw] at hW; unfold want at hW; unfold Lib.decodeN
    repeat' split
    all_goals first | rfl | (exfalso; repeat' split at hW; all_goals omega)
  · rw [if_neg (by rw [hW]; exact hw), fits_eq (k + 1) s i hi hs (by rw [hW]; exact hw), hW]
    simp only [Option.bind_some]; generalize hB0 : (s.get! i).toNat = B0 at *
    generalize hB1 : (s.get! (i + 1)).toNat = B1 at *
    generalize hB2 : (s.get! (i + 2)).toNat = B2 at *
    generalize hB3 : (s.get! (i + 3)).toNat = B3 at *
    unfold fitN
    rcases hr with rfl | rfl | rfl | rfl | rfl
    · exact absurd rfl hw
    · rw [if_neg (by omega), decide_eq_false (by omega), siglumref01_cell.j0, if_neg (by decide), if_pos (by omega), if_pos (by omega), if_neg (by decide), if_neg (by decide), if_neg (by decide)]
      rw [e0] at hW ⊢; have hb : B0 < 128 := by unfold want at hW; repeat' split at hW; all_goals omega
      rw [wrap32_small _ (by omega) (by omega), gCell_good s i B0 1 (by rw [hd]; unfold Lib.decodeN; rw [if_pos hb]) (by omega)]
      rfl
    · have hb : 194 ≤ B0 ∧ B0 ≤ 223 := by rw [e0] at hW; unfold want at hW; repeat' split at hW; all_goals omega
      by_cases a1 : (1 : Int) < 2 ∧ (i : Int) + 1 < s.size ∧ sec (bt s i) (bt s ((i : Int) + 1))
      · rw [if_pos a1, if_neg (by omega), decide_eq_false (by omega), siglumref01_cell.j0, if_neg (by decide), if_pos (by omega), if_pos (by omega), if_pos rfl, w1, if_pos (by omega), if_pos (by omega)]
        have E1 := e1 (by omega); have A2 := a1.2.2; rw [e0, E1] at A2 ⊢; have A3 : 128 ≤ B1 ∧ B1 ≤ 191 := by rw [sec_iff] at A2; omega
        rw [two _ _ (by omega) (by omega) (by omega) (by omega), gCell_good s i (B0 % 32 * 64 + B1 % 64) 2 (by rw [hd]; unfold Lib.decodeN; rw [if_neg (by omega), if_pos (by omega), if_pos (by omega)]) (by omega)]
        simp
      · rw [if_neg a1, decide_eq_true (by omega), hbad, gCell_bad]
        rw [hd]
        have a2 : ¬ (i + 1 < s.size ∧ 128 ≤ B1 ∧ B1 ≤ 191) := fun e => a1 ⟨by omega, by omega, by
          rw [e0, e1 e.1]; rw [sec_iff]
          omega⟩
        unfold Lib.decodeN; rw [if_neg (by omega), if_neg (by omega), if_neg (by omega), if_neg (by omega)]
    · have hb : 224 ≤ B0 ∧ B0 ≤ 239 := by rw [e0] at hW; unfold want at hW; repeat' split at hW; all_goals omega
      by_cases a1 : (1 : Int) < 3 ∧ (i : Int) + 1 < s.size ∧ sec (bt s i) (bt s ((i : Int) + 1))
      · have E1 := e1 (by omega)
        have A2 := a1.2.2; rw [if_pos a1]; rw [e0, E1] at A2; have A3 : 128 ≤ B1 ∧ B1 ≤ 191 := by rw [sec_iff] at A2; omega
        by_cases a3 : (2 : Int) < 3 ∧ (i : Int) + 2 < s.size ∧ (128 ≤ bt s ((i : Int) + 2) ∧ bt s ((i : Int) + 2) ≤ 191)
        · rw [if_pos a3, if_neg (by omega), decide_eq_false (by omega), siglumref01_cell.j0, if_neg (by decide), if_pos (by omega), if_pos (by omega), if_neg (by decide), if_pos rfl, w1, w2, if_pos (by omega), if_pos (by omega), if_pos (by omega), if_pos (by omega)]
          have E2 := e2 (by omega); have A4 := a3.2.2; rw [E2] at A4
          have A5 : 2048 ≤ B0 % 16 * 4096 + B1 % 64 * 64 + B2 % 64 ∧ (B0 % 16 * 4096 + B1 % 64 * 64 + B2 % 64 < 55296 ∨ 57344 ≤ B0 % 16 * 4096 + B1 % 64 * 64 + B2 % 64) := by
            rw [sec_iff] at A2
            omega
          rw [e0, E1, E2, three _ _ _ (by omega) (by omega) (by omega) (by omega) (by omega) (by omega), gCell_good s i (B0 % 16 * 4096 + B1 % 64 * 64 + B2 % 64) 3 (by rw [hd]; unfold Lib.decodeN; rw [if_neg (by omega), if_neg (by omega), if_pos (by omega), if_pos (by omega)]) (by omega)]
          simp
        · rw [if_neg a3, decide_eq_true (by omega), hbad, gCell_bad]
          rw [hd]; have a4 : ¬ (i + 2 < s.size ∧ 128 ≤ B2 ∧ B2 ≤ 191) := fun e => a3 ⟨by omega, by omega, by rw [e2 e.1]; omega⟩
          unfold Lib.decodeN; rw [if_neg (by omega), if_neg (by omega), if_neg (by omega), if_neg (by omega)]
      · rw [if_neg a1, decide_eq_true (by omega), hbad, gCell_bad]
        rw [hd]; have a2 : i + 1 < s.size → ¬ sec (B0 : Int) (B1 : Int) := fun e h => a1 ⟨by omega, by omega, by rw [e0, e1 e]; exact h⟩
        rw [sec_iff] at a2; unfold Lib.decodeN; rw [if_neg (by omega), if_neg (by omega)]
        by_cases c1 : B0 / 16 = 14 ∧ (1 < s.size - i ∧ B1 / 64 = 2) ∧ (2 < s.size - i ∧ B2 / 64 = 2)
        · rw [if_pos c1, if_neg]
          intro c2; refine a2 (by omega) ?_
          omega
        · rw [if_neg c1, if_neg (by omega)]
    · have hb : 240 ≤ B0 ∧ B0 ≤ 244 := by rw [e0] at hW; unfold want at hW; repeat' split at hW; all_goals omega
      by_cases a1 : (1 : Int) < 4 ∧ (i : Int) + 1 < s.size ∧ sec (bt s i) (bt s ((i : Int) + 1))
      · have E1 := e1 (by omega)
        have A2 := a1.2.2; rw [if_pos a1]; rw [e0, E1] at A2; have A3 : 128 ≤ B1 ∧ B1 ≤ 191 := by rw [sec_iff] at A2; omega
        by_cases a3 : (2 : Int) < 4 ∧ (i : Int) + 2 < s.size ∧ (128 ≤ bt s ((i : Int) + 2) ∧ bt s ((i : Int) + 2) ≤ 191)
        · have E2 := e2 (by omega)
          have A4 := a3.2.2; rw [if_pos a3]; rw [E2] at A4
          by_cases a5 : (3 : Int) < 4 ∧ (i : Int) + 3 < s.size ∧ (128 ≤ bt s ((i : Int) + 3) ∧ bt s ((i : Int) + 3) ≤ 191)
          · rw [if_pos a5, decide_eq_false (by omega), siglumref01_cell.j0, if_neg (by decide), if_pos (by omega), if_pos (by omega), if_neg (by decide), if_neg (by decide), if_pos rfl, w1, w2, w3, if_pos (by omega), if_pos (by omega), if_pos (by omega), if_pos (by omega), if_pos (by omega), if_pos (by omega)]
            have E3 := e3 (by omega); have A6 := a5.2.2; rw [E3] at A6
            have A7 : 65536 ≤ B0 % 8 * 262144 + B1 % 64 * 4096 + B2 % 64 * 64 + B3 % 64 ∧ B0 % 8 * 262144 + B1 % 64 * 4096 + B2 % 64 * 64 + B3 % 64 ≤ 1114111 := by
              rw [sec_iff] at A2
              omega
            rw [e0, E1, E2, E3, four _ _ _ _ (by omega) (by omega) (by omega) (by omega) (by omega) (by omega) (by omega) (by omega), gCell_good s i (B0 % 8 * 262144 + B1 % 64 * 4096 + B2 % 64 * 64 + B3 % 64) 4 (by rw [hd]; unfold Lib.decodeN; rw [if_neg (by omega), if_neg (by omega), if_neg (by omega), if_pos (by omega), if_pos (by omega)]) (by omega)]
            simp
          · rw [if_neg a5, decide_eq_true (by omega), hbad, gCell_bad]
            rw [hd]; have a6 : ¬ (i + 3 < s.size ∧ 128 ≤ B3 ∧ B3 ≤ 191) := fun e => a5 ⟨by omega, by omega, by rw [e3 e.1]; omega⟩
            unfold Lib.decodeN; rw [if_neg (by omega), if_neg (by omega), if_neg (by omega), if_neg (by omega)]
        · rw [if_neg a3, decide_eq_true (by omega), hbad, gCell_bad]
          rw [hd]; have a4 : ¬ (i + 2 < s.size ∧ 128 ≤ B2 ∧ B2 ≤ 191) := fun e => a3 ⟨by omega, by omega, by rw [e2 e.1]; omega⟩
          unfold Lib.decodeN; rw [if_neg (by omega), if_neg (by omega), if_neg (by omega), if_neg (by omega)]
      · rw [if_neg a1, decide_eq_true (by omega), hbad, gCell_bad]
        rw [hd]; have a2 : i + 1 < s.size → ¬ sec (B0 : Int) (B1 : Int) := fun e h => a1 ⟨by omega, by omega, by rw [e0, e1 e]; exact h⟩
        rw [sec_iff] at a2; unfold Lib.decodeN; rw [if_neg (by omega), if_neg (by omega), if_neg (by omega)]
        by_cases c1 : B0 / 8 = 30 ∧ (1 < s.size - i ∧ B1 / 64 = 2) ∧ (2 < s.size - i ∧ B2 / 64 = 2) ∧ (3 < s.size - i ∧ B3 / 64 = 2)
        · rw [if_pos c1, if_neg]
          intro c2; refine a2 (by omega) ?_
          omega
        · rw [if_neg c1]
theorem cells_loop (s : ByteArray) (hs : s.size ≤ 4294967296) : ∀ (fuel pos k : Nat) (acc : List S93), s.size ≤ pos + fuel → pos ≤ s.size → acc.length ≤ pos → fuel + 12 ≤ k →
    siglumref01_Cells.l0 k s acc pos = some (acc ++ gCells s fuel pos)
  | fuel, pos, k, acc, h1, h2, h3, h4 => by
    obtain ⟨m, rfl⟩ : ∃ m, k = m + 11 + 1 := ⟨k - 12, by omega⟩
    rw [siglumref01_Cells.l0]
    by_cases hp : pos < s.size
    · obtain ⟨f, rfl⟩ : ∃ f, fuel = f + 1 := ⟨fuel - 1, by omega⟩
      rw [if_pos (by omega), cell_eq m s pos hp hs, Option.bind_some, if_pos (by omega), gCells_step s f pos hp]; have hw := Utf.width_pos s pos hp; have hl := Utf.width_le s pos hp
      have : wrap64 ((pos : Int) + (tup (gCell s pos)).2.1) = ((pos + (Utf8.decode s pos).2 : Nat) : Int) := by
        show wrap64 ((pos : Int) + ((Utf8.decode s pos).2 : Int)) = _
        rw [wrap_small _ (by omega) (by omega)]
        simp
      rw [this, cells_loop s hs f (pos + (Utf8.decode s pos).2) (m + 11) _ (by omega) hl (by simp; omega) (by omega)]
      simp [tup]
    · rw [if_neg (by omega), gCells_end s fuel pos hp, List.append_nil]
theorem cells_eq (k : Nat) (s : ByteArray) (hs : s.size ≤ 4294967296) (hk : s.size + 12 ≤ k) : siglumref01_Cells.f k s = some (gCells s s.size 0) := by
  unfold siglumref01_Cells.f; have := cells_loop s hs s.size 0 k [] (by omega) (by omega) (by simp) hk
  simpa using this
end Pl
end Go.Proofs.YtbpinnanfanaaaaDoor.L
/-
  Plain facts on the model's Utf8.encode and Utf8.decode: encoding is the library's table; what was decoded from good bytes encodes to just those bytes.
-/
namespace Go.Proofs.YtbpinnanfanaaaaDoor.Utf
open Go.RowKit
theorem valid_iff (r : Int) : Utf8.valid r = true ↔ (0 ≤ r ∧ r < 55296) ∨ (57343 < r ∧ r ≤ 1114111) := by
  simp [Utf8.valid]
  omega
theorem encode_list (r : Int) : (Utf8.encode r).data.toList = Lib.encodeRune r := by
  unfold Utf8.encode Lib.encodeRune
  by_cases hv : Utf8.valid r = true
  · have h := (valid_iff r).1 hv
    simp only [hv, if_true]
    by_cases c1 : r.toNat < 128
    · rw [if_pos c1, Lib.encodeRuneZ_one (by omega) (by omega)]
      rfl
    · rw [if_neg c1]
      by_cases c2 : r.toNat < 2048
      · rw [if_pos c2, Lib.encodeRuneZ_two (by omega) (by omega)]
        simp only [List.map_cons, List.map_nil]; rw [show (192 + r / 64).toNat = 192 + r.toNat / 64 from by omega, show (128 + r % 64).toNat = 128 + r.toNat % 64 from by omega]
      · rw [if_neg c2]
        by_cases c3 : r.toNat < 65536
        · rw [if_pos c3, Lib.encodeRuneZ_three (by omega)]
          simp only [List.map_cons, List.map_nil]; rw [show (224 + r / 4096).toNat = 224 + r.toNat / 4096 from by omega, show (128 + r / 64 % 64).toNat = 128 + r.toNat / 64 % 64 from by omega, show (128 + r % 64).toNat = 128 + r.toNat % 64 from by omega]
        · rw [if_neg c3, Lib.encodeRuneZ_four (by omega) (by omega)]
          simp only [List.map_cons, List.map_nil]; rw [show (240 + r / 262144).toNat = 240 + r.toNat / 262144 from by omega, show (128 + r / 4096 % 64).toNat = 128 + r.toNat / 4096 % 64 from by omega, show (128 + r / 64 % 64).toNat = 128 + r.toNat / 64 % 64 from by omega, show (128 + r % 64).toNat = 128 + r.toNat % 64 from by omega]
  · have h : r < 0 ∨ (55296 ≤ r ∧ r ≤ 57343) ∨ 1114111 < r := by
      have := mt (valid_iff r).2 hv
      omega
    simp only [Bool.not_eq_true] at hv; simp only [hv, Bool.false_eq_true, if_false]; rw [Lib.encodeRuneZ_bad h]
    decide
theorem drop_ne (s : ByteArray) (i : Nat) (h : i < s.size) : s.data.toList.drop i ≠ [] := by
  intro e; have := congrArg List.length e; rw [List.length_drop, Array.length_toList] at this; have h2 : s.data.size = s.size := rfl
  simp at this
  omega
theorem encode_bytes (s : ByteArray) (i : Nat) (h : i < s.size) (hb : bad s i = false) : (Utf8.encode ((Utf8.decode s i).1 : Int)).data.toList = (s.data.toList.drop i).take (Utf8.decode s i).2 := by
  have hn : ¬ ((Utf8.decode s i).1 = 65533 ∧ (Utf8.decode s i).2 = 1) := fun e => by rw [(bad_iff s i).2 e] at hb; cases hb
  rw [encode_list, ← Lib.decodeL_drop]; rw [← Lib.decodeL_drop] at hn; exact Lib.encode_decode _ (drop_ne s i h) hn
theorem bad_bytes (s : ByteArray) (i : Nat) (h : i < s.size) : [s.get! i] = (s.data.toList.drop i).take 1 := by
  have e : s.data.toList.drop i = s.data.toList[i]'(by simpa using h) :: s.data.toList.drop (i + 1) := List.drop_eq_getElem_cons (by simpa using h); rw [e, get_lt s i h]
  rfl
end Go.Proofs.YtbpinnanfanaaaaDoor.Utf
/-
  Plain facts on the list of a text's cells: its length is the runes' number, its runes are the text's, its bytes give the text back; the document's written runes are the model's encoding.
-/
namespace Go.Proofs.YtbpinnanfanaaaaDoor.L
open Go.RowKit Go.Proofs.YtbpinnanfanaaaaDoorW.PrintWords Go.Proofs.YtbpinnanfanaaaaDoorW.PrintLast
namespace Pl
theorem get_rd (l : List S93) (i : Nat) (h : i < l.length) : rd_T93 l (i : Int) = l[i] := by
  unfold rd_T93; rw [Int.toNat_natCast, List.getD_eq_getElem?_getD, List.getElem?_eq_getElem h]
  rfl
theorem cells_count (s : ByteArray) : ∀ f i, (gCells s f i).length = Lib.runeCountFrom s f i
  | 0, _ => rfl
  | f + 1, i => by
    unfold gCells Lib.runeCountFrom
    split
    · rw [List.length_cons, cells_count s f]; omega
    · rfl
theorem cells_length (s : ByteArray) : (gCells s s.size 0).length = Lib.runeCount s := cells_count s s.size 0
theorem cells_le (s : ByteArray) : (gCells s s.size 0).length ≤ s.size := by rw [cells_length]; exact Lib.runeCount_le s
theorem cell_byte (s : ByteArray) (i : Nat) : 0 ≤ (gCell s i).f4 ∧ (gCell s i).f4 < 256 := by
  show 0 ≤ (if Utf.bad s i = true then bt s i else 0) ∧ (if Utf.bad s i = true then bt s i else 0) < 256
  split
  · unfold bt
    split
    · rename_i h
      have := (s[((i : Int)).toNat]'h).toNat_lt
      omega
    · omega
  · omega
theorem cells_byte (s : ByteArray) : ∀ f i, ∀ c ∈ gCells s f i, 0 ≤ c.f4 ∧ c.f4 < 256
  | 0, _, c, h => by cases h
  | f + 1, i, c, h => by
    unfold gCells at h
    split at h
    · rcases List.mem_cons.1 h with rfl | h
      · exact cell_byte s i
      · exact cells_byte s f _ c h
    · cases h
theorem and63 (x : Int) (h0 : 0 ≤ x) (h : x < 2147483648) : Go.bits .and .i32 x 63 = x % 64 := bits_mask .i32 31 (by decide) wraps_i32 6 (by decide) x h0 h
theorem written_eq (k : Nat) (r : Int) : siglumref01_written.f (k + 2) r = some (Lib.encodeRuneZ r) := by
  have h1 : ∀ r : Int, 0 ≤ r → r ≤ 1114111 → (r < 55296 ∨ 57343 < r) → siglumref01_written.j1 (k + 1) r = some (Lib.encodeRuneZ r) := by
    intro r h0 h1 h2; rw [siglumref01_written.j1]
    by_cases c1 : r < 128
    · rw [if_pos c1, Lib.encodeRuneZ_one h0 (by omega), Int.emod_eq_of_lt h0 (by omega)]
    · rw [if_neg c1]
      by_cases c2 : r < 2048
      · rw [if_pos c2, Lib.encodeRuneZ_two (by omega) (by omega), and63 r (by omega) (by omega), Int.emod_eq_of_lt (a := r / 64) (by omega) (by omega), Int.emod_eq_of_lt (a := r % 64) (by omega) (by omega), u8_or192 (r / 64) (by omega) (by omega), u8_or128 (r % 64) (by omega) (by omega)]
      · rw [if_neg c2]
        by_cases c3 : r < 65536
        · rw [if_pos c3, Lib.encodeRuneZ_three (by omega), and63 r (by omega) (by omega), and63 (r / 64) (by omega) (by omega), Int.emod_eq_of_lt (a := r / 4096) (by omega) (by omega), Int.emod_eq_of_lt (a := r / 64 % 64) (by omega) (by omega), Int.emod_eq_of_lt (a := r % 64) (by omega) (by omega), u8_or224 (r / 4096) (by omega) (by omega), u8_or128 (r / 64 % 64) (by omega) (by omega), u8_or128 (r % 64) (by omega) (by omega)]
        · rw [if_neg c3, Lib.encodeRuneZ_four (by omega) (by omega), and63 r (by omega) (by omega), and63 (r / 64) (by omega) (by omega), and63 (r / 4096) (by omega) (by omega), Int.emod_eq_of_lt (a := r / 262144) (by omega) (by omega), Int.emod_eq_of_lt (a := r / 4096 % 64) (by omega) (by omega), Int.emod_eq_of_lt (a := r / 64 % 64) (by omega) (by omega), Int.emod_eq_of_lt (a := r % 64) (by omega) (by omega), u8_or240 (r / 262144) (by omega) (by omega), u8_or128 (r / 4096 % 64) (by omega) (by omega), u8_or128 (r / 64 % 64) (by omega) (by omega), u8_or128 (r % 64) (by omega) (by omega)]
  have hbad : (r < 0 ∨ (55296 ≤ r ∧ r ≤ 57343) ∨ 1114111 < r) → siglumref01_written.j0 (k + 2) r true = some (Lib.encodeRuneZ r) := by
    intro h; rw [siglumref01_written.j0, if_pos rfl, h1 65533 (by omega) (by omega) (by omega), Lib.encodeRuneZ_bad h]
    rfl
  unfold siglumref01_written.f
  by_cases c1 : r < 0
  · rw [if_pos c1, hbad (by omega)]
  · rw [if_neg c1]
    by_cases c2 : r > 1114111
    · rw [if_pos c2, hbad (by omega)]
    · rw [if_neg c2]
      by_cases c3 : r ≥ 55296
      · rw [if_pos c3]
        by_cases c4 : r ≤ 57343
        · rw [decide_eq_true c4, hbad (by omega)]
        · rw [decide_eq_false c4, siglumref01_written.j0, if_neg (by decide), h1 r (by omega) (by omega) (by omega)]
      · rw [if_neg c3, siglumref01_written.j0, if_neg (by decide), h1 r (by omega) (by omega) (by omega)]
theorem written_ge (k : Nat) (r : Int) (h : 2 ≤ k) : siglumref01_written.f k r = some (Lib.encodeRuneZ r) := by
  obtain ⟨m, rfl⟩ : ∃ m, k = m + 2 := ⟨k - 2, by omega⟩
  exact written_eq m r
theorem strOf_append (a b : List Int) : (strOfNums (a ++ b)).data.toList = (strOfNums a).data.toList ++ (strOfNums b).data.toList := by simp [strOfNums]
theorem strOf_rune (r : Int) : (strOfNums (Lib.encodeRuneZ r)).data.toList = (Utf8.encode r).data.toList := by
  rw [Utf.encode_list]
  simp [strOfNums, Lib.encodeRune]
end Pl
end Go.Proofs.YtbpinnanfanaaaaDoor.L
/-
  The edit distance of two lists: the least number of edits; what holds of it (no program in sight).
-/
namespace Go.Proofs.YtbpinnanfanaaaaDoor.Lv
inductive Ed {α : Type} : Nat → List α → List α → Prop
  | nil : Ed 0 [] []
  | keep {n xs ys} (x : α) : Ed n xs ys → Ed n (x :: xs) (x :: ys)
  | swap {n xs ys} (x y : α) : Ed n xs ys → Ed (n + 1) (x :: xs) (y :: ys)
  | cut {n xs ys} (x : α) : Ed n xs ys → Ed (n + 1) (x :: xs) ys
  | put {n xs ys} (y : α) : Ed n xs ys → Ed (n + 1) xs (y :: ys)
def levGo {α : Type} [DecidableEq α] (x : α) (n : Nat) (f : List α → Nat) : List α → Nat
  | [] => n + 1
  | y :: ys => min (f ys + if x = y then 0 else 1) (min (f (y :: ys) + 1) (levGo x n f ys + 1))
def lev {α : Type} [DecidableEq α] : List α → List α → Nat
  | [], ys => ys.length
  | x :: xs, ys => levGo x xs.length (lev xs) ys
theorem lev_nil {α : Type} [DecidableEq α] (ys : List α) : lev [] ys = ys.length := rfl
theorem lev_nil' {α : Type} [DecidableEq α] (xs : List α) : lev xs [] = xs.length := by cases xs <;> rfl
theorem lev_cons {α : Type} [DecidableEq α] (x y : α) (xs ys : List α) : lev (x :: xs) (y :: ys) = min (lev xs ys + if x = y then 0 else 1) (min (lev xs (y :: ys) + 1) (lev (x :: xs) ys + 1)) := rfl
theorem Ed.cuts {α : Type} : ∀ xs : List α, Ed xs.length xs []
  | [] => .nil
  | x :: xs => .cut x (Ed.cuts xs)
theorem Ed.puts {α : Type} : ∀ ys : List α, Ed ys.length [] ys
  | [] => .nil
  | y :: ys => .put y (Ed.puts ys)
theorem ed_lev {α : Type} [DecidableEq α] : ∀ xs ys : List α, Ed (lev xs ys) xs ys
  | [], ys => by rw [lev_nil]; exact Ed.puts ys
  | x :: xs, [] => by rw [lev_nil']; exact Ed.cuts _
  | x :: xs, y :: ys => by
    have h1 := ed_lev xs ys; have h2 := ed_lev xs (y :: ys); have h3 := ed_lev (x :: xs) ys; rw [lev_cons]; generalize lev xs ys = a at *
    generalize lev xs (y :: ys) = b at *
    generalize lev (x :: xs) ys = c at *
    rcases Nat.le_total (a + if x = y then 0 else 1) (min (b + 1) (c + 1)) with h | h
    · rw [Nat.min_eq_left h]
      by_cases e : x = y
      · subst e; rw [if_pos rfl]; exact .keep x h1
      · rw [if_neg e]; exact .swap x y h1
    · rw [Nat.min_eq_right h]
      rcases Nat.le_total (b + 1) (c + 1) with h' | h'
      · rw [Nat.min_eq_left h']; exact .cut x h2
      · rw [Nat.min_eq_right h']; exact .put y h3
termination_by xs ys => xs.length + ys.length
theorem lev_tail_le {α : Type} [DecidableEq α] (x : α) (xs ys : List α) : lev (x :: xs) ys ≤ lev xs ys + 1 := by
  cases ys with
  | nil => rw [lev_nil', lev_nil']; simp
  | cons y ys => rw [lev_cons]; omega
theorem lev_put_le {α : Type} [DecidableEq α] (y : α) (xs ys : List α) : lev xs (y :: ys) ≤ lev xs ys + 1 := by
  cases xs with
  | nil => rw [lev_nil, lev_nil]; simp
  | cons x xs => rw [lev_cons]; omega
theorem lev_le {α : Type} [DecidableEq α] {n : Nat} {xs ys : List α} (h : Ed n xs ys) : lev xs ys ≤ n := by
  induction h with
  | nil => rw [lev_nil]; simp
  | keep x _ ih => rw [lev_cons, if_pos rfl]; omega
  | swap x y _ ih => rw [lev_cons]; split <;> omega
  | @cut _ xs ys x _ ih => have := lev_tail_le x xs ys; omega
  | @put _ xs ys y _ ih => have := lev_put_le y xs ys; omega
theorem Ed.symm {α : Type} {n : Nat} {xs ys : List α} (h : Ed n xs ys) : Ed n ys xs := by
  induction h with
  | nil => exact .nil
  | keep x _ ih => exact .keep x ih
  | swap x y _ ih => exact .swap y x ih
  | cut x _ ih => exact .put x ih
  | put y _ ih => exact .cut y ih
theorem Ed.append {α : Type} {n m : Nat} {xs ys us vs : List α} (h : Ed n xs ys) (g : Ed m us vs) : Ed (n + m) (xs ++ us) (ys ++ vs) := by
  induction h with
  | nil => simpa using g
  | keep x _ ih => exact .keep x ih
  | @swap n xs ys x y _ ih => have := Ed.swap x y ih; rwa [show n + m + 1 = n + 1 + m by omega] at this
  | @cut n xs ys x _ ih => have := Ed.cut x ih; rwa [show n + m + 1 = n + 1 + m by omega] at this
  | @put n xs ys y _ ih => have := Ed.put y ih; rwa [show n + m + 1 = n + 1 + m by omega] at this
theorem Ed.same {α : Type} : ∀ xs : List α, Ed 0 xs xs
  | [] => .nil
  | x :: xs => .keep x (Ed.same xs)
theorem Ed.rev {α : Type} {n : Nat} {xs ys : List α} (h : Ed n xs ys) : Ed n xs.reverse ys.reverse := by
  induction h with
  | nil => exact .nil
  | keep x _ ih => have := ih.append (Ed.same [x]); simpa using this
  | swap x y _ ih => have := ih.append (Ed.swap x y .nil); simpa using this
  | cut x _ ih => have := ih.append (Ed.cut x .nil); simpa using this
  | put y _ ih => have := ih.append (Ed.put y .nil); simpa using this
theorem lev_rev_le {α : Type} [DecidableEq α] (xs ys : List α) : lev xs.reverse ys.reverse ≤ lev xs ys := lev_le (ed_lev xs ys).rev
theorem lev_rev {α : Type} [DecidableEq α] (xs ys : List α) : lev xs.reverse ys.reverse = lev xs ys :=
  Nat.le_antisymm (lev_rev_le xs ys) (by have := lev_rev_le xs.reverse ys.reverse; simpa using this)
theorem lev_snoc {α : Type} [DecidableEq α] (x y : α) (xs ys : List α) : lev (xs ++ [x]) (ys ++ [y]) = min (lev xs ys + if x = y then 0 else 1) (min (lev xs (ys ++ [y]) + 1) (lev (xs ++ [x]) ys + 1)) := by
  rw [← lev_rev xs ys, ← lev_rev (xs ++ [x]) (ys ++ [y]), ← lev_rev xs (ys ++ [y]), ← lev_rev (xs ++ [x]) ys]; simp only [List.reverse_append, List.reverse_cons, List.reverse_nil, List.nil_append, List.singleton_append]; exact lev_cons x y _ _
theorem lev_self {α : Type} [DecidableEq α] (xs : List α) : lev xs xs = 0 := Nat.le_zero.1 (lev_le (Ed.same xs))
theorem ed_zero {α : Type} {n : Nat} {xs ys : List α} (h : Ed n xs ys) (hn : n = 0) : xs = ys := by
  induction h with
  | nil => rfl
  | keep x _ ih => rw [ih hn]
  | swap x y _ ih => cases hn
  | cut x _ ih => cases hn
  | put y _ ih => cases hn
theorem lev_zero {α : Type} [DecidableEq α] {xs ys : List α} : lev xs ys = 0 ↔ xs = ys :=
  ⟨fun h => ed_zero (ed_lev xs ys) h, fun h => by subst h; exact lev_self xs⟩
theorem ed_trans {α : Type} : ∀ (s : Nat) {n m : Nat} {xs ys zs : List α}, Ed n xs ys → Ed m ys zs → xs.length + ys.length + zs.length ≤ s → ∃ k, k ≤ n + m ∧ Ed k xs zs := by
  intro s
  induction s with
  | zero =>
    intro n m xs ys zs h g hs; obtain rfl : xs = [] := List.eq_nil_of_length_eq_zero (by omega); obtain rfl : zs = [] := List.eq_nil_of_length_eq_zero (by omega); exact ⟨0, by omega, .nil⟩
  | succ s ih =>
    intro n m xs ys zs h g hs
    cases h with
    | nil => exact ⟨m, by omega, g⟩
    | @cut n xs _ x h =>
      obtain ⟨k, hk, e⟩ := ih h g (by simp at hs; omega); exact ⟨k + 1, by omega, .cut x e⟩
    | @keep n xs ys x h =>
      cases g with
      | @keep m _ zs _ g => obtain ⟨k, hk, e⟩ := ih h g (by simp at hs; omega); exact ⟨k, hk, .keep x e⟩
      | @swap m _ zs _ y g => obtain ⟨k, hk, e⟩ := ih h g (by simp at hs; omega); exact ⟨k + 1, by omega, .swap x y e⟩
      | @cut m _ _ _ g => obtain ⟨k, hk, e⟩ := ih h g (by simp at hs; omega); exact ⟨k + 1, by omega, .cut x e⟩
      | @put m _ zs z g => obtain ⟨k, hk, e⟩ := ih (Ed.keep x h) g (by simp at hs ⊢; omega); exact ⟨k + 1, by omega, .put z e⟩
    | @swap n xs ys x y h =>
      cases g with
      | @keep m _ zs _ g => obtain ⟨k, hk, e⟩ := ih h g (by simp at hs; omega); exact ⟨k + 1, by omega, .swap x y e⟩
      | @swap m _ zs _ z g => obtain ⟨k, hk, e⟩ := ih h g (by simp at hs; omega); exact ⟨k + 1, by omega, .swap x z e⟩
      | @cut m _ _ _ g => obtain ⟨k, hk, e⟩ := ih h g (by simp at hs; omega); exact ⟨k + 1, by omega, .cut x e⟩
      | @put m _ zs z g => obtain ⟨k, hk, e⟩ := ih (Ed.swap x y h) g (by simp at hs ⊢; omega); exact ⟨k + 1, by omega, .put z e⟩
    | @put n _ ys y h =>
      cases g with
      | @keep m _ zs _ g => obtain ⟨k, hk, e⟩ := ih h g (by simp at hs; omega); exact ⟨k + 1, by omega, .put y e⟩
      | @swap m _ zs _ z g => obtain ⟨k, hk, e⟩ := ih h g (by simp at hs; omega); exact ⟨k + 1, by omega, .put z e⟩
      | @cut m _ _ _ g => obtain ⟨k, hk, e⟩ := ih h g (by simp at hs; omega); exact ⟨k, by omega, e⟩
      | @put m _ zs z g => obtain ⟨k, hk, e⟩ := ih (Ed.put y h) g (by simp at hs ⊢; omega); exact ⟨k + 1, by omega, .put z e⟩
theorem lev_trans {α : Type} [DecidableEq α] (xs ys zs : List α) : lev xs zs ≤ lev xs ys + lev ys zs := by
  obtain ⟨k, hk, e⟩ := ed_trans _ (ed_lev xs ys) (ed_lev ys zs) (Nat.le_refl _); exact Nat.le_trans (lev_le e) hk
theorem lev_max {α : Type} [DecidableEq α] : ∀ xs ys : List α, lev xs ys ≤ max xs.length ys.length
  | [], ys => by rw [lev_nil]; simp
  | x :: xs, [] => by rw [lev_nil']; simp
  | x :: xs, y :: ys => by
    have := lev_max xs ys; rw [lev_cons]; simp only [List.length_cons]; split <;> omega
theorem lev_keep {α : Type} [DecidableEq α] (x : α) (xs ys : List α) : lev (x :: xs) (x :: ys) = lev xs ys := by
  have h1 : lev xs ys ≤ lev xs (x :: ys) + 1 := lev_le (by
    have := ed_trans _ (ed_lev xs (x :: ys)) (Ed.cut x (Ed.same ys)) (Nat.le_refl _)
    exact (ed_lev xs ys)) |> fun _ => by
      obtain ⟨k, hk, e⟩ := ed_trans _ (ed_lev xs (x :: ys)) (Ed.cut x (Ed.same ys)) (Nat.le_refl _); exact Nat.le_trans (lev_le e) hk
  have h2 : lev xs ys ≤ lev (x :: xs) ys + 1 := by
    obtain ⟨k, hk, e⟩ := ed_trans _ (Ed.put x (Ed.same xs)) (ed_lev (x :: xs) ys) (Nat.le_refl _); have := lev_le e
    omega
  rw [lev_cons, if_pos rfl]; omega
theorem lev_swap {α : Type} [DecidableEq α] (x y : α) (h : x ≠ y) (xs ys : List α) : lev (x :: xs) (y :: ys) = 1 + min (lev xs (y :: ys)) (min (lev (x :: xs) ys) (lev xs ys)) := by
  rw [lev_cons, if_neg h]; omega
end Go.Proofs.YtbpinnanfanaaaaDoor.Lv
/-
  A text's pieces (its cells' bytes), as the program has them and as the document has them: two cells are the same just where their bytes are.
-/
namespace Go.Proofs.YtbpinnanfanaaaaDoor.Pure
open Go.RowKit Go.Proofs.YtbpinnanfanaaaaDoor.L Go.Proofs.YtbpinnanfanaaaaDoorW.PrintWords Go.Proofs.YtbpinnanfanaaaaDoorW.PrintLast
theorem ws (x : Int) (h : -9223372036854775808 ≤ x) (h2 : x < 9223372036854775808) : wrap64 x = x := by
  unfold wrap64
  omega
def pc (s : ByteArray) (c : S93) : ByteArray := s.extract c.f0.toNat (c.f0 + c.f1).toNat
def pcs (s : ByteArray) : List ByteArray := (gCells s s.size 0).map (pc s)
def cb (s : ByteArray) : List (List UInt8) := (pcs s).map (·.toList)
theorem pcs_len (s : ByteArray) : (pcs s).length = (gCells s s.size 0).length := by unfold pcs; rw [List.length_map]
theorem cb_len (s : ByteArray) : (cb s).length = (gCells s s.size 0).length := by unfold cb; rw [List.length_map, pcs_len]
theorem cells_range (s : ByteArray) : ∀ f i, i ≤ s.size → ∀ c ∈ gCells s f i, ∃ j, j < s.size ∧ c = gCell s j
  | 0, _, _, c, h => by cases h
  | f + 1, i, hi, c, h => by
    unfold gCells at h
    split at h
    · rename_i hlt
      rcases List.mem_cons.1 h with rfl | h
      · exact ⟨i, hlt, rfl⟩
      · exact cells_range s f _ (Utf.width_le s i hlt) c h
    · cases h
theorem cell_at (s : ByteArray) (i : Nat) (h : i < (gCells s s.size 0).length) : ∃ j, j < s.size ∧ (gCells s s.size 0)[i] = gCell s j :=
  cells_range s s.size 0 (by omega) _ (List.getElem_mem h)
theorem pieces_loop (s : ByteArray) (hs : s.size ≤ 4294967296) (L : List S93) (hl : L.length ≤ 4294967296) (hL : ∀ c ∈ L, ∃ j, j < s.size ∧ c = gCell s j) : ∀ (d i k : Nat) (acc : List ByteArray), i + d = L.length → acc.length = i → d + 1 ≤ k →
    dist_pieces.l0 k s acc L (L.length : Int) (i : Int) = some (acc ++ (L.drop i).map (pc s))
  | 0, i, k, acc, hd, ha, hk => by
    obtain ⟨k, rfl⟩ : ∃ m, k = m + 1 := ⟨k - 1, by omega⟩
    rw [dist_pieces.l0, if_neg (by omega), List.drop_of_length_le (by omega)]
    simp
  | d + 1, i, k, acc, hd, ha, hk => by
    obtain ⟨k, rfl⟩ : ∃ m, k = m + 1 := ⟨k - 1, by omega⟩
    have hi : i < L.length := by omega
    obtain ⟨j, hj, hc⟩ := hL _ (List.getElem_mem hi); have e2 : ((i + 1 : Nat) : Int) = (i : Int) + 1 := by omega
    have hw1 := Utf.width_pos s j hj; have hw2 := Utf.width_le s j hj; have f0 : (rd_T93 L (i : Int)).f0 = (j : Int) := by rw [Pl.get_rd L i hi, hc]; rfl
    have f1 : (rd_T93 L (i : Int)).f1 = ((Utf8.decode s j).2 : Int) := by rw [Pl.get_rd L i hi, hc]; rfl
    have hp : pc s L[i] = s.extract j (j + (Utf8.decode s j).2) := by
      rw [hc]
      show s.extract ((j : Int)).toNat ((j : Int) + ((Utf8.decode s j).2 : Int)).toNat = _
      rw [Int.toNat_natCast]
      congr 1
    rw [dist_pieces.l0, if_pos (by omega), if_pos (by omega), if_pos (by omega), f0, f1, if_pos (by omega), ws ((j : Int) + _) (by omega) (by omega), if_pos (by omega), if_pos (by omega), if_pos (by omega), ws ((i : Int) + 1) (by omega) (by omega), ← e2]; rw [pieces_loop s hs L hl hL d (i + 1) k _ (by omega) (by simp; omega) (by omega), List.drop_eq_getElem_cons hi, List.map_cons, hp]; have e3 : ((j : Int) + ((Utf8.decode s j).2 : Int)).toNat = j + (Utf8.decode s j).2 := by omega
    rw [e3, Int.toNat_natCast]
    simp
theorem pieces_eq (s : ByteArray) (hs : s.size ≤ 4294967296) (k : Nat) (hk : s.size + 1 ≤ k) : dist_pieces.f k s = some (pcs s) := by
  have hl := Pl.cells_le s; unfold dist_pieces.f glyph_Cells.f; rw [if_pos hs, Option.bind_some]; have := pieces_loop s hs (gCells s s.size 0) (by omega) (cells_range s s.size 0 (by omega)) (gCells s s.size 0).length 0 k [] (by omega) rfl (by omega)
  simpa [pcs] using this
theorem both_eq (a b : ByteArray) (ha : a.size ≤ 4294967296) (hb : b.size ≤ 4294967296) (k : Nat) (hk : a.size + 1 ≤ k) (hk2 : b.size + 1 ≤ k) :
    dist_both.f k a b = if (pcs a).length ≤ 256 ∧ (pcs b).length ≤ 256 then some (pcs a, pcs b, 0) else some ([], [], 1) := by
  unfold dist_both.f; rw [pieces_eq a ha k hk, Option.bind_some, pieces_eq b hb k hk2, Option.bind_some]
  by_cases h1 : (pcs a).length ≤ 256
  · rw [if_neg (by omega)]
    by_cases h2 : (pcs b).length ≤ 256
    · rw [if_neg (by omega), if_pos ⟨h1, h2⟩]
    · rw [if_pos (by omega), if_neg (fun h => h2 h.2)]
  · rw [if_pos (by omega), if_neg (fun h => h1 h.1)]
theorem ext_toList (s : ByteArray) (i n : Nat) : (s.extract i (i + n)).data.toList = (s.data.toList.drop i).take n := by
  rw [ByteArray.data_extract]
  simp [List.extract_eq_take_drop]
theorem toList_data (s : ByteArray) : s.toList = s.data.toList := ByteArray.toList_eq s
theorem piece_bytes (s : ByteArray) (j : Nat) : (pc s (gCell s j)).toList = (s.data.toList.drop j).take (Utf8.decode s j).2 := by
  rw [toList_data]
  show (s.extract ((j : Int)).toNat ((j : Int) + ((Utf8.decode s j).2 : Int)).toNat).data.toList = _
  have e3 : ((j : Int) + ((Utf8.decode s j).2 : Int)).toNat = j + (Utf8.decode s j).2 := by omega
  rw [e3, Int.toNat_natCast, ext_toList]
theorem get_data (s : ByteArray) (i : Nat) (h : i < s.size) : s.data.toList[i]? = some (s.get! i) := by
  rw [Utf.get_lt s i h, List.getElem?_eq_getElem (by simpa using h)]
  rfl
theorem get_piece (s : ByteArray) (i n q : Nat) (h : i + q < s.size) (hq : q < n) : ((s.data.toList.drop i).take n)[q]? = some (s.get! (i + q)) := by
  rw [List.getElem?_take, if_pos hq, List.getElem?_drop, get_data s _ h]
theorem piece_len (s : ByteArray) (i n : Nat) (h : i + n ≤ s.size) : ((s.data.toList.drop i).take n).length = n := by
  rw [List.length_take, List.length_drop]; have : s.data.toList.length = s.size := by rw [Array.length_toList]; rfl
  omega
theorem good_piece (s : ByteArray) (j : Nat) (hj : j < s.size) (hb : Utf.bad s j = false) : (s.data.toList.drop j).take (Utf8.decode s j).2 = (Utf8.encode ((Utf8.decode s j).1 : Int)).data.toList :=
  (Utf.encode_bytes s j hj hb).symm
theorem good_dec (n n' b0 b1 b2 b3 c1 c2 c3 r k : Nat) (hk : Lib.decodeN n b0 b1 b2 b3 = (r, k)) (hg : ¬ (r = 65533 ∧ k = 1)) (hn : k ≤ n') (e1 : 1 < k → b1 = c1) (e2 : 2 < k → b2 = c2) (e3 : 3 < k → b3 = c3) :
    Lib.decodeN n' b0 c1 c2 c3 = (r, k) := by
  rcases Lib.decodeN_shape n b0 b1 b2 b3 with ⟨q, e⟩ | ⟨q1, q2, q3, q4, e⟩ | ⟨q1, q2, q3, q4, q5, q6, e⟩ | ⟨q1, q2, q3, q4, q5, q6, q7, e⟩ | e
  · rw [hk] at e
    obtain ⟨rfl, rfl⟩ := Prod.mk.inj e; unfold Lib.decodeN; rw [if_pos q]
  · rw [hk] at e
    obtain ⟨rfl, rfl⟩ := Prod.mk.inj e; have := e1 (by omega); subst this; unfold Lib.decodeN; rw [if_neg (by omega), if_pos ⟨q1, by omega, q3⟩, if_pos q4]
  · rw [hk] at e
    obtain ⟨rfl, rfl⟩ := Prod.mk.inj e; have := e1 (by omega); subst this; have := e2 (by omega); subst this; unfold Lib.decodeN; rw [if_neg (by omega), if_neg (by omega), if_pos ⟨q1, ⟨by omega, q3⟩, by omega, q4⟩, if_pos ⟨q5, by omega⟩]
  · rw [hk] at e
    obtain ⟨rfl, rfl⟩ := Prod.mk.inj e; have := e1 (by omega); subst this; have := e2 (by omega); subst this; have := e3 (by omega); subst this; unfold Lib.decodeN; rw [if_neg (by omega), if_neg (by omega), if_neg (by omega), if_pos ⟨q1, ⟨by omega, q3⟩, ⟨by omega, q4⟩, by omega, q5⟩, if_pos ⟨q6, by omega⟩]
  · rw [hk] at e
    exact absurd (Prod.mk.inj e) hg
theorem dec_piece (s t : ByteArray) (i j : Nat) (hi : i < s.size) (hj : j < t.size) (hb : Utf.bad s i = false) (he : ∀ q, q < (Utf8.decode s i).2 → j + q < t.size ∧ s.get! (i + q) = t.get! (j + q)) : Utf8.decode t j = Utf8.decode s i := by
  have hw1 := Utf.width_pos s i hi; have hw2 := Utf.width_le s i hi; obtain ⟨r, k, hd⟩ : ∃ r k, Utf8.decode s i = (r, k) := ⟨_, _, rfl⟩
  have hg : ¬ (r = 65533 ∧ k = 1) := fun h => by
    have := (Utf.bad_iff s i).2 (by rw [hd]; exact h); rw [hb] at this
    cases this
  rw [hd] at he hw1 hw2 ⊢; dsimp only at he hw1 hw2; have h0 := he 0 (by omega); rw [Lib.decode_at] at hd ⊢; rw [Nat.add_zero, Nat.add_zero] at h0; rw [← h0.2]; exact good_dec _ _ _ _ _ _ _ _ _ r k hd hg (by have := (he (k - 1) (by omega)).1; omega) (fun h => by rw [(he 1 h).2]) (fun h => by rw [(he 2 h).2]) (fun h => by rw [(he 3 h).2])
theorem bytes_at {s t : ByteArray} {i j k m : Nat} (hs : i + k ≤ s.size) (ht : j + m ≤ t.size) (h : (s.data.toList.drop i).take k = (t.data.toList.drop j).take m) : k = m ∧ ∀ q, q < k → s.get! (i + q) = t.get! (j + q) := by
  have hl := congrArg List.length h; rw [piece_len s i k hs, piece_len t j m ht] at hl; refine ⟨hl, fun q hq => ?_⟩; have e : ((s.data.toList.drop i).take k)[q]? = ((t.data.toList.drop j).take m)[q]? := by rw [h]
  rw [get_piece s i k q (by omega) hq, get_piece t j m q (by omega) (by omega)] at e; exact Option.some.inj e
theorem same_iff (s t : ByteArray) (i j : Nat) (hi : i < s.size) (hj : j < t.size) :
    siglumref08_Same.f (gCell s i).f0 (gCell s i).f1 (gCell s i).f2 (gCell s i).f3 (gCell s i).f4 (gCell t j).f0 (gCell t j).f1 (gCell t j).f2 (gCell t j).f3 (gCell t j).f4 =
      some (decide ((pc s (gCell s i)).toList = (pc t (gCell t j)).toList)) := by
  rw [piece_bytes, piece_bytes]; have hi1 := Utf.width_le s i hi; have hj1 := Utf.width_le t j hj; unfold siglumref08_Same.f
  show (if (Utf.bad s i == Utf.bad t j) = true then (if Utf.bad s i = true then (if (if Utf.bad s i = true then bt s i else 0) = (if Utf.bad t j = true then bt t j else 0) then some true else some false) else some (((Utf8.decode s i).1 : Int) == ((Utf8.decode t j).1 : Int))) else some false) = _
  have key : ∀ (s t : ByteArray) (i j : Nat), i < s.size → j < t.size → Utf.bad s i = false → (s.data.toList.drop i).take (Utf8.decode s i).2 = (t.data.toList.drop j).take (Utf8.decode t j).2 → Utf8.decode t j = Utf8.decode s i := by
    intro s t i j hi hj hb he; have h := bytes_at (Utf.width_le s i hi) (Utf.width_le t j hj) he; have := Utf.width_le t j hj; exact dec_piece s t i j hi hj hb (fun q hq => ⟨by omega, h.2 q hq⟩)
  rcases hbs : Utf.bad s i with _ | _ <;> rcases hbt : Utf.bad t j with _ | _
  · rw [if_pos (by rfl), if_neg (by simp)]
    congr 1
    rw [Bool.eq_iff_iff, beq_iff_eq, decide_eq_true_iff]
    constructor
    · intro h
      have h' : (Utf8.decode s i).1 = (Utf8.decode t j).1 := by omega
      rw [good_piece s i hi hbs, good_piece t j hj hbt, h']
    · intro h
      rw [key s t i j hi hj hbs h]
  · rw [if_neg (by simp)]
    congr 1
    symm
    rw [decide_eq_false_iff_not]; intro h; have e := key s t i j hi hj hbs h; have b1 := (Utf.bad_iff t j).1 hbt; rw [e] at b1; rw [(Utf.bad_iff s i).2 b1] at hbs
    cases hbs
  · rw [if_neg (by simp)]
    congr 1
    symm
    rw [decide_eq_false_iff_not]; intro h; have e := key t s j i hj hi hbt h.symm; have b1 := (Utf.bad_iff s i).1 hbs; rw [e] at b1; rw [(Utf.bad_iff t j).2 b1] at hbt
    cases hbt
  · rw [if_pos (by rfl), if_pos rfl, if_pos rfl, if_pos rfl]
    have b1 := ((Utf.bad_iff s i).1 hbs).2; have b2 := ((Utf.bad_iff t j).1 hbt).2; rw [b1, b2, ← Utf.bad_bytes s i hi, ← Utf.bad_bytes t j hj, Pl.bt_nat s i hi, Pl.bt_nat t j hj]
    by_cases h : s.get! i = t.get! j
    · rw [if_pos (by rw [h]), h]; simp
    · rw [if_neg (fun e => h (UInt8.toNat_inj.1 (by omega)))]
      simp [h]
theorem cell_same (s t : ByteArray) (i j : Nat) (hi : i < (gCells s s.size 0).length) (hj : j < (gCells t t.size 0).length) (c d : S93) (hc : c = (gCells s s.size 0)[i]) (hd : d = (gCells t t.size 0)[j]) :
    siglumref08_Same.f c.f0 c.f1 c.f2 c.f3 c.f4 d.f0 d.f1 d.f2 d.f3 d.f4 = some (decide ((cb s)[i]'(by rw [cb_len]; exact hi) = (cb t)[j]'(by rw [cb_len]; exact hj))) := by
  obtain ⟨p, hp, e1⟩ := cell_at s i hi; obtain ⟨q, hq, e2⟩ := cell_at t j hj
  have x1 : (cb s)[i]'(by rw [cb_len]; exact hi) = (pc s (gCell s p)).toList := by
    unfold cb pcs; rw [List.getElem_map, List.getElem_map, e1]
  have x2 : (cb t)[j]'(by rw [cb_len]; exact hj) = (pc t (gCell t q)).toList := by
    unfold cb pcs; rw [List.getElem_map, List.getElem_map, e2]
  rw [x1, x2, hc, hd, e1, e2]; exact same_iff s t p q hp hq
theorem same_cells (a b : ByteArray) (i j : Nat) (hi : i < (cb a).length) (hj : j < (cb b).length) :
    siglumref08_Same.f (rd_T93 (gCells a a.size 0) (i : Int)).f0 (rd_T93 (gCells a a.size 0) (i : Int)).f1 (rd_T93 (gCells a a.size 0) (i : Int)).f2 (rd_T93 (gCells a a.size 0) (i : Int)).f3 (rd_T93 (gCells a a.size 0) (i : Int)).f4 (rd_T93 (gCells b b.size 0) (j : Int)).f0 (rd_T93 (gCells b b.size 0) (j : Int)).f1 (rd_T93 (gCells b b.size 0) (j : Int)).f2 (rd_T93 (gCells b b.size 0) (j : Int)).f3 (rd_T93 (gCells b b.size 0) (j : Int)).f4 = some (decide ((cb a)[i] = (cb b)[j])) := by
  have h1 := cb_len a; have h2 := cb_len b; exact cell_same a b i j (by omega) (by omega) _ _ (Pl.get_rd _ i (by omega)) (Pl.get_rd _ j (by omega))
theorem cells_bytes (s : ByteArray) : ∀ f i, s.size ≤ i + f → ((gCells s f i).map (fun c => (pc s c).toList)).flatten = s.data.toList.drop i
  | 0, i, h => by
    rw [List.drop_of_length_le (by rw [Array.length_toList]; have : s.data.size = s.size := rfl; omega)]
    rfl
  | f + 1, i, h => by
    unfold gCells
    split
    · rename_i hlt
      have := Utf.width_pos s i hlt; rw [List.map_cons, List.flatten_cons, cells_bytes s f _ (by omega), piece_bytes, ← List.drop_drop]; exact List.take_append_drop _ _
    · rw [List.drop_of_length_le (by rw [Array.length_toList]; have : s.data.size = s.size := rfl; omega)]
      rfl
theorem cb_flat (s : ByteArray) : (cb s).flatten = s.data.toList := by
  have := cells_bytes s s.size 0 (by omega); rw [List.drop_zero] at this; unfold cb pcs; rw [List.map_map]; exact this
theorem cb_inj (a b : ByteArray) : cb a = cb b ↔ a.toList = b.toList := by
  constructor
  · intro h
    rw [toList_data, toList_data, ← cb_flat a, ← cb_flat b, h]
  · intro h
    rw [toList_data, toList_data] at h
    have : a = b := by
      apply ByteArray.ext
      apply Array.ext'
      exact h
    rw [this]
end Go.Proofs.YtbpinnanfanaaaaDoor.Pure
