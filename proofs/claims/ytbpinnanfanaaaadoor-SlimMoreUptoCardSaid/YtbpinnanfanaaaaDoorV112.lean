import Derived.Test.YtbpinnanfanaaaaDoorV13
import Derived.Test.YtbpinnanfanaaaaDoorV15
import Derived.Test.YtbpinnanfanaaaaDoorV110
import Derived.Test.YtbpinnanfanaaaaDoorV111
namespace Go.Proofs.YtbpinnanfanaaaaDoor.M
open Go.RowKit Go.Proofs.YtbpinnanfanaaaaDoor.Mi Go.Proofs.YtbpinnanfanaaaaDoorW.PrintWords Go.Proofs.YtbpinnanfanaaaaDoorW.PrintLast Go.Proofs.YtbpinnanfanaaaaDoorW.PrintMore
attribute [local go_sem] min2_int min_two min_three   -- for this text's walks alone
set_option linter.unusedVariables false
set_option linter.unusedSimpArgs false
/-! ### slim_Least: function 9 -/
def slim_Least.f (k : Nat) (l0 : List ByteArray) (l1 : List ByteArray) (a2_0 : Int) (a2_1 : Int) (a2_2 : Int) (a2_3 : Int) : Option (Int × Int) := (cost_Grid.f k l0 l1 a2_0 a2_1 a2_2 a2_3).bind fun bt9102 => (if bt9102.2 = 0 then ((slim_task_ahead.f k bt9102.1 a2_0 0 (l0.length : Int) 0 (l1.length : Int)).bind fun t9106 => (if 0 ≤ (l1.length : Int) then (if (l1.length : Int) < (t9106.length : Int) then (some (rd t9106 (l1.length : Int), 0)) else (none)) else (none))) else (some (0, bt9102.2)))
set_option maxHeartbeats 8000000 in
set_option maxRecDepth 100000 in
theorem slim_Least.calls (k : Nat) (A0 : Option Addr) (c0 : Nat) (l0 : List ByteArray) (A1 : Option Addr) (c1 : Nat) (l1 : List ByteArray) (a2_0 : Int) (a2_1 : Int) (a2_2 : Int) (a2_3 : Int) (r1 : Int) (r2 : Int) (w : World) (hr0 : Kd.C Kd.string w A0 l0.length l0) (hc0 : l0.length ≤ c0) (hr1 : Kd.C Kd.string w A1 l1.length l1) (hc1 : l1.length ≤ c1) (hT : Utf.Tabs2 w) (h : slim_Least.f k l0 l1 a2_0 a2_1 a2_2 a2_3 = some (r1, r2)) :
 Calls Tryd.prog 9 #[.slice A0 l0.length c0, .slice A1 l1.length c1, .agg #[.int .i64 a2_0, .int .i64 a2_1, .int .i64 a2_2, .int .i64 a2_3]] w fun e w' => e = .returned (.tuple #[.int .i64 r1, .int .i64 r2]) ∧ Below w.heap.size w w' := by
 have hu24 := Tryd.underlying24; have hu50 := Tryd.underlying50; have HR0 := Aside0.mk hr0; have HC0 := Aside0.mk hc0; clear hr0 hc0; have HR1 := Aside0.mk hr1; have HC1 := Aside0.mk hc1; clear hr1 hc1; have HT := Aside0.mk hT; clear hT; have HB := Aside0.mk (Below.refl w.heap.size w); have H : ((cost_Grid.f k l0 l1 a2_0 a2_1 a2_2 a2_3).bind fun bt9102 => (if bt9102.2 = 0 then ((slim_task_ahead.f k bt9102.1 a2_0 0 (l0.length : Int) 0 (l1.length : Int)).bind fun t9106 => (if 0 ≤ (l1.length : Int) then (if (l1.length : Int) < (t9106.length : Int) then (some (rd t9106 (l1.length : Int), 0)) else (none)) else (none))) else (some (0, bt9102.2)))) = some (r1, r2) := h; clear h; replace H := Option.bind_eq_some_iff.mp H; obtain ⟨⟨t9102, t9105⟩, A40, H⟩ := H; (try dsimp only at H); have A4 := Aside0.mk A40; clear A40
 by_cases c5 : t9105 = 0
 ·
  rw [if_pos c5] at H; have c5b0 : (t9105 == 0) = true := beq_iff_eq.mpr c5; have c5b1 : (t9105 != 0) = false := bne_eq_false_iff_eq.mpr c5; clear c5; replace H := Option.bind_eq_some_iff.mp H; obtain ⟨t9106, A60, H⟩ := H; (try dsimp only at H); have A6 := Aside0.mk A60; clear A60
  by_cases c7 : 0 ≤ (l1.length : Int)
  rotate_left
  · rw [if_neg c7] at H; exact absurd H (by simp)
  rw [if_pos c7] at H; have c7b0 : decide (0 ≤ (l1.length : Int)) = true := decide_eq_true c7; have c7b1 : decide (0 ≤ l1.length) = true := decide_eq_true (by omega); clear c7
  by_cases c8 : (l1.length : Int) < (t9106.length : Int)
  rotate_left
  · rw [if_neg c8] at H; exact absurd H (by simp)
  rw [if_pos c8] at H; have c8b0 : decide ((l1.length : Int) < (t9106.length : Int)) = true := decide_eq_true c8; have c8b1 : decide (l1.length < t9106.length) = true := decide_eq_true (Int.ofNat_lt.mp c8); clear c8; simp only [Option.some.injEq, Prod.mk.injEq] at H; obtain ⟨rfl, rfl⟩ := H
  go_enter Tryd.func9, Tryd.ntmps9
  go_wp2_with (first | ((with_reducible refine gate_dst (N := 5) rfl ?_); refine box_event ?hg (N := 5) ?hd (cs := #[.int .i64 a2_0, .int .i64 a2_1, .int .i64 a2_2, .int .i64 a2_3]) (t := 24) ?hr ?_; (case hd => rfl); (case hg => rfl); (case hr => first | (go_simp; done) | (go_simp; rfl)); intro gb9101 hg w9 hbox hb; have n0_ := Aside0.mk (below_step bel hb); have n1_ := Aside0.mk (hbox); have n2_ := Aside0.mk ((by rw [hg]; exact (below_size bel) : w.heap.size ≤ gb9101)); have n3_ := Aside0.mk ((by rw [hg]; exact (below_size bel) : w.heap.size ≤ gb9101)); clear HB; have HB := n0_; have BK9101 := n1_; have GW9101 := n2_; have GE9101 := n3_; clear n0_ n1_ n2_ n3_; clear hb hbox hg; have hcz10_0 : w9.cell? ⟨gb9101, 0, none⟩ = some (.int .i64 a2_0) := (blk_cell BK9101.out 0).trans rfl; have hcz10_1 : w9.cell? ⟨gb9101, 1, none⟩ = some (.int .i64 a2_1) := (blk_cell BK9101.out 1).trans rfl; have hcz10_2 : w9.cell? ⟨gb9101, 2, none⟩ = some (.int .i64 a2_2) := (blk_cell BK9101.out 2).trans rfl; have hcz10_3 : w9.cell? ⟨gb9101, 3, none⟩ = some (.int .i64 a2_3) := (blk_cell BK9101.out 3).trans rfl; have hfz10_0 := blk_frozen BK9101.out 0; have hfz10_1 := blk_frozen BK9101.out 1; have hfz10_2 := blk_frozen BK9101.out 2; have hfz10_3 := blk_frozen BK9101.out 3) | ((with_reducible refine gate_callee (f := 17) rfl ?_); refine goesL_ (some 15) rfl rfl Tryd.func17 (by kernel_rfl) rfl #[.slice A0 l0.length c0, .slice A1 l1.length c1, .agg #[.int .i64 a2_0, .int .i64 a2_1, .int .i64 a2_2, .int .i64 a2_3]] rfl (by (try simp only [List.map_toArray, List.map_cons, List.map_nil]); first | done | rfl | (simp only [List.length_drop, List.length_take]; rfl)) ?_; (with_reducible refine (cost_Grid.calls k _ _ l0 _ _ l1 a2_0 a2_1 a2_2 a2_3 t9102 t9105 _ ?side1 ?side2 ?side3 ?side4 ?side5 A4.out).mono ?_); (case side1 => repeat (first | exact (Kd.C_below HR0.out HB.out) | (with_reducible refine Kd.C_alloc ?_ _) | (with_reducible refine Kd.C_drewN ?_ _) | (with_reducible refine Kd.C_drew ?_))); (case side2 => exact HC0.out); (case side3 => repeat (first | exact (Kd.C_below HR1.out HB.out) | (with_reducible refine Kd.C_alloc ?_ _) | (with_reducible refine Kd.C_drewN ?_ _) | (with_reducible refine Kd.C_drew ?_))); (case side4 => exact HC1.out); (case side5 => exact Utf.tabs_step2 HT.out bel); rintro e w11 ⟨v9103, rfl, ho0, hb⟩; refine ⟨_, rfl, ?_⟩; have HO9104 := Aside0.mk (Kd.S_lower ho0 (below_size bel)); replace BK9101 := Aside0.mk (blk_below (g := gb9101) (o := .cells #[.int .i64 a2_0, .int .i64 a2_1, .int .i64 a2_2, .int .i64 a2_3] 24 (0, 0)) (bl BK9101) hb); replace HB := Aside0.mk (below_step bel hb); (try clear hb); (try clear hb2); (try clear hk); (try clear hi); (try clear ho0); have hcz12_0 : w11.cell? ⟨gb9101, 0, none⟩ = some (.int .i64 a2_0) := (blk_cell BK9101.out 0).trans rfl; have hcz12_1 : w11.cell? ⟨gb9101, 1, none⟩ = some (.int .i64 a2_1) := (blk_cell BK9101.out 1).trans rfl; have hcz12_2 : w11.cell? ⟨gb9101, 2, none⟩ = some (.int .i64 a2_2) := (blk_cell BK9101.out 2).trans rfl; have hcz12_3 : w11.cell? ⟨gb9101, 3, none⟩ = some (.int .i64 a2_3) := (blk_cell BK9101.out 3).trans rfl; have hfz12_0 := blk_frozen BK9101.out 0; have hfz12_1 := blk_frozen BK9101.out 1; have hfz12_2 := blk_frozen BK9101.out 2; have hfz12_3 := blk_frozen BK9101.out 3; obtain ⟨Ao13, co13, eo13⟩ := Kd.S_slice HO9104.out; subst eo13) | ((with_reducible refine gate_callee (f := 18) rfl ?_); refine goesL_ (some 29) rfl rfl Tryd.func18 (by kernel_rfl) rfl #[.agg #[.slice Ao13 t9102.length co13, .int .i64 a2_0], .int .i64 0, .int .i64 (l0.length : Int), .int .i64 0, .int .i64 (l1.length : Int)] rfl (by (try simp only [List.map_toArray, List.map_cons, List.map_nil]); first | done | rfl | (simp only [List.length_drop, List.length_take]; rfl)) ?_; (with_reducible refine (slim_task_ahead.calls k _ _ t9102 a2_0 0 (l0.length : Int) 0 (l1.length : Int) t9106 _ ?side1 ?side2 A6.out).mono ?_); (case side1 => repeat (first | exact (Kd.S_reads' HO9104.out).2.2 | (with_reducible refine Kd.C_alloc ?_ _) | (with_reducible refine Kd.C_drewN ?_ _) | (with_reducible refine Kd.C_drew ?_))); (case side2 => exact (Kd.S_reads' HO9104.out).2.1); rintro e w14 ⟨v9107, rfl, ho0, hb⟩; refine ⟨_, rfl, ?_⟩; replace HO9104 := Aside0.mk (Kd.S_elder' (sl HO9104) (Kd.R_base ho0) hb); have HO9108 := Aside0.mk (Kd.R_lower ho0 (below_size bel)); replace BK9101 := Aside0.mk (blk_below (g := gb9101) (o := .cells #[.int .i64 a2_0, .int .i64 a2_1, .int .i64 a2_2, .int .i64 a2_3] 24 (0, 0)) (bl BK9101) hb); replace HB := Aside0.mk (below_step bel hb); (try clear hb); (try clear hb2); (try clear hk); (try clear hi); (try clear ho0); obtain ⟨Ao15, co15, eo15⟩ := Kd.R_slice HO9108.out; subst eo15; have p9109 : 0 ≤ ((l1.length : Int) : Int) := oda; have q9109 : (l1.length : Int) < (t9106.length : Int) := oda; obtain ⟨ad9109, e9109, hx9109_0⟩ := Kd.at_int (Kd.R_reads' HO9108.out).2.2 (l1.length : Int) p9109 q9109; cases e9109; (try simp only [Go.IntWalk.toNatUp] at hx9109_0); replace p9109 := eq_true p9109; replace q9109 := eq_true q9109))
  go_ret2; exact ⟨by first | rfl | (simp [errW_none, errW_some] <;> rfl) | (simp [*, errW_none, errW_some] <;> rfl), by exact bel⟩
 ·
  rw [if_neg c5] at H; have c5b0 : (t9105 == 0) = false := beq_eq_false_iff_ne.mpr c5; have c5b1 : (t9105 != 0) = true := bne_iff_ne.mpr c5; simp only [Option.some.injEq, Prod.mk.injEq] at H; obtain ⟨rfl, rfl⟩ := H
  go_enter Tryd.func9, Tryd.ntmps9
  go_wp2_with (first | ((with_reducible refine gate_dst (N := 5) rfl ?_); refine box_event ?hg (N := 5) ?hd (cs := #[.int .i64 a2_0, .int .i64 a2_1, .int .i64 a2_2, .int .i64 a2_3]) (t := 24) ?hr ?_; (case hd => rfl); (case hg => rfl); (case hr => first | (go_simp; done) | (go_simp; rfl)); intro gb9101 hg w16 hbox hb; have n0_ := Aside0.mk (below_step bel hb); have n1_ := Aside0.mk (hbox); have n2_ := Aside0.mk ((by rw [hg]; exact (below_size bel) : w.heap.size ≤ gb9101)); have n3_ := Aside0.mk ((by rw [hg]; exact (below_size bel) : w.heap.size ≤ gb9101)); clear HB; have HB := n0_; have BK9101 := n1_; have GW9101 := n2_; have GE9101 := n3_; clear n0_ n1_ n2_ n3_; clear hb hbox hg; have hcz17_0 : w16.cell? ⟨gb9101, 0, none⟩ = some (.int .i64 a2_0) := (blk_cell BK9101.out 0).trans rfl; have hcz17_1 : w16.cell? ⟨gb9101, 1, none⟩ = some (.int .i64 a2_1) := (blk_cell BK9101.out 1).trans rfl; have hcz17_2 : w16.cell? ⟨gb9101, 2, none⟩ = some (.int .i64 a2_2) := (blk_cell BK9101.out 2).trans rfl; have hcz17_3 : w16.cell? ⟨gb9101, 3, none⟩ = some (.int .i64 a2_3) := (blk_cell BK9101.out 3).trans rfl; have hfz17_0 := blk_frozen BK9101.out 0; have hfz17_1 := blk_frozen BK9101.out 1; have hfz17_2 := blk_frozen BK9101.out 2; have hfz17_3 := blk_frozen BK9101.out 3) | ((with_reducible refine gate_callee (f := 17) rfl ?_); refine goesL_ (some 15) rfl rfl Tryd.func17 (by kernel_rfl) rfl #[.slice A0 l0.length c0, .slice A1 l1.length c1, .agg #[.int .i64 a2_0, .int .i64 a2_1, .int .i64 a2_2, .int .i64 a2_3]] rfl (by (try simp only [List.map_toArray, List.map_cons, List.map_nil]); first | done | rfl | (simp only [List.length_drop, List.length_take]; rfl)) ?_; (with_reducible refine (cost_Grid.calls k _ _ l0 _ _ l1 a2_0 a2_1 a2_2 a2_3 t9102 t9105 _ ?side1 ?side2 ?side3 ?side4 ?side5 A4.out).mono ?_); (case side1 => repeat (first | exact (Kd.C_below HR0.out HB.out) | (with_reducible refine Kd.C_alloc ?_ _) | (with_reducible refine Kd.C_drewN ?_ _) | (with_reducible refine Kd.C_drew ?_))); (case side2 => exact HC0.out); (case side3 => repeat (first | exact (Kd.C_below HR1.out HB.out) | (with_reducible refine Kd.C_alloc ?_ _) | (with_reducible refine Kd.C_drewN ?_ _) | (with_reducible refine Kd.C_drew ?_))); (case side4 => exact HC1.out); (case side5 => exact Utf.tabs_step2 HT.out bel); rintro e w18 ⟨v9103, rfl, ho0, hb⟩; refine ⟨_, rfl, ?_⟩; have HO9104 := Aside0.mk (Kd.S_lower ho0 (below_size bel)); replace BK9101 := Aside0.mk (blk_below (g := gb9101) (o := .cells #[.int .i64 a2_0, .int .i64 a2_1, .int .i64 a2_2, .int .i64 a2_3] 24 (0, 0)) (bl BK9101) hb); replace HB := Aside0.mk (below_step bel hb); (try clear hb); (try clear hb2); (try clear hk); (try clear hi); (try clear ho0)))
  go_ret2; exact ⟨by first | rfl | (simp [errW_none, errW_some] <;> rfl) | (simp [*, errW_none, errW_some] <;> rfl), by exact bel⟩
end Go.Proofs.YtbpinnanfanaaaaDoor.M
namespace Go.Proofs.YtbpinnanfanaaaaDoor.M
open Go.RowKit Go.Proofs.YtbpinnanfanaaaaDoor.Mi Go.Proofs.YtbpinnanfanaaaaDoorW.PrintWords Go.Proofs.YtbpinnanfanaaaaDoorW.PrintLast Go.Proofs.YtbpinnanfanaaaaDoorW.PrintMore
attribute [local go_sem] min2_int min_two min_three   -- for this text's walks alone
set_option linter.unusedVariables false
set_option linter.unusedSimpArgs false
/-! ### siglumlaw11_awake: function 7 -/
def siglumlaw11_awake.f (k : Nat)  : Option (Bool) := (slim_Least.f k (([(⟨#[116, 104, 101]⟩ : ByteArray), (⟨#[99, 97, 116]⟩ : ByteArray)] : List ByteArray)) (([(⟨#[116, 104, 101]⟩ : ByteArray), (⟨#[111, 108, 100]⟩ : ByteArray), (⟨#[114, 97, 116]⟩ : ByteArray)] : List ByteArray)) 2 1 3 0).bind fun bt7107 => (if bt7107.1 = 3 then (some (bt7107.2 == 0)) else (some false))
set_option maxHeartbeats 8000000 in
set_option maxRecDepth 100000 in
theorem siglumlaw11_awake.calls (k : Nat)  (r : Bool) (w : World) (hT : Utf.Tabs2 w) (h : siglumlaw11_awake.f k  = some r) :
 Calls Tryd.prog 7 #[] w fun e w' => e = .returned (.bool r) ∧ Below w.heap.size w w' := by
 have hu24 := Tryd.underlying24; have HT := Aside0.mk hT; clear hT; have HB := Aside0.mk (Below.refl w.heap.size w); have H : ((slim_Least.f k (([(⟨#[116, 104, 101]⟩ : ByteArray), (⟨#[99, 97, 116]⟩ : ByteArray)] : List ByteArray)) (([(⟨#[116, 104, 101]⟩ : ByteArray), (⟨#[111, 108, 100]⟩ : ByteArray), (⟨#[114, 97, 116]⟩ : ByteArray)] : List ByteArray)) 2 1 3 0).bind fun bt7107 => (if bt7107.1 = 3 then (some (bt7107.2 == 0)) else (some false))) = some r := h; clear h
 obtain ⟨y7101, hy7101⟩ : ∃ y_ : List ByteArray, y_ = (([(⟨#[116, 104, 101]⟩ : ByteArray), (⟨#[99, 97, 116]⟩ : ByteArray)] : List ByteArray)) := ⟨_, rfl⟩
 (try rw [← hy7101] at H); (try rw [Option.bind_some] at H); (try dsimp only at H); have Ny7101 := Aside0.mk hy7101; clear hy7101
 obtain ⟨y7104, hy7104⟩ : ∃ y_ : List ByteArray, y_ = (([(⟨#[116, 104, 101]⟩ : ByteArray), (⟨#[111, 108, 100]⟩ : ByteArray), (⟨#[114, 97, 116]⟩ : ByteArray)] : List ByteArray)) := ⟨_, rfl⟩
 (try rw [← hy7104] at H); (try rw [Option.bind_some] at H); (try dsimp only at H); have Ny7104 := Aside0.mk hy7104; clear hy7104; replace H := Option.bind_eq_some_iff.mp H; obtain ⟨⟨t7107, t7108⟩, A10, H⟩ := H; (try dsimp only at H); have A1 := Aside0.mk A10; clear A10
 by_cases c2 : t7107 = 3
 ·
  rw [if_pos c2] at H; have c2b0 : (t7107 == 3) = true := beq_iff_eq.mpr c2; have c2b1 : (t7107 != 3) = false := bne_eq_false_iff_eq.mpr c2; clear c2; obtain rfl := Option.some.inj H
  go_enter Tryd.func7, Tryd.ntmps7
  go_wp2_with (first | ((with_reducible refine gate_dst (N := 4) rfl ?_); refine Kd.R_lit Kd.string _ 9 ?hg (N := 4) ?hd (xs := ([(⟨#[116, 104, 101]⟩ : ByteArray), (⟨#[99, 97, 116]⟩ : ByteArray)] : List ByteArray)) (inner := [.string (⟨#[116, 104, 101]⟩ : ByteArray), .string (⟨#[99, 97, 116]⟩ : ByteArray)]) (ok := fun _ => True) (okp := fun _ => True) ?hr ?hp (fun _ hk => hk) trivial (Below.refl _ _) (Nat.le_refl _) (by simp) ?_; (case hd => rfl); (case hg => rfl); (case hr => first | (go_simp; done) | (go_simp; rfl)); (case hp => exact (Reps.one (show Kd.M Kd.string _ _ _ (⟨#[116, 104, 101]⟩ : ByteArray) [.string (⟨#[116, 104, 101]⟩ : ByteArray)] from rfl) (Reps.one (show Kd.M Kd.string _ _ _ (⟨#[99, 97, 116]⟩ : ByteArray) [.string (⟨#[99, 97, 116]⟩ : ByteArray)] from rfl) (Reps.none _ _)))); intro v7102 w3 ho4 hb hg_ hnew_; clear hg_ hnew_; (first | rw [← Ny7101.out] at ho4 | (simp only [Int.reduceToNat] at ho4; rw [← Ny7101.out] at ho4)); have HO7103 := Aside0.mk (Kd.R_lower ho4 (below_size bel)); replace HB := Aside0.mk (below_step bel hb); clear hb ho4) | ((with_reducible refine gate_dst (N := 5) rfl ?_); refine Kd.R_lit Kd.string _ 9 ?hg (N := 5) ?hd (xs := ([(⟨#[116, 104, 101]⟩ : ByteArray), (⟨#[111, 108, 100]⟩ : ByteArray), (⟨#[114, 97, 116]⟩ : ByteArray)] : List ByteArray)) (inner := [.string (⟨#[116, 104, 101]⟩ : ByteArray), .string (⟨#[111, 108, 100]⟩ : ByteArray), .string (⟨#[114, 97, 116]⟩ : ByteArray)]) (ok := fun _ => True) (okp := fun _ => True) ?hr ?hp (fun _ hk => hk) trivial (Below.refl _ _) (Nat.le_refl _) (by simp) ?_; (case hd => rfl); (case hg => rfl); (case hr => first | (go_simp; done) | (go_simp; rfl)); (case hp => exact (Reps.one (show Kd.M Kd.string _ _ _ (⟨#[116, 104, 101]⟩ : ByteArray) [.string (⟨#[116, 104, 101]⟩ : ByteArray)] from rfl) (Reps.one (show Kd.M Kd.string _ _ _ (⟨#[111, 108, 100]⟩ : ByteArray) [.string (⟨#[111, 108, 100]⟩ : ByteArray)] from rfl) (Reps.one (show Kd.M Kd.string _ _ _ (⟨#[114, 97, 116]⟩ : ByteArray) [.string (⟨#[114, 97, 116]⟩ : ByteArray)] from rfl) (Reps.none _ _))))); intro v7105 w5 ho6 hb hg_ hnew_; clear hg_ hnew_; (first | rw [← Ny7104.out] at ho6 | (simp only [Int.reduceToNat] at ho6; rw [← Ny7104.out] at ho6)); have n0_ := Aside0.mk (Kd.R_elder' (rl HO7103) (Kd.R_base ho6) hb); have n1_ := Aside0.mk (Kd.R_lower (Kd.R_new' ho6 (Kd.R_lt (rl HO7103))) (below_size bel)); have n2_ := Aside0.mk (below_step bel hb); clear HO7103; clear HB; have HO7103 := n0_; have HO7106 := n1_; have HB := n2_; clear n0_ n1_ n2_; clear hb ho6; obtain ⟨Ao7, co7, eo7⟩ := Kd.R_slice HO7103.out; subst eo7; obtain ⟨Ao8, co8, eo8⟩ := Kd.R_slice HO7106.out; subst eo8) | ((with_reducible refine gate_callee (f := 9) rfl ?_); refine goesL_ (some 7) rfl rfl Tryd.func9 (by kernel_rfl) rfl #[.slice Ao7 y7101.length co7, .slice Ao8 y7104.length co8, .agg #[.int .i64 2, .int .i64 1, .int .i64 3, .int .i64 0]] rfl (by (try simp only [List.map_toArray, List.map_cons, List.map_nil]); first | done | rfl | (simp only [List.length_drop, List.length_take]; rfl)) ?_; (with_reducible refine (slim_Least.calls k _ _ y7101 _ _ y7104 2 1 3 0 t7107 t7108 _ ?side1 ?side2 ?side3 ?side4 ?side5 A1.out).mono ?_); (case side1 => repeat (first | exact (Kd.R_reads' HO7103.out).2.2 | (with_reducible refine Kd.C_alloc ?_ _) | (with_reducible refine Kd.C_drewN ?_ _) | (with_reducible refine Kd.C_drew ?_))); (case side2 => exact (Kd.R_reads' HO7103.out).2.1); (case side3 => repeat (first | exact (Kd.R_reads' HO7106.out).2.2 | (with_reducible refine Kd.C_alloc ?_ _) | (with_reducible refine Kd.C_drewN ?_ _) | (with_reducible refine Kd.C_drew ?_))); (case side4 => exact (Kd.R_reads' HO7106.out).2.1); (case side5 => exact Utf.tabs_step2 HT.out bel); rintro e w9 ⟨rfl, hb⟩; refine ⟨_, rfl, ?_⟩; replace HO7103 := Aside0.mk (Kd.R_below (rl HO7103) hb); replace HO7106 := Aside0.mk (Kd.R_below (rl HO7106) hb); replace HB := Aside0.mk (below_step bel hb); (try clear hb); (try clear hb2); (try clear hk); (try clear hi)))
  go_ret; exact ⟨by first | rfl | (simp [errW_none, errW_some] <;> rfl) | (simp [*, errW_none, errW_some] <;> rfl), by exact bel⟩
 ·
  rw [if_neg c2] at H; have c2b0 : (t7107 == 3) = false := beq_eq_false_iff_ne.mpr c2; have c2b1 : (t7107 != 3) = true := bne_iff_ne.mpr c2; obtain rfl := Option.some.inj H
  go_enter Tryd.func7, Tryd.ntmps7
  go_wp2_with (first | ((with_reducible refine gate_dst (N := 4) rfl ?_); refine Kd.R_lit Kd.string _ 9 ?hg (N := 4) ?hd (xs := ([(⟨#[116, 104, 101]⟩ : ByteArray), (⟨#[99, 97, 116]⟩ : ByteArray)] : List ByteArray)) (inner := [.string (⟨#[116, 104, 101]⟩ : ByteArray), .string (⟨#[99, 97, 116]⟩ : ByteArray)]) (ok := fun _ => True) (okp := fun _ => True) ?hr ?hp (fun _ hk => hk) trivial (Below.refl _ _) (Nat.le_refl _) (by simp) ?_; (case hd => rfl); (case hg => rfl); (case hr => first | (go_simp; done) | (go_simp; rfl)); (case hp => exact (Reps.one (show Kd.M Kd.string _ _ _ (⟨#[116, 104, 101]⟩ : ByteArray) [.string (⟨#[116, 104, 101]⟩ : ByteArray)] from rfl) (Reps.one (show Kd.M Kd.string _ _ _ (⟨#[99, 97, 116]⟩ : ByteArray) [.string (⟨#[99, 97, 116]⟩ : ByteArray)] from rfl) (Reps.none _ _)))); intro v7102 w10 ho11 hb hg_ hnew_; clear hg_ hnew_; (first | rw [← Ny7101.out] at ho11 | (simp only [Int.reduceToNat] at ho11; rw [← Ny7101.out] at ho11)); have HO7103 := Aside0.mk (Kd.R_lower ho11 (below_size bel)); replace HB := Aside0.mk (below_step bel hb); clear hb ho11) | ((with_reducible refine gate_dst (N := 5) rfl ?_); refine Kd.R_lit Kd.string _ 9 ?hg (N := 5) ?hd (xs := ([(⟨#[116, 104, 101]⟩ : ByteArray), (⟨#[111, 108, 100]⟩ : ByteArray), (⟨#[114, 97, 116]⟩ : ByteArray)] : List ByteArray)) (inner := [.string (⟨#[116, 104, 101]⟩ : ByteArray), .string (⟨#[111, 108, 100]⟩ : ByteArray), .string (⟨#[114, 97, 116]⟩ : ByteArray)]) (ok := fun _ => True) (okp := fun _ => True) ?hr ?hp (fun _ hk => hk) trivial (Below.refl _ _) (Nat.le_refl _) (by simp) ?_; (case hd => rfl); (case hg => rfl); (case hr => first | (go_simp; done) | (go_simp; rfl)); (case hp => exact (Reps.one (show Kd.M Kd.string _ _ _ (⟨#[116, 104, 101]⟩ : ByteArray) [.string (⟨#[116, 104, 101]⟩ : ByteArray)] from rfl) (Reps.one (show Kd.M Kd.string _ _ _ (⟨#[111, 108, 100]⟩ : ByteArray) [.string (⟨#[111, 108, 100]⟩ : ByteArray)] from rfl) (Reps.one (show Kd.M Kd.string _ _ _ (⟨#[114, 97, 116]⟩ : ByteArray) [.string (⟨#[114, 97, 116]⟩ : ByteArray)] from rfl) (Reps.none _ _))))); intro v7105 w12 ho13 hb hg_ hnew_; clear hg_ hnew_; (first | rw [← Ny7104.out] at ho13 | (simp only [Int.reduceToNat] at ho13; rw [← Ny7104.out] at ho13)); have n0_ := Aside0.mk (Kd.R_elder' (rl HO7103) (Kd.R_base ho13) hb); have n1_ := Aside0.mk (Kd.R_lower (Kd.R_new' ho13 (Kd.R_lt (rl HO7103))) (below_size bel)); have n2_ := Aside0.mk (below_step bel hb); clear HO7103; clear HB; have HO7103 := n0_; have HO7106 := n1_; have HB := n2_; clear n0_ n1_ n2_; clear hb ho13; obtain ⟨Ao14, co14, eo14⟩ := Kd.R_slice HO7103.out; subst eo14; obtain ⟨Ao15, co15, eo15⟩ := Kd.R_slice HO7106.out; subst eo15) | ((with_reducible refine gate_callee (f := 9) rfl ?_); refine goesL_ (some 7) rfl rfl Tryd.func9 (by kernel_rfl) rfl #[.slice Ao14 y7101.length co14, .slice Ao15 y7104.length co15, .agg #[.int .i64 2, .int .i64 1, .int .i64 3, .int .i64 0]] rfl (by (try simp only [List.map_toArray, List.map_cons, List.map_nil]); first | done | rfl | (simp only [List.length_drop, List.length_take]; rfl)) ?_; (with_reducible refine (slim_Least.calls k _ _ y7101 _ _ y7104 2 1 3 0 t7107 t7108 _ ?side1 ?side2 ?side3 ?side4 ?side5 A1.out).mono ?_); (case side1 => repeat (first | exact (Kd.R_reads' HO7103.out).2.2 | (with_reducible refine Kd.C_alloc ?_ _) | (with_reducible refine Kd.C_drewN ?_ _) | (with_reducible refine Kd.C_drew ?_))); (case side2 => exact (Kd.R_reads' HO7103.out).2.1); (case side3 => repeat (first | exact (Kd.R_reads' HO7106.out).2.2 | (with_reducible refine Kd.C_alloc ?_ _) | (with_reducible refine Kd.C_drewN ?_ _) | (with_reducible refine Kd.C_drew ?_))); (case side4 => exact (Kd.R_reads' HO7106.out).2.1); (case side5 => exact Utf.tabs_step2 HT.out bel); rintro e w16 ⟨rfl, hb⟩; refine ⟨_, rfl, ?_⟩; replace HO7103 := Aside0.mk (Kd.R_below (rl HO7103) hb); replace HO7106 := Aside0.mk (Kd.R_below (rl HO7106) hb); replace HB := Aside0.mk (below_step bel hb); (try clear hb); (try clear hb2); (try clear hk); (try clear hi)))
  go_ret; exact ⟨by first | rfl | (simp [errW_none, errW_some] <;> rfl) | (simp [*, errW_none, errW_some] <;> rfl), by exact bel⟩
end Go.Proofs.YtbpinnanfanaaaaDoor.M
namespace Go.Proofs.YtbpinnanfanaaaaDoor.M
open Go.RowKit Go.Proofs.YtbpinnanfanaaaaDoor.Mi Go.Proofs.YtbpinnanfanaaaaDoorW.PrintWords Go.Proofs.YtbpinnanfanaaaaDoorW.PrintLast Go.Proofs.YtbpinnanfanaaaaDoorW.PrintMore
attribute [local go_sem] min2_int min_two min_three   -- for this text's walks alone
set_option linter.unusedVariables false
set_option linter.unusedSimpArgs false
/-! ### siglumref09_Little: function 15 -/
def siglumref09_Little.l0 : Nat → List Int → Int → Int → Int → Option (Bool)
 | 0, _, _, _, _ => none
 | k + 1, x0, x3, x4, x5 => if x5 < (x0.length : Int) then (if x3 > 0 then (if 0 ≤ x5 then (if x3 = 0 then (none) else (if (rd x0 x5) > (wrap64 (Int.tdiv x4 x3)) then (some false) else (siglumref09_Little.l0 k x0 (wrap64 (x3 + (rd x0 x5))) (wrap64 (x4 - (wrap64 (x3 * (rd x0 x5))))) (wrap64 (x5 + 1))))) else (none)) else (if 0 ≤ x5 then (siglumref09_Little.l0 k x0 (wrap64 (x3 + (rd x0 x5))) (wrap64 (x4 - (wrap64 (x3 * (rd x0 x5))))) (wrap64 (x5 + 1))) else (none))) else (some true)
def siglumref09_Little.f (k : Nat) (l0 : List Int) : Option (Bool) := siglumref09_Little.l0 k l0 0 4000000 0
set_option maxHeartbeats 8000000 in
set_option maxRecDepth 100000 in
theorem siglumref09_Little.calls (k : Nat) (A0 : Option Addr) (c0 : Nat) (l0 : List Int) (r : Bool) (w : World) (hr0 : Kd.C (Kd.int .i64) w A0 l0.length l0) (hc0 : l0.length ≤ c0) (h : siglumref09_Little.f k l0 = some r) :
 Calls Tryd.prog 15 #[.slice A0 l0.length c0] w fun e w' => e = .returned (.bool r) ∧ Drawn0 w w' := by
 have HR0 := Aside0.mk hr0; have HC0 := Aside0.mk hc0; clear hr0 hc0; have H : (siglumref09_Little.l0 k l0 0 4000000 0) = some r := h; clear h; have H' := Aside0.mk H; clear H
 go_enter Tryd.func15, Tryd.ntmps15
 go_wp2
 repeat (go_quiet (fail); try go_wp2)
 go_loopg [3, 4, 5] k (fun kq v3 v4 v5 w' => ∃ (x3_1 : Int) (x4_1 : Int) (x5_1 : Int), v3 = .int .i64 x3_1 ∧ v4 = .int .i64 x4_1 ∧ v5 = .int .i64 x5_1 ∧ Aside0 (siglumref09_Little.l0 kq l0 x3_1 x4_1 x5_1 = some r) ∧ Aside0 (kq ≤ k) ∧ Drawn0 w w')
 case atStart => exact ⟨(0), (4000000), (0), (by first | rfl | (simp; done) | (simp [*]; done)), (by first | rfl | (simp; done) | (simp [*]; done)), (by first | rfl | (simp; done) | (simp [*]; done)), H', ⟨Nat.le_refl _⟩, by repeat (first | exact Drawn0.refl _ | apply Drawn0.step)⟩
 case round =>
  clear H'; (try clear c1); obtain ⟨x3_1, x4_1, x5_1, rfl, rfl, rfl, HA, HK1, ⟨m1, rfl⟩⟩ := hrel
  cases gk with
  | zero => exact absurd HA.out (by simp [siglumref09_Little.l0])
  | succ k1 =>
   have H := HA.out; clear HA; simp only [siglumref09_Little.l0] at H
   by_cases c2 : x5_1 < (l0.length : Int)
   ·
    rw [if_pos c2] at H; have c2b0 : decide (x5_1 < (l0.length : Int)) = true := decide_eq_true c2; clear c2
    by_cases c3 : x3_1 > 0
    ·
     rw [if_pos c3] at H; have c3b0 : decide (0 < x3_1) = true := decide_eq_true c3; clear c3
     by_cases c4 : 0 ≤ x5_1
     rotate_left
     · rw [if_neg c4] at H; exact absurd H (by simp)
     rw [if_pos c4] at H; have c4b0 : decide (0 ≤ x5_1) = true := decide_eq_true c4; clear c4
     by_cases c5 : x3_1 = 0
     ·
      rw [if_pos c5] at H; exact absurd H (by simp)
     ·
      rw [if_neg c5] at H; have c5b0 : (x3_1 == 0) = false := beq_eq_false_iff_ne.mpr c5; have c5b1 : (x3_1 != 0) = true := bne_iff_ne.mpr c5
      by_cases c6 : (rd l0 x5_1) > (wrap64 (Int.tdiv x4_1 x3_1))
      ·
       rw [if_pos c6] at H; have c6b0 : decide ((wrap64 (Int.tdiv x4_1 x3_1)) < (rd l0 x5_1)) = true := decide_eq_true c6; clear c6; obtain rfl := Option.some.inj H; have p15101 : 0 ≤ (x5_1 : Int) := oda; have q15101 : x5_1 < (l0.length : Int) := oda; obtain ⟨ad15101, e15101, hx15101_0⟩ := Kd.at_int HR0.out x5_1 p15101 q15101; cases e15101; replace p15101 := eq_true p15101; replace q15101 := eq_true q15101; go_wp2
       repeat (go_quiet (fail); try go_wp2)
       go_ret; exact ⟨by first | rfl | (simp; done) | (simp [*]; done), by repeat (first | exact Drawn0.refl _ | apply Drawn0.step)⟩
      ·
       rw [if_neg c6] at H; have c6b0 : decide ((wrap64 (Int.tdiv x4_1 x3_1)) < (rd l0 x5_1)) = false := decide_eq_false c6; clear c6; have H' := Aside0.mk H; clear H; have p15101 : 0 ≤ (x5_1 : Int) := oda; have q15101 : x5_1 < (l0.length : Int) := oda; obtain ⟨ad15101, e15101, hx15101_0⟩ := Kd.at_int HR0.out x5_1 p15101 q15101; cases e15101; replace p15101 := eq_true p15101; replace q15101 := eq_true q15101; have p15102 : 0 ≤ (x5_1 : Int) := oda; have q15102 : x5_1 < (l0.length : Int) := oda; obtain ⟨ad15102, e15102, hx15102_0⟩ := Kd.at_int HR0.out x5_1 p15102 q15102; obtain rfl : ad15101 = ad15102 := (by injection e15102); replace p15102 := eq_true p15102; replace q15102 := eq_true q15102; have p15103 : 0 ≤ (x5_1 : Int) := oda; have q15103 : x5_1 < (l0.length : Int) := oda; obtain ⟨ad15103, e15103, hx15103_0⟩ := Kd.at_int HR0.out x5_1 p15103 q15103; obtain rfl : ad15101 = ad15103 := (by injection e15103); replace p15103 := eq_true p15103; replace q15103 := eq_true q15103; go_wp2
       repeat (go_quiet (fail); try go_wp2)
       go_roundg k1
       case measure => have := HK1.out; omega
       case rel => exact ⟨(wrap64 (x3_1 + (rd l0 x5_1))), (wrap64 (x4_1 - (wrap64 (x3_1 * (rd l0 x5_1))))), (wrap64 (x5_1 + 1)), (by first | rfl | (simp; done) | (simp [*]; done)), (by first | rfl | (simp; done) | (simp [*]; done)), (by first | rfl | (simp; done) | (simp [*]; done)), H', ⟨by have := HK1.out; omega⟩, by repeat (first | exact Drawn0.refl _ | apply Drawn0.step)⟩
    ·
     rw [if_neg c3] at H; have c3b0 : decide (0 < x3_1) = false := decide_eq_false c3; clear c3
     by_cases c7 : 0 ≤ x5_1
     rotate_left
     · rw [if_neg c7] at H; exact absurd H (by simp)
     rw [if_pos c7] at H; have c7b0 : decide (0 ≤ x5_1) = true := decide_eq_true c7; clear c7; have H' := Aside0.mk H; clear H; have p15104 : 0 ≤ (x5_1 : Int) := oda; have q15104 : x5_1 < (l0.length : Int) := oda; obtain ⟨ad15104, e15104, hx15104_0⟩ := Kd.at_int HR0.out x5_1 p15104 q15104; cases e15104; replace p15104 := eq_true p15104; replace q15104 := eq_true q15104; have p15105 : 0 ≤ (x5_1 : Int) := oda; have q15105 : x5_1 < (l0.length : Int) := oda; obtain ⟨ad15105, e15105, hx15105_0⟩ := Kd.at_int HR0.out x5_1 p15105 q15105; obtain rfl : ad15104 = ad15105 := (by injection e15105); replace p15105 := eq_true p15105; replace q15105 := eq_true q15105; go_wp2
     repeat (go_quiet (fail); try go_wp2)
     go_roundg k1
     case measure => have := HK1.out; omega
     case rel => exact ⟨(wrap64 (x3_1 + (rd l0 x5_1))), (wrap64 (x4_1 - (wrap64 (x3_1 * (rd l0 x5_1))))), (wrap64 (x5_1 + 1)), (by first | rfl | (simp; done) | (simp [*]; done)), (by first | rfl | (simp; done) | (simp [*]; done)), (by first | rfl | (simp; done) | (simp [*]; done)), H', ⟨by have := HK1.out; omega⟩, by repeat (first | exact Drawn0.refl _ | apply Drawn0.step)⟩
   ·
    rw [if_neg c2] at H; have c2b0 : decide (x5_1 < (l0.length : Int)) = false := decide_eq_false c2; clear c2; obtain rfl := Option.some.inj H; go_wp2
    repeat (go_quiet (fail); try go_wp2)
    go_ret; exact ⟨by first | rfl | (simp; done) | (simp [*]; done), by repeat (first | exact Drawn0.refl _ | apply Drawn0.step)⟩
end Go.Proofs.YtbpinnanfanaaaaDoor.M
namespace Go.Proofs.YtbpinnanfanaaaaDoor.M
open Go.RowKit Go.Proofs.YtbpinnanfanaaaaDoor.Mi Go.Proofs.YtbpinnanfanaaaaDoorW.PrintWords Go.Proofs.YtbpinnanfanaaaaDoorW.PrintLast Go.Proofs.YtbpinnanfanaaaaDoorW.PrintMore
attribute [local go_sem] min2_int min_two min_three   -- for this text's walks alone
set_option linter.unusedVariables false
set_option linter.unusedSimpArgs false
/-! ### siglumref09_Weight: function 16 -/
def siglumref09_Weight.l0 : Nat → List ByteArray → Int → Int → Option (Int)
 | 0, _, _, _ => none
 | k + 1, x0, x3, x4 => if x4 < (x0.length : Int) then (if 0 ≤ x4 then (siglumref09_Weight.l0 k x0 (wrap64 (x3 + ((rdOf ByteArray.empty x0 x4).size : Int))) (wrap64 (x4 + 1))) else (none)) else (some x3)
def siglumref09_Weight.f (k : Nat) (l0 : List ByteArray) : Option (Int) := siglumref09_Weight.l0 k l0 (l0.length : Int) 0
set_option maxHeartbeats 8000000 in
set_option maxRecDepth 100000 in
theorem siglumref09_Weight.calls (k : Nat) (A0 : Option Addr) (c0 : Nat) (l0 : List ByteArray) (r : Int) (w : World) (hr0 : Kd.C Kd.string w A0 l0.length l0) (hc0 : l0.length ≤ c0) (h : siglumref09_Weight.f k l0 = some r) :
 Calls Tryd.prog 16 #[.slice A0 l0.length c0] w fun e w' => e = .returned (.int .i64 r) ∧ Drawn0 w w' := by
 have HR0 := Aside0.mk hr0; have HC0 := Aside0.mk hc0; clear hr0 hc0; have H : (siglumref09_Weight.l0 k l0 (l0.length : Int) 0) = some r := h; clear h; have H' := Aside0.mk H; clear H
 go_enter Tryd.func16, Tryd.ntmps16
 go_wp2
 go_loopg [3, 4] k (fun kq v3 v4 w' => ∃ (x3_1 : Int) (x4_1 : Int), v3 = .int .i64 x3_1 ∧ v4 = .int .i64 x4_1 ∧ Aside0 (siglumref09_Weight.l0 kq l0 x3_1 x4_1 = some r) ∧ Aside0 (kq ≤ k) ∧ Drawn0 w w')
 case atStart => exact ⟨((l0.length : Int)), (0), (by first | rfl | (simp; done) | (simp [*]; done)), (by first | rfl | (simp; done) | (simp [*]; done)), H', ⟨Nat.le_refl _⟩, by repeat (first | exact Drawn0.refl _ | apply Drawn0.step)⟩
 case round =>
  clear H'; (try clear c1); obtain ⟨x3_1, x4_1, rfl, rfl, HA, HK1, ⟨m1, rfl⟩⟩ := hrel
  cases gk with
  | zero => exact absurd HA.out (by simp [siglumref09_Weight.l0])
  | succ k1 =>
   have H := HA.out; clear HA; simp only [siglumref09_Weight.l0] at H
   by_cases c2 : x4_1 < (l0.length : Int)
   ·
    rw [if_pos c2] at H; have c2b0 : decide (x4_1 < (l0.length : Int)) = true := decide_eq_true c2; clear c2
    by_cases c3 : 0 ≤ x4_1
    rotate_left
    · rw [if_neg c3] at H; exact absurd H (by simp)
    rw [if_pos c3] at H; have c3b0 : decide (0 ≤ x4_1) = true := decide_eq_true c3; clear c3; have H' := Aside0.mk H; clear H; have p16101 : 0 ≤ (x4_1 : Int) := oda; have q16101 : x4_1 < (l0.length : Int) := oda; obtain ⟨ad16101, e16101, hx16101_0⟩ := Kd.at_string HR0.out x4_1 p16101 q16101; cases e16101; replace p16101 := eq_true p16101; replace q16101 := eq_true q16101; go_wp2
    go_roundg k1
    case measure => have := HK1.out; omega
    case rel => exact ⟨(wrap64 (x3_1 + ((rdOf ByteArray.empty l0 x4_1).size : Int))), (wrap64 (x4_1 + 1)), (by first | rfl | (simp; done) | (simp [*]; done)), (by first | rfl | (simp; done) | (simp [*]; done)), H', ⟨by have := HK1.out; omega⟩, by repeat (first | exact Drawn0.refl _ | apply Drawn0.step)⟩
   ·
    rw [if_neg c2] at H; have c2b0 : decide (x4_1 < (l0.length : Int)) = false := decide_eq_false c2; clear c2; obtain rfl := Option.some.inj H; go_wp2; go_ret; exact ⟨by first | rfl | (simp; done) | (simp [*]; done), by repeat (first | exact Drawn0.refl _ | apply Drawn0.step)⟩
end Go.Proofs.YtbpinnanfanaaaaDoor.M
namespace Go.Proofs.YtbpinnanfanaaaaDoor.M
open Go.RowKit Go.Proofs.YtbpinnanfanaaaaDoor.Mi Go.Proofs.YtbpinnanfanaaaaDoorW.PrintWords Go.Proofs.YtbpinnanfanaaaaDoorW.PrintLast Go.Proofs.YtbpinnanfanaaaaDoorW.PrintMore
attribute [local go_sem] min2_int min_two min_three   -- for this text's walks alone
set_option linter.unusedVariables false
set_option linter.unusedSimpArgs false
/-! ### siglumref09_Light: function 8 -/
def siglumref09_Light.f (k : Nat) (l0 : List ByteArray) (l1 : List ByteArray) : Option (Bool) := if (l0.length : Int) > 1024 then (some true) else (if (l1.length : Int) > 1024 then (some true) else ((siglumref09_Weight.f k l0).bind fun t8101 => ((siglumref09_Weight.f k l1).bind fun t8102 => ((siglumref09_Little.f k (([t8101, t8102] : List Int))).bind fun t8106 => (some t8106)))))
set_option maxHeartbeats 8000000 in
set_option maxRecDepth 100000 in
theorem siglumref09_Light.calls (k : Nat) (A0 : Option Addr) (c0 : Nat) (l0 : List ByteArray) (A1 : Option Addr) (c1 : Nat) (l1 : List ByteArray) (r : Bool) (w : World) (hr0 : Kd.C Kd.string w A0 l0.length l0) (hc0 : l0.length ≤ c0) (hr1 : Kd.C Kd.string w A1 l1.length l1) (hc1 : l1.length ≤ c1) (h : siglumref09_Light.f k l0 l1 = some r) :
 Calls Tryd.prog 8 #[.slice A0 l0.length c0, .slice A1 l1.length c1] w fun e w' => e = .returned (.bool r) ∧ Below w.heap.size w w' := by
 have HR0 := Aside0.mk hr0; have HC0 := Aside0.mk hc0; clear hr0 hc0; have HR1 := Aside0.mk hr1; have HC1 := Aside0.mk hc1; clear hr1 hc1; have HB := Aside0.mk (Below.refl w.heap.size w); have H : (if (l0.length : Int) > 1024 then (some true) else (if (l1.length : Int) > 1024 then (some true) else ((siglumref09_Weight.f k l0).bind fun t8101 => ((siglumref09_Weight.f k l1).bind fun t8102 => ((siglumref09_Little.f k (([t8101, t8102] : List Int))).bind fun t8106 => (some t8106)))))) = some r := h; clear h
 by_cases c3 : (l0.length : Int) > 1024
 ·
  rw [if_pos c3] at H; have c3b0 : decide (1024 < (l0.length : Int)) = true := decide_eq_true c3; have c3b1 : decide (1024 < l0.length) = true := decide_eq_true (by omega); clear c3; obtain rfl := Option.some.inj H
  go_enter Tryd.func8, Tryd.ntmps8
  go_wp2; go_ret; exact ⟨by first | rfl | (simp [errW_none, errW_some] <;> rfl) | (simp [*, errW_none, errW_some] <;> rfl), by exact bel⟩
 ·
  rw [if_neg c3] at H; have c3b0 : decide (1024 < (l0.length : Int)) = false := decide_eq_false c3; have c3b1 : decide (1024 < l0.length) = false := decide_eq_false (by omega); clear c3
  by_cases c4 : (l1.length : Int) > 1024
  ·
   rw [if_pos c4] at H; have c4b0 : decide (1024 < (l1.length : Int)) = true := decide_eq_true c4; have c4b1 : decide (1024 < l1.length) = true := decide_eq_true (by omega); clear c4; obtain rfl := Option.some.inj H
   go_enter Tryd.func8, Tryd.ntmps8
   go_wp2; go_ret; exact ⟨by first | rfl | (simp [errW_none, errW_some] <;> rfl) | (simp [*, errW_none, errW_some] <;> rfl), by exact bel⟩
  ·
   rw [if_neg c4] at H; have c4b0 : decide (1024 < (l1.length : Int)) = false := decide_eq_false c4; have c4b1 : decide (1024 < l1.length) = false := decide_eq_false (by omega); clear c4; replace H := Option.bind_eq_some_iff.mp H; obtain ⟨t8101, A50, H⟩ := H; (try dsimp only at H); have A5 := Aside0.mk A50; clear A50; replace H := Option.bind_eq_some_iff.mp H; obtain ⟨t8102, A60, H⟩ := H; (try dsimp only at H); have A6 := Aside0.mk A60; clear A60
   obtain ⟨y8103, hy8103⟩ : ∃ y_ : List Int, y_ = (([t8101, t8102] : List Int)) := ⟨_, rfl⟩
   (try rw [← hy8103] at H); (try rw [Option.bind_some] at H); (try dsimp only at H); have Ny8103 := Aside0.mk hy8103; clear hy8103; replace H := Option.bind_eq_some_iff.mp H; obtain ⟨t8106, A70, H⟩ := H; (try dsimp only at H); have A7 := Aside0.mk A70; clear A70; obtain rfl := Option.some.inj H
   go_enter Tryd.func8, Tryd.ntmps8
   go_wp2_with (first | (go_at_call 16; (with_reducible refine (siglumref09_Weight.calls k _ _ l0 t8101 _ ?side1 ?side2 A5.out).mono ?_); (case side1 => repeat (first | exact HR0.out | (with_reducible refine Kd.C_alloc ?_ _) | (with_reducible refine Kd.C_drewN ?_ _) | (with_reducible refine Kd.C_drew ?_))); (case side2 => exact HC0.out); rintro e w' ⟨rfl, ⟨nd, rfl⟩⟩) | (go_at_call 16; (with_reducible refine (siglumref09_Weight.calls k _ _ l1 t8102 _ ?side1 ?side2 A6.out).mono ?_); (case side1 => repeat (first | exact HR1.out | (with_reducible refine Kd.C_alloc ?_ _) | (with_reducible refine Kd.C_drewN ?_ _) | (with_reducible refine Kd.C_drew ?_))); (case side2 => exact HC1.out); rintro e w' ⟨rfl, ⟨nd, rfl⟩⟩) | ((with_reducible refine gate_dst (N := 18) rfl ?_); (try (refine gate_guard (by rfl) ?_; dsimp only)); refine Kd.R_lit (Kd.int .i64) _ 3 ?hg (N := 18) ?hd (xs := ([t8101, t8102] : List Int)) (inner := [.int .i64 t8101, .int .i64 t8102]) (ok := fun _ => True) (okp := fun _ => True) ?hr ?hp (fun _ hk => hk) trivial (Below.refl _ _) (Nat.le_refl _) (by simp) ?_; (case hd => rfl); (case hg => rfl); (case hr => first | (go_simp; done) | (go_simp; rfl)); (case hp => exact (Reps.one (show Kd.M (Kd.int .i64) _ _ _ t8101 [.int .i64 t8101] from rfl) (Reps.one (show Kd.M (Kd.int .i64) _ _ _ t8102 [.int .i64 t8102] from rfl) (Reps.none _ _)))); intro v8104 w8 ho9 hb hg_ hnew_; clear hg_ hnew_; (first | rw [← Ny8103.out] at ho9 | (simp only [Int.reduceToNat] at ho9; rw [← Ny8103.out] at ho9)); have HO8105 := Aside0.mk (Kd.R_lower ho9 (below_size bel)); replace HB := Aside0.mk (below_step bel hb); clear hb ho9; obtain ⟨Ao10, co10, eo10⟩ := Kd.R_slice HO8105.out; subst eo10) | (go_at_call 15; (with_reducible refine (siglumref09_Little.calls k _ _ y8103 t8106 _ ?side1 ?side2 A7.out).mono ?_); (case side1 => repeat (first | exact (Kd.R_reads' HO8105.out).2.2 | (with_reducible refine Kd.C_alloc ?_ _) | (with_reducible refine Kd.C_drewN ?_ _) | (with_reducible refine Kd.C_drew ?_))); (case side2 => exact (Kd.R_reads' HO8105.out).2.1); rintro e w' ⟨rfl, ⟨nd, rfl⟩⟩))
   go_ret; exact ⟨by first | rfl | (simp [errW_none, errW_some] <;> rfl) | (simp [*, errW_none, errW_some] <;> rfl), by exact bel⟩
end Go.Proofs.YtbpinnanfanaaaaDoor.M
