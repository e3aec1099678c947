-- Printed by hprint.py (this session's program over the kit's print) out of the translation; the parts 'by hand' are the session's own.
import Derived.Test.YtcpbalnbgmjhjaaDoorEx0
import Derived.Test.YtcpbalnbgmjhjaaDoorEx9
import Derived.Test.YtcpbalnbgmjhjaaDoorEx13
import Derived.Test.YtcpbalnbgmjhjaaDoorEx15
namespace Go.Proofs.YtcpbalnbgmjhjaaDoor.E
open Go.RowKit Go.Proofs.YtcpbalnbgmjhjaaDoorW.PrintWords Go.Proofs.YtcpbalnbgmjhjaaDoorW.PrintLast Go.Proofs.YtcpbalnbgmjhjaaDoorW.PrintMore
attribute [local go_sem] max2_int min2_int max_two min_two max_three min_three max_four min_four   -- for this text's walks alone
set_option linter.unusedVariables false
set_option linter.unusedSimpArgs false

/-! ### siglumlaw09_CostFolded: function 8 -/
def siglumlaw09_CostFolded.j0 : Nat → ByteArray → ByteArray → ByteArray → ByteArray → Bool → Int → Int → Int → Int → Option (Bool)
  | 0, _, _, _, _, _, _, _, _, _ => none
  | k + 1, x0, x1, x7, x9, x67, x215000, x215001, x215002, x215003 => if x67 = true then (some true) else ((cost_Words.f k x0 x1 x215000 x215001 x215002 x215003).bind fun bt222 => ((cost_Words.f k x7 x9 x215000 x215001 x215002 x215003).bind fun bt224 => (if bt222.2 = bt224.2 then (some (bt222.1 == bt224.1)) else (some false))))
def siglumlaw09_CostFolded.f (k : Nat) (a0 : ByteArray) (a1 : ByteArray) (a2_0 : Int) (a2_1 : Int) (a2_2 : Int) (a2_3 : Int) : Option (Bool) := (siglumlaw09_awake.f k).bind fun t215 => (if t215 = true then ((fold_Text.f a0 a2_3).bind fun bt216 => ((fold_Text.f a1 a2_3).bind fun bt218 => (if bt216.2 = 0 then (if bt218.2 = 0 then (if a0.toList = ([226, 151, 140] : List UInt8) then (siglumlaw09_CostFolded.j0 k a0 a1 bt216.1 bt218.1 true a2_0 a2_1 a2_2 a2_3) else (if a1.toList = ([226, 151, 140] : List UInt8) then (siglumlaw09_CostFolded.j0 k a0 a1 bt216.1 bt218.1 true a2_0 a2_1 a2_2 a2_3) else (if bt216.1.toList = ([226, 151, 140] : List UInt8) then (siglumlaw09_CostFolded.j0 k a0 a1 bt216.1 bt218.1 true a2_0 a2_1 a2_2 a2_3) else (if bt218.1.toList = ([226, 151, 140] : List UInt8) then (siglumlaw09_CostFolded.j0 k a0 a1 bt216.1 bt218.1 true a2_0 a2_1 a2_2 a2_3) else ((glyph_Valid.f a0).bind fun t220 => (if t220 = true then ((glyph_Valid.f a1).bind fun t221 => (siglumlaw09_CostFolded.j0 k a0 a1 bt216.1 bt218.1 (!t221) a2_0 a2_1 a2_2 a2_3)) else (siglumlaw09_CostFolded.j0 k a0 a1 bt216.1 bt218.1 true a2_0 a2_1 a2_2 a2_3))))))) else (siglumlaw09_CostFolded.j0 k a0 a1 bt216.1 bt218.1 true a2_0 a2_1 a2_2 a2_3)) else (siglumlaw09_CostFolded.j0 k a0 a1 bt216.1 bt218.1 true a2_0 a2_1 a2_2 a2_3)))) else (some false))
theorem siglumlaw09_CostFolded.mono_l : ∀ k, (∀ y0 y1 y2 y3 y4 y5 y6 y7 y8, LeO (siglumlaw09_CostFolded.j0 k y0 y1 y2 y3 y4 y5 y6 y7 y8) (siglumlaw09_CostFolded.j0 (k + 1) y0 y1 y2 y3 y4 y5 y6 y7 y8))
  | 0 => fun _ _ _ _ _ _ _ _ _ r h => by simp [siglumlaw09_CostFolded.j0] at h
  | k + 1 => by
    have ih0 := siglumlaw09_CostFolded.mono_l k
    · intro y0 y1 y2 y3 y4 y5 y6 y7 y8
      unfold siglumlaw09_CostFolded.j0
      repeat' first
      | (with_reducible exact ih0 _ _ _ _ _ _ _ _ _)
      | (with_reducible exact cost_Words.mono _ _ _ _ _ _ _)
      | (with_reducible exact siglumlaw09_awake.mono _)
      | (with_reducible exact LeO.refl _)
      | (with_reducible exact LeO.none _)
      | (with_reducible refine LeO.ite ?_ ?_)
      | (with_reducible refine LeO.bind ?_ (fun _ => ?_))
      | exact ih0 _ _ _ _ _ _ _ _ _
      | exact cost_Words.mono _ _ _ _ _ _ _
      | exact siglumlaw09_awake.mono _
      | exact LeO.none _
      | refine LeO.ite ?_ ?_
      | refine LeO.bind ?_ (fun _ => ?_)
theorem siglumlaw09_CostFolded.mono : ∀ a0 a1 a2 a3 a4 a5 k, LeO (siglumlaw09_CostFolded.f k a0 a1 a2 a3 a4 a5) (siglumlaw09_CostFolded.f (k + 1) a0 a1 a2 a3 a4 a5) := by
  intro a0 a1 a2 a3 a4 a5 k
  have ih0 := siglumlaw09_CostFolded.mono_l k
  unfold siglumlaw09_CostFolded.f
  repeat' first
      | (with_reducible exact ih0 _ _ _ _ _ _ _ _ _)
      | (with_reducible exact cost_Words.mono _ _ _ _ _ _ _)
      | (with_reducible exact siglumlaw09_awake.mono _)
      | (with_reducible exact LeO.refl _)
      | (with_reducible exact LeO.none _)
      | (with_reducible refine LeO.ite ?_ ?_)
      | (with_reducible refine LeO.bind ?_ (fun _ => ?_))
      | exact ih0 _ _ _ _ _ _ _ _ _
      | exact cost_Words.mono _ _ _ _ _ _ _
      | exact siglumlaw09_awake.mono _
      | exact LeO.none _
      | refine LeO.ite ?_ ?_
      | refine LeO.bind ?_ (fun _ => ?_)
set_option maxHeartbeats 8000000 in
set_option maxRecDepth 100000 in
theorem siglumlaw09_CostFolded.calls (k : Nat) (a0 : ByteArray) (a1 : ByteArray) (a2_0 : Int) (a2_1 : Int) (a2_2 : Int) (a2_3 : Int) (r : Bool) (w : World) (hT : Utf.Tabs2 w) (h : siglumlaw09_CostFolded.f k a0 a1 a2_0 a2_1 a2_2 a2_3 = some r) :
    Calls Tryd.prog 8 #[.string a0, .string a1, .agg #[.int .i64 a2_0, .int .i64 a2_1, .int .i64 a2_2, .int .i64 a2_3]] w fun e w' => e = .returned (.bool r) ∧ Below w.heap.size w w' := by
  have hu23 := Tryd.underlying23
  have HT := Aside0.mk hT
  clear hT
  have HB := Aside0.mk (Below.refl w.heap.size w)
  have H : ((siglumlaw09_awake.f k).bind fun t215 => (if t215 = true then ((fold_Text.f a0 a2_3).bind fun bt216 => ((fold_Text.f a1 a2_3).bind fun bt218 => (if bt216.2 = 0 then (if bt218.2 = 0 then (if a0.toList = ([226, 151, 140] : List UInt8) then (siglumlaw09_CostFolded.j0 k a0 a1 bt216.1 bt218.1 true a2_0 a2_1 a2_2 a2_3) else (if a1.toList = ([226, 151, 140] : List UInt8) then (siglumlaw09_CostFolded.j0 k a0 a1 bt216.1 bt218.1 true a2_0 a2_1 a2_2 a2_3) else (if bt216.1.toList = ([226, 151, 140] : List UInt8) then (siglumlaw09_CostFolded.j0 k a0 a1 bt216.1 bt218.1 true a2_0 a2_1 a2_2 a2_3) else (if bt218.1.toList = ([226, 151, 140] : List UInt8) then (siglumlaw09_CostFolded.j0 k a0 a1 bt216.1 bt218.1 true a2_0 a2_1 a2_2 a2_3) else ((glyph_Valid.f a0).bind fun t220 => (if t220 = true then ((glyph_Valid.f a1).bind fun t221 => (siglumlaw09_CostFolded.j0 k a0 a1 bt216.1 bt218.1 (!t221) a2_0 a2_1 a2_2 a2_3)) else (siglumlaw09_CostFolded.j0 k a0 a1 bt216.1 bt218.1 true a2_0 a2_1 a2_2 a2_3))))))) else (siglumlaw09_CostFolded.j0 k a0 a1 bt216.1 bt218.1 true a2_0 a2_1 a2_2 a2_3)) else (siglumlaw09_CostFolded.j0 k a0 a1 bt216.1 bt218.1 true a2_0 a2_1 a2_2 a2_3)))) else (some false))) = some r := h
  clear h
  replace H := Option.bind_eq_some_iff.mp H
  obtain ⟨t215, A40, H⟩ := H
  replace H : (if t215 = true then ((fold_Text.f a0 a2_3).bind fun bt216 => ((fold_Text.f a1 a2_3).bind fun bt218 => (if bt216.2 = 0 then (if bt218.2 = 0 then (if a0.toList = ([226, 151, 140] : List UInt8) then (siglumlaw09_CostFolded.j0 k a0 a1 bt216.1 bt218.1 true a2_0 a2_1 a2_2 a2_3) else (if a1.toList = ([226, 151, 140] : List UInt8) then (siglumlaw09_CostFolded.j0 k a0 a1 bt216.1 bt218.1 true a2_0 a2_1 a2_2 a2_3) else (if bt216.1.toList = ([226, 151, 140] : List UInt8) then (siglumlaw09_CostFolded.j0 k a0 a1 bt216.1 bt218.1 true a2_0 a2_1 a2_2 a2_3) else (if bt218.1.toList = ([226, 151, 140] : List UInt8) then (siglumlaw09_CostFolded.j0 k a0 a1 bt216.1 bt218.1 true a2_0 a2_1 a2_2 a2_3) else ((glyph_Valid.f a0).bind fun t220 => (if t220 = true then ((glyph_Valid.f a1).bind fun t221 => (siglumlaw09_CostFolded.j0 k a0 a1 bt216.1 bt218.1 (!t221) a2_0 a2_1 a2_2 a2_3)) else (siglumlaw09_CostFolded.j0 k a0 a1 bt216.1 bt218.1 true a2_0 a2_1 a2_2 a2_3))))))) else (siglumlaw09_CostFolded.j0 k a0 a1 bt216.1 bt218.1 true a2_0 a2_1 a2_2 a2_3)) else (siglumlaw09_CostFolded.j0 k a0 a1 bt216.1 bt218.1 true a2_0 a2_1 a2_2 a2_3)))) else (some false)) = some r := H
  have A4 := Aside0.mk A40
  clear A40
  by_cases c5 : t215 = true
  · subst c5
    have H1 : ((fold_Text.f a0 a2_3).bind fun bt216 => ((fold_Text.f a1 a2_3).bind fun bt218 => (if bt216.2 = 0 then (if bt218.2 = 0 then (if a0.toList = ([226, 151, 140] : List UInt8) then (siglumlaw09_CostFolded.j0 k a0 a1 bt216.1 bt218.1 true a2_0 a2_1 a2_2 a2_3) else (if a1.toList = ([226, 151, 140] : List UInt8) then (siglumlaw09_CostFolded.j0 k a0 a1 bt216.1 bt218.1 true a2_0 a2_1 a2_2 a2_3) else (if bt216.1.toList = ([226, 151, 140] : List UInt8) then (siglumlaw09_CostFolded.j0 k a0 a1 bt216.1 bt218.1 true a2_0 a2_1 a2_2 a2_3) else (if bt218.1.toList = ([226, 151, 140] : List UInt8) then (siglumlaw09_CostFolded.j0 k a0 a1 bt216.1 bt218.1 true a2_0 a2_1 a2_2 a2_3) else ((glyph_Valid.f a0).bind fun t220 => (if t220 = true then ((glyph_Valid.f a1).bind fun t221 => (siglumlaw09_CostFolded.j0 k a0 a1 bt216.1 bt218.1 (!t221) a2_0 a2_1 a2_2 a2_3)) else (siglumlaw09_CostFolded.j0 k a0 a1 bt216.1 bt218.1 true a2_0 a2_1 a2_2 a2_3))))))) else (siglumlaw09_CostFolded.j0 k a0 a1 bt216.1 bt218.1 true a2_0 a2_1 a2_2 a2_3)) else (siglumlaw09_CostFolded.j0 k a0 a1 bt216.1 bt218.1 true a2_0 a2_1 a2_2 a2_3)))) = some r := by rw [if_pos rfl] at H; exact H
    clear H
    have H := H1
    clear H1
    replace H := Option.bind_eq_some_iff.mp H
    obtain ⟨⟨t216, t217⟩, A60, H⟩ := H
    replace H : ((fold_Text.f a1 a2_3).bind fun bt218 => (if t217 = 0 then (if bt218.2 = 0 then (if a0.toList = ([226, 151, 140] : List UInt8) then (siglumlaw09_CostFolded.j0 k a0 a1 t216 bt218.1 true a2_0 a2_1 a2_2 a2_3) else (if a1.toList = ([226, 151, 140] : List UInt8) then (siglumlaw09_CostFolded.j0 k a0 a1 t216 bt218.1 true a2_0 a2_1 a2_2 a2_3) else (if t216.toList = ([226, 151, 140] : List UInt8) then (siglumlaw09_CostFolded.j0 k a0 a1 t216 bt218.1 true a2_0 a2_1 a2_2 a2_3) else (if bt218.1.toList = ([226, 151, 140] : List UInt8) then (siglumlaw09_CostFolded.j0 k a0 a1 t216 bt218.1 true a2_0 a2_1 a2_2 a2_3) else ((glyph_Valid.f a0).bind fun t220 => (if t220 = true then ((glyph_Valid.f a1).bind fun t221 => (siglumlaw09_CostFolded.j0 k a0 a1 t216 bt218.1 (!t221) a2_0 a2_1 a2_2 a2_3)) else (siglumlaw09_CostFolded.j0 k a0 a1 t216 bt218.1 true a2_0 a2_1 a2_2 a2_3))))))) else (siglumlaw09_CostFolded.j0 k a0 a1 t216 bt218.1 true a2_0 a2_1 a2_2 a2_3)) else (siglumlaw09_CostFolded.j0 k a0 a1 t216 bt218.1 true a2_0 a2_1 a2_2 a2_3))) = some r := H
    have A6 := Aside0.mk A60
    clear A60
    replace H := Option.bind_eq_some_iff.mp H
    obtain ⟨⟨t218, t219⟩, A70, H⟩ := H
    replace H : (if t217 = 0 then (if t219 = 0 then (if a0.toList = ([226, 151, 140] : List UInt8) then (siglumlaw09_CostFolded.j0 k a0 a1 t216 t218 true a2_0 a2_1 a2_2 a2_3) else (if a1.toList = ([226, 151, 140] : List UInt8) then (siglumlaw09_CostFolded.j0 k a0 a1 t216 t218 true a2_0 a2_1 a2_2 a2_3) else (if t216.toList = ([226, 151, 140] : List UInt8) then (siglumlaw09_CostFolded.j0 k a0 a1 t216 t218 true a2_0 a2_1 a2_2 a2_3) else (if t218.toList = ([226, 151, 140] : List UInt8) then (siglumlaw09_CostFolded.j0 k a0 a1 t216 t218 true a2_0 a2_1 a2_2 a2_3) else ((glyph_Valid.f a0).bind fun t220 => (if t220 = true then ((glyph_Valid.f a1).bind fun t221 => (siglumlaw09_CostFolded.j0 k a0 a1 t216 t218 (!t221) a2_0 a2_1 a2_2 a2_3)) else (siglumlaw09_CostFolded.j0 k a0 a1 t216 t218 true a2_0 a2_1 a2_2 a2_3))))))) else (siglumlaw09_CostFolded.j0 k a0 a1 t216 t218 true a2_0 a2_1 a2_2 a2_3)) else (siglumlaw09_CostFolded.j0 k a0 a1 t216 t218 true a2_0 a2_1 a2_2 a2_3)) = some r := H
    have A7 := Aside0.mk A70
    clear A70
    have HC8 := Aside0.mk H
    clear H
    go_enter Tryd.func8, Tryd.ntmps8
    go_upto_region 6 with (first | ((with_reducible refine gate_dst (N := 5) rfl ?_); refine box_event ?hg (N := 5) ?hd (cs := #[.int .i64 a2_0, .int .i64 a2_1, .int .i64 a2_2, .int .i64 a2_3]) (t := 23) ?hr ?_; (case hd => rfl); (case hg => rfl); (case hr => first | (go_simp; done) | (go_simp; rfl)); intro gb214 hg w9 hbox hb; have n0_ := Aside0.mk (below_step (by repeat (first | (with_reducible first | exact HB.out | apply below_alloc | apply pw_below_drewN | apply below_drew1) | exact HB.out)) hb); have n1_ := Aside0.mk (hbox); have n2_ := Aside0.mk ((by rw [hg]; exact (below_size (by repeat (first | (with_reducible first | exact HB.out | apply below_alloc | apply pw_below_drewN | apply below_drew1) | exact HB.out))) : w.heap.size ≤ gb214)); have n3_ := Aside0.mk ((by rw [hg]; exact (below_size (by repeat (first | (with_reducible first | exact HB.out | apply below_alloc | apply pw_below_drewN | apply below_drew1) | exact HB.out))) : w.heap.size ≤ gb214)); clear HB; have HB := n0_; have BK214 := n1_; have GW214 := n2_; have GE214 := n3_; clear n0_ n1_ n2_ n3_; clear hb hbox hg) | ((with_reducible refine gate_callee (f := 15) rfl ?_); refine goesL_ (some 16) rfl rfl Tryd.func15 (by kernel_rfl) rfl #[] rfl (by (try simp only [List.map_toArray, List.map_cons, List.map_nil]); first | done | rfl | (simp only [List.length_drop, List.length_take]; rfl)) ?_; (with_reducible refine (siglumlaw09_awake.calls k  true _ ?side1 A4.out).mono ?_); (case side1 => exact Utf.tabs_step2 HT.out (by repeat (first | (with_reducible first | exact HB.out | apply below_alloc | apply pw_below_drewN | apply below_drew1 | refine below_set ?_ GE214.out) | exact HB.out))); rintro e w10 ⟨rfl, hb⟩; refine ⟨_, rfl, ?_⟩; have n0_ := Aside0.mk (blk_below (g := gb214) (o := .cells #[.int .i64 a2_0, .int .i64 a2_1, .int .i64 a2_2, .int .i64 a2_3] 23 (0, 0)) (by (with_reducible repeat (first | refine blk_drewN ?_ _ | refine blk_drew ?_ | refine blk_alloc ?_ _)); exact BK214.out) hb); have n1_ := Aside0.mk (below_step (by repeat (first | (with_reducible first | exact HB.out | apply below_alloc | apply pw_below_drewN | apply below_drew1 | refine below_set ?_ GE214.out) | exact HB.out)) hb); clear BK214; clear HB; have BK214 := n0_; have HB := n1_; clear n0_ n1_; (try clear hb); (try clear hb2); (try clear hk); (try clear hi); have hcz11_0 : w10.cell? ⟨gb214, 0, none⟩ = some (.int .i64 a2_0) := (blk_cell BK214.out 0).trans rfl; have hcz11_1 : w10.cell? ⟨gb214, 1, none⟩ = some (.int .i64 a2_1) := (blk_cell BK214.out 1).trans rfl; have hcz11_2 : w10.cell? ⟨gb214, 2, none⟩ = some (.int .i64 a2_2) := (blk_cell BK214.out 2).trans rfl; have hcz11_3 : w10.cell? ⟨gb214, 3, none⟩ = some (.int .i64 a2_3) := (blk_cell BK214.out 3).trans rfl; have hfz11_0 := blk_frozen BK214.out 0; have hfz11_1 := blk_frozen BK214.out 1; have hfz11_2 := blk_frozen BK214.out 2; have hfz11_3 := blk_frozen BK214.out 3) | ((with_reducible refine gate_callee (f := 24) rfl ?_); refine goesL_ (some 22) rfl rfl Tryd.func24 (by kernel_rfl) rfl #[.string a0, .int .i64 a2_3] rfl (by (try simp only [List.map_toArray, List.map_cons, List.map_nil]); first | done | rfl | (simp only [List.length_drop, List.length_take]; rfl)) ?_; (with_reducible refine (fold_Text.calls a0 a2_3 t216 t217 _ ?side1 A6.out).mono ?_); (case side1 => exact Utf.tabs_step2 HT.out (by repeat (first | (with_reducible first | exact HB.out | apply below_alloc | apply pw_below_drewN | apply below_drew1 | refine below_set ?_ GE214.out) | exact HB.out))); rintro e w12 ⟨rfl, hb⟩; refine ⟨_, rfl, ?_⟩; have n0_ := Aside0.mk (blk_below (g := gb214) (o := .cells #[.int .i64 a2_0, .int .i64 a2_1, .int .i64 a2_2, .int .i64 a2_3] 23 (0, 0)) (by (with_reducible repeat (first | refine blk_drewN ?_ _ | refine blk_drew ?_ | refine blk_alloc ?_ _)); exact BK214.out) hb); have n1_ := Aside0.mk (below_step (by repeat (first | (with_reducible first | exact HB.out | apply below_alloc | apply pw_below_drewN | apply below_drew1 | refine below_set ?_ GE214.out) | exact HB.out)) hb); clear BK214; clear HB; have BK214 := n0_; have HB := n1_; clear n0_ n1_; (try clear hb); (try clear hb2); (try clear hk); (try clear hi); have hcz13_0 : w12.cell? ⟨gb214, 0, none⟩ = some (.int .i64 a2_0) := (blk_cell BK214.out 0).trans rfl; have hcz13_1 : w12.cell? ⟨gb214, 1, none⟩ = some (.int .i64 a2_1) := (blk_cell BK214.out 1).trans rfl; have hcz13_2 : w12.cell? ⟨gb214, 2, none⟩ = some (.int .i64 a2_2) := (blk_cell BK214.out 2).trans rfl; have hcz13_3 : w12.cell? ⟨gb214, 3, none⟩ = some (.int .i64 a2_3) := (blk_cell BK214.out 3).trans rfl; have hfz13_0 := blk_frozen BK214.out 0; have hfz13_1 := blk_frozen BK214.out 1; have hfz13_2 := blk_frozen BK214.out 2; have hfz13_3 := blk_frozen BK214.out 3) | ((with_reducible refine gate_callee (f := 24) rfl ?_); refine goesL_ (some 29) rfl rfl Tryd.func24 (by kernel_rfl) rfl #[.string a1, .int .i64 a2_3] rfl (by (try simp only [List.map_toArray, List.map_cons, List.map_nil]); first | done | rfl | (simp only [List.length_drop, List.length_take]; rfl)) ?_; (with_reducible refine (fold_Text.calls a1 a2_3 t218 t219 _ ?side1 A7.out).mono ?_); (case side1 => exact Utf.tabs_step2 HT.out (by repeat (first | (with_reducible first | exact HB.out | apply below_alloc | apply pw_below_drewN | apply below_drew1 | refine below_set ?_ GE214.out) | exact HB.out))); rintro e w14 ⟨rfl, hb⟩; refine ⟨_, rfl, ?_⟩; have n0_ := Aside0.mk (blk_below (g := gb214) (o := .cells #[.int .i64 a2_0, .int .i64 a2_1, .int .i64 a2_2, .int .i64 a2_3] 23 (0, 0)) (by (with_reducible repeat (first | refine blk_drewN ?_ _ | refine blk_drew ?_ | refine blk_alloc ?_ _)); exact BK214.out) hb); have n1_ := Aside0.mk (below_step (by repeat (first | (with_reducible first | exact HB.out | apply below_alloc | apply pw_below_drewN | apply below_drew1 | refine below_set ?_ GE214.out) | exact HB.out)) hb); clear BK214; clear HB; have BK214 := n0_; have HB := n1_; clear n0_ n1_; (try clear hb); (try clear hb2); (try clear hk); (try clear hi)))
    (try simp only [Act.put, List.setIfInBounds_toArray, List.set_cons_zero, List.set_cons_succ])
    go_cut [67] (fun v67 wc => ∃ (kq : Nat) (x67_7 : Bool), v67 = .bool x67_7 ∧ Aside0 (siglumlaw09_CostFolded.j0 kq a0 a1 t216 t218 x67_7 a2_0 a2_1 a2_2 a2_3 = some r) ∧ Aside0 (kq ≤ k) ∧ Aside0 (wc.heap[gb214]? = some (.cells #[.int .i64 a2_0, .int .i64 a2_1, .int .i64 a2_2, .int .i64 a2_3] 23 (0, 0))) ∧ Aside0 (Below w.heap.size w wc))
    case first =>
      have H := HC8.out
      clear HC8
      by_cases c15 : t217 = 0
      · rw [if_pos c15] at H
        have c15b0 : (t217 == 0) = true := beq_iff_eq.mpr c15
        have c15b1 : (t217 != 0) = false := bne_eq_false_iff_eq.mpr c15
        clear c15
        (first | rw [c15b0] | (simp only [i64_w, i32_w]; rw [c15b0]) | skip)
        by_cases c16 : t219 = 0
        · rw [if_pos c16] at H
          have c16b0 : (t219 == 0) = true := beq_iff_eq.mpr c16
          have c16b1 : (t219 != 0) = false := bne_eq_false_iff_eq.mpr c16
          clear c16
          by_cases c17 : a0.toList = ([226, 151, 140] : List UInt8)
          · rw [if_pos c17] at H
            have c17b0 : (a0.toList == ([226, 151, 140] : List UInt8)) = true := beq_iff_eq.mpr c17
            have c17b1 : (a0.toList != ([226, 151, 140] : List UInt8)) = false := bne_eq_false_iff_eq.mpr c17
            clear c17
            have H' := Aside0.mk H
            clear H
            go_wp2
            go_meet
            case rel => exact ⟨_, (true), (by first | rfl | (simp; done) | (simp [*]; done)), H', ⟨by first | omega | exact Nat.le_refl _⟩, ⟨by (with_reducible repeat (first | refine blk_drewN ?_ _ | refine blk_drew ?_ | refine blk_alloc ?_ _)); exact BK214.out⟩, ⟨by repeat (first | (with_reducible first | exact HB.out | apply below_alloc | apply pw_below_drewN | apply below_drew1 | refine below_set ?_ GE214.out) | exact HB.out)⟩⟩
          · rw [if_neg c17] at H
            have c17b0 : (a0.toList == ([226, 151, 140] : List UInt8)) = false := beq_eq_false_iff_ne.mpr c17
            have c17b1 : (a0.toList != ([226, 151, 140] : List UInt8)) = true := bne_iff_ne.mpr c17
            by_cases c18 : a1.toList = ([226, 151, 140] : List UInt8)
            · rw [if_pos c18] at H
              have c18b0 : (a1.toList == ([226, 151, 140] : List UInt8)) = true := beq_iff_eq.mpr c18
              have c18b1 : (a1.toList != ([226, 151, 140] : List UInt8)) = false := bne_eq_false_iff_eq.mpr c18
              clear c18
              have H' := Aside0.mk H
              clear H
              go_wp2
              go_meet
              case rel => exact ⟨_, (true), (by first | rfl | (simp; done) | (simp [*]; done)), H', ⟨by first | omega | exact Nat.le_refl _⟩, ⟨by (with_reducible repeat (first | refine blk_drewN ?_ _ | refine blk_drew ?_ | refine blk_alloc ?_ _)); exact BK214.out⟩, ⟨by repeat (first | (with_reducible first | exact HB.out | apply below_alloc | apply pw_below_drewN | apply below_drew1 | refine below_set ?_ GE214.out) | exact HB.out)⟩⟩
            · rw [if_neg c18] at H
              have c18b0 : (a1.toList == ([226, 151, 140] : List UInt8)) = false := beq_eq_false_iff_ne.mpr c18
              have c18b1 : (a1.toList != ([226, 151, 140] : List UInt8)) = true := bne_iff_ne.mpr c18
              by_cases c19 : t216.toList = ([226, 151, 140] : List UInt8)
              · rw [if_pos c19] at H
                have c19b0 : (t216.toList == ([226, 151, 140] : List UInt8)) = true := beq_iff_eq.mpr c19
                have c19b1 : (t216.toList != ([226, 151, 140] : List UInt8)) = false := bne_eq_false_iff_eq.mpr c19
                clear c19
                have H' := Aside0.mk H
                clear H
                go_wp2
                go_meet
                case rel => exact ⟨_, (true), (by first | rfl | (simp; done) | (simp [*]; done)), H', ⟨by first | omega | exact Nat.le_refl _⟩, ⟨by (with_reducible repeat (first | refine blk_drewN ?_ _ | refine blk_drew ?_ | refine blk_alloc ?_ _)); exact BK214.out⟩, ⟨by repeat (first | (with_reducible first | exact HB.out | apply below_alloc | apply pw_below_drewN | apply below_drew1 | refine below_set ?_ GE214.out) | exact HB.out)⟩⟩
              · rw [if_neg c19] at H
                have c19b0 : (t216.toList == ([226, 151, 140] : List UInt8)) = false := beq_eq_false_iff_ne.mpr c19
                have c19b1 : (t216.toList != ([226, 151, 140] : List UInt8)) = true := bne_iff_ne.mpr c19
                by_cases c20 : t218.toList = ([226, 151, 140] : List UInt8)
                · rw [if_pos c20] at H
                  have c20b0 : (t218.toList == ([226, 151, 140] : List UInt8)) = true := beq_iff_eq.mpr c20
                  have c20b1 : (t218.toList != ([226, 151, 140] : List UInt8)) = false := bne_eq_false_iff_eq.mpr c20
                  clear c20
                  have H' := Aside0.mk H
                  clear H
                  go_wp2
                  go_meet
                  case rel => exact ⟨_, (true), (by first | rfl | (simp; done) | (simp [*]; done)), H', ⟨by first | omega | exact Nat.le_refl _⟩, ⟨by (with_reducible repeat (first | refine blk_drewN ?_ _ | refine blk_drew ?_ | refine blk_alloc ?_ _)); exact BK214.out⟩, ⟨by repeat (first | (with_reducible first | exact HB.out | apply below_alloc | apply pw_below_drewN | apply below_drew1 | refine below_set ?_ GE214.out) | exact HB.out)⟩⟩
                · rw [if_neg c20] at H
                  have c20b0 : (t218.toList == ([226, 151, 140] : List UInt8)) = false := beq_eq_false_iff_ne.mpr c20
                  have c20b1 : (t218.toList != ([226, 151, 140] : List UInt8)) = true := bne_iff_ne.mpr c20
                  replace H := Option.bind_eq_some_iff.mp H
                  obtain ⟨t220, A210, H⟩ := H
                  replace H : (if t220 = true then ((glyph_Valid.f a1).bind fun t221 => (siglumlaw09_CostFolded.j0 k a0 a1 t216 t218 (!t221) a2_0 a2_1 a2_2 a2_3)) else (siglumlaw09_CostFolded.j0 k a0 a1 t216 t218 true a2_0 a2_1 a2_2 a2_3)) = some r := H
                  have A21 := Aside0.mk A210
                  clear A210
                  by_cases c22 : t220 = true
                  · subst c22
                    have H1 : ((glyph_Valid.f a1).bind fun t221 => (siglumlaw09_CostFolded.j0 k a0 a1 t216 t218 (!t221) a2_0 a2_1 a2_2 a2_3)) = some r := by rw [if_pos rfl] at H; exact H
                    clear H
                    have H := H1
                    clear H1
                    replace H := Option.bind_eq_some_iff.mp H
                    obtain ⟨t221, A230, H⟩ := H
                    replace H : (siglumlaw09_CostFolded.j0 k a0 a1 t216 t218 (!t221) a2_0 a2_1 a2_2 a2_3) = some r := H
                    have A23 := Aside0.mk A230
                    clear A230
                    have H' := Aside0.mk H
                    clear H
                    go_wp2_with (first | (go_at_call 25; (with_reducible refine (glyph_Valid.calls a0 true _ ?side1 A21.out).mono ?_); (case side1 => exact Utf.tabs_step HT.out.1 (by repeat (first | (with_reducible first | exact HB.out | apply below_alloc | apply pw_below_drewN | apply below_drew1 | refine below_set ?_ GE214.out) | exact HB.out))); rintro e w24 ⟨rfl, hb⟩; have n0_ := Aside0.mk (blk_below (g := gb214) (o := .cells #[.int .i64 a2_0, .int .i64 a2_1, .int .i64 a2_2, .int .i64 a2_3] 23 (0, 0)) (by (with_reducible repeat (first | refine blk_drewN ?_ _ | refine blk_drew ?_ | refine blk_alloc ?_ _)); exact BK214.out) hb); have n1_ := Aside0.mk (below_step (by repeat (first | (with_reducible first | exact HB.out | apply below_alloc | apply pw_below_drewN | apply below_drew1 | refine below_set ?_ GE214.out) | exact HB.out)) hb); clear BK214; clear HB; have BK214 := n0_; have HB := n1_; clear n0_ n1_; (try clear hb); (try clear hb2); (try clear hk); (try clear hi)) | (go_at_call 25; (with_reducible refine (glyph_Valid.calls a1 t221 _ ?side1 A23.out).mono ?_); (case side1 => exact Utf.tabs_step HT.out.1 (by repeat (first | (with_reducible first | exact HB.out | apply below_alloc | apply pw_below_drewN | apply below_drew1 | refine below_set ?_ GE214.out) | exact HB.out))); rintro e w25 ⟨rfl, hb⟩; have n0_ := Aside0.mk (blk_below (g := gb214) (o := .cells #[.int .i64 a2_0, .int .i64 a2_1, .int .i64 a2_2, .int .i64 a2_3] 23 (0, 0)) (by (with_reducible repeat (first | refine blk_drewN ?_ _ | refine blk_drew ?_ | refine blk_alloc ?_ _)); exact BK214.out) hb); have n1_ := Aside0.mk (below_step (by repeat (first | (with_reducible first | exact HB.out | apply below_alloc | apply pw_below_drewN | apply below_drew1 | refine below_set ?_ GE214.out) | exact HB.out)) hb); clear BK214; clear HB; have BK214 := n0_; have HB := n1_; clear n0_ n1_; (try clear hb); (try clear hb2); (try clear hk); (try clear hi)))
                    go_meet
                    case rel => exact ⟨_, (!t221), (by first | rfl | (simp; done) | (simp [*]; done)), H', ⟨by first | omega | exact Nat.le_refl _⟩, ⟨by (with_reducible repeat (first | refine blk_drewN ?_ _ | refine blk_drew ?_ | refine blk_alloc ?_ _)); exact BK214.out⟩, ⟨by repeat (first | (with_reducible first | exact HB.out | apply below_alloc | apply pw_below_drewN | apply below_drew1 | refine below_set ?_ GE214.out) | exact HB.out)⟩⟩
                  · replace c22 := Bool.eq_false_iff.mpr c22
                    subst c22
                    have H1 : (siglumlaw09_CostFolded.j0 k a0 a1 t216 t218 true a2_0 a2_1 a2_2 a2_3) = some r := by rw [if_neg (show ¬ (false = true) by decide)] at H; exact H
                    clear H
                    have H := H1
                    clear H1
                    have H' := Aside0.mk H
                    clear H
                    go_wp2_with (first | (go_at_call 25; (with_reducible refine (glyph_Valid.calls a0 false _ ?side1 A21.out).mono ?_); (case side1 => exact Utf.tabs_step HT.out.1 (by repeat (first | (with_reducible first | exact HB.out | apply below_alloc | apply pw_below_drewN | apply below_drew1 | refine below_set ?_ GE214.out) | exact HB.out))); rintro e w26 ⟨rfl, hb⟩; have n0_ := Aside0.mk (blk_below (g := gb214) (o := .cells #[.int .i64 a2_0, .int .i64 a2_1, .int .i64 a2_2, .int .i64 a2_3] 23 (0, 0)) (by (with_reducible repeat (first | refine blk_drewN ?_ _ | refine blk_drew ?_ | refine blk_alloc ?_ _)); exact BK214.out) hb); have n1_ := Aside0.mk (below_step (by repeat (first | (with_reducible first | exact HB.out | apply below_alloc | apply pw_below_drewN | apply below_drew1 | refine below_set ?_ GE214.out) | exact HB.out)) hb); clear BK214; clear HB; have BK214 := n0_; have HB := n1_; clear n0_ n1_; (try clear hb); (try clear hb2); (try clear hk); (try clear hi)))
                    go_meet
                    case rel => exact ⟨_, (true), (by first | rfl | (simp; done) | (simp [*]; done)), H', ⟨by first | omega | exact Nat.le_refl _⟩, ⟨by (with_reducible repeat (first | refine blk_drewN ?_ _ | refine blk_drew ?_ | refine blk_alloc ?_ _)); exact BK214.out⟩, ⟨by repeat (first | (with_reducible first | exact HB.out | apply below_alloc | apply pw_below_drewN | apply below_drew1 | refine below_set ?_ GE214.out) | exact HB.out)⟩⟩
        · rw [if_neg c16] at H
          have c16b0 : (t219 == 0) = false := beq_eq_false_iff_ne.mpr c16
          have c16b1 : (t219 != 0) = true := bne_iff_ne.mpr c16
          have H' := Aside0.mk H
          clear H
          go_wp2
          go_meet
          case rel => exact ⟨_, (true), (by first | rfl | (simp; done) | (simp [*]; done)), H', ⟨by first | omega | exact Nat.le_refl _⟩, ⟨by (with_reducible repeat (first | refine blk_drewN ?_ _ | refine blk_drew ?_ | refine blk_alloc ?_ _)); exact BK214.out⟩, ⟨by repeat (first | (with_reducible first | exact HB.out | apply below_alloc | apply pw_below_drewN | apply below_drew1 | refine below_set ?_ GE214.out) | exact HB.out)⟩⟩
      · rw [if_neg c15] at H
        have c15b0 : (t217 == 0) = false := beq_eq_false_iff_ne.mpr c15
        have c15b1 : (t217 != 0) = true := bne_iff_ne.mpr c15
        (first | rw [c15b0] | (simp only [i64_w, i32_w]; rw [c15b0]) | skip)
        have H' := Aside0.mk H
        clear H
        go_wp2
        go_meet
        case rel => exact ⟨_, (true), (by first | rfl | (simp; done) | (simp [*]; done)), H', ⟨by first | omega | exact Nat.le_refl _⟩, ⟨by (with_reducible repeat (first | refine blk_drewN ?_ _ | refine blk_drew ?_ | refine blk_alloc ?_ _)); exact BK214.out⟩, ⟨by repeat (first | (with_reducible first | exact HB.out | apply below_alloc | apply pw_below_drewN | apply below_drew1 | refine below_set ?_ GE214.out) | exact HB.out)⟩⟩
    case rest =>
      clear HC8
      try clear c1
      try clear c2
      try clear p2
      try clear c5
      try clear c8
      try clear c15
      try clear c15b0
      try clear c15b1
      try clear c16
      try clear c16b0
      try clear c16b1
      try clear c17
      try clear c17b0
      try clear c17b1
      try clear c18
      try clear c18b0
      try clear c18b1
      try clear c19
      try clear c19b0
      try clear c19b1
      try clear c20
      try clear c20b0
      try clear c20b1
      try clear c22
      try clear c24
      try clear hcz11_0
      try clear hcz11_1
      try clear hcz11_2
      try clear hcz11_3
      try clear hcz13_0
      try clear hcz13_1
      try clear hcz13_2
      try clear hcz13_3
      try clear hfz11_0
      try clear hfz11_1
      try clear hfz11_2
      try clear hfz11_3
      try clear hfz13_0
      try clear hfz13_1
      try clear hfz13_2
      try clear hfz13_3
      obtain ⟨kq, x67_7, rfl, HA, HJ7, BK214, HB⟩ := hcut
      cases kq with
      | zero => exact absurd HA.out (by simp [siglumlaw09_CostFolded.j0])
      | succ kj7 =>
        have H := HA.out
        clear HA
        simp only [siglumlaw09_CostFolded.j0] at H
        by_cases c27 : x67_7 = true
        · subst c27
          have H1 : (some true) = some r := by rw [if_pos rfl] at H; exact H
          clear H
          have H := H1
          clear H1
          obtain rfl := Option.some.inj H
          go_wp2
          go_ret
          exact ⟨by first | rfl | (simp [errW_none, errW_some] <;> rfl) | (simp [*, errW_none, errW_some] <;> rfl), by repeat (first | (with_reducible first | exact HB.out | apply below_alloc | apply pw_below_drewN | apply below_drew1 | refine below_set ?_ GE214.out) | exact HB.out)⟩
        · replace c27 := Bool.eq_false_iff.mpr c27
          subst c27
          have H1 : ((cost_Words.f kj7 a0 a1 a2_0 a2_1 a2_2 a2_3).bind fun bt222 => ((cost_Words.f kj7 t216 t218 a2_0 a2_1 a2_2 a2_3).bind fun bt224 => (if bt222.2 = bt224.2 then (some (bt222.1 == bt224.1)) else (some false)))) = some r := by rw [if_neg (show ¬ (false = true) by decide)] at H; exact H
          clear H
          have H := H1
          clear H1
          replace H := Option.bind_eq_some_iff.mp H
          obtain ⟨⟨t222, t223⟩, A280, H⟩ := H
          replace H : ((cost_Words.f kj7 t216 t218 a2_0 a2_1 a2_2 a2_3).bind fun bt224 => (if t223 = bt224.2 then (some (t222 == bt224.1)) else (some false))) = some r := H
          have A28 := Aside0.mk A280
          clear A280
          replace H := Option.bind_eq_some_iff.mp H
          obtain ⟨⟨t224, t225⟩, A290, H⟩ := H
          replace H : (if t223 = t225 then (some (t222 == t224)) else (some false)) = some r := H
          have A29 := Aside0.mk A290
          clear A290
          by_cases c30 : t223 = t225
          · rw [if_pos c30] at H
            have c30b0 : (t223 == t225) = true := beq_iff_eq.mpr c30
            have c30b1 : (t223 != t225) = false := bne_eq_false_iff_eq.mpr c30
            clear c30
            obtain rfl := Option.some.inj H
            have hcz31_0 : wc.cell? ⟨gb214, 0, none⟩ = some (.int .i64 a2_0) := (blk_cell BK214.out 0).trans rfl
            have hcz31_1 : wc.cell? ⟨gb214, 1, none⟩ = some (.int .i64 a2_1) := (blk_cell BK214.out 1).trans rfl
            have hcz31_2 : wc.cell? ⟨gb214, 2, none⟩ = some (.int .i64 a2_2) := (blk_cell BK214.out 2).trans rfl
            have hcz31_3 : wc.cell? ⟨gb214, 3, none⟩ = some (.int .i64 a2_3) := (blk_cell BK214.out 3).trans rfl
            have hfz31_0 := blk_frozen BK214.out 0
            have hfz31_1 := blk_frozen BK214.out 1
            have hfz31_2 := blk_frozen BK214.out 2
            have hfz31_3 := blk_frozen BK214.out 3
            go_wp2_with (first | ((with_reducible refine gate_callee (f := 16) rfl ?_); refine goesL_ (some 72) rfl rfl Tryd.func16 (by kernel_rfl) rfl #[.string a0, .string a1, .agg #[.int .i64 a2_0, .int .i64 a2_1, .int .i64 a2_2, .int .i64 a2_3]] rfl (by (try simp only [List.map_toArray, List.map_cons, List.map_nil]); first | done | rfl | (simp only [List.length_drop, List.length_take]; rfl)) ?_; (with_reducible refine (cost_Words.calls kj7 a0 a1 a2_0 a2_1 a2_2 a2_3 t222 t223 _ ?side1 A28.out).mono ?_); (case side1 => exact Utf.tabs_step2 HT.out (by repeat (first | (with_reducible first | exact HB.out | apply below_alloc | apply pw_below_drewN | apply below_drew1 | refine below_set ?_ GE214.out) | exact HB.out))); rintro e w32 ⟨rfl, hb⟩; refine ⟨_, rfl, ?_⟩; have n0_ := Aside0.mk (blk_below (g := gb214) (o := .cells #[.int .i64 a2_0, .int .i64 a2_1, .int .i64 a2_2, .int .i64 a2_3] 23 (0, 0)) (by (with_reducible repeat (first | refine blk_drewN ?_ _ | refine blk_drew ?_ | refine blk_alloc ?_ _)); exact BK214.out) hb); have n1_ := Aside0.mk (below_step (by repeat (first | (with_reducible first | exact HB.out | apply below_alloc | apply pw_below_drewN | apply below_drew1 | refine below_set ?_ GE214.out) | exact HB.out)) hb); clear BK214; clear HB; have BK214 := n0_; have HB := n1_; clear n0_ n1_; (try clear hb); (try clear hb2); (try clear hk); (try clear hi); have hcz33_0 : w32.cell? ⟨gb214, 0, none⟩ = some (.int .i64 a2_0) := (blk_cell BK214.out 0).trans rfl; have hcz33_1 : w32.cell? ⟨gb214, 1, none⟩ = some (.int .i64 a2_1) := (blk_cell BK214.out 1).trans rfl; have hcz33_2 : w32.cell? ⟨gb214, 2, none⟩ = some (.int .i64 a2_2) := (blk_cell BK214.out 2).trans rfl; have hcz33_3 : w32.cell? ⟨gb214, 3, none⟩ = some (.int .i64 a2_3) := (blk_cell BK214.out 3).trans rfl; have hfz33_0 := blk_frozen BK214.out 0; have hfz33_1 := blk_frozen BK214.out 1; have hfz33_2 := blk_frozen BK214.out 2; have hfz33_3 := blk_frozen BK214.out 3) | ((with_reducible refine gate_callee (f := 16) rfl ?_); refine goesL_ (some 79) rfl rfl Tryd.func16 (by kernel_rfl) rfl #[.string t216, .string t218, .agg #[.int .i64 a2_0, .int .i64 a2_1, .int .i64 a2_2, .int .i64 a2_3]] rfl (by (try simp only [List.map_toArray, List.map_cons, List.map_nil]); first | done | rfl | (simp only [List.length_drop, List.length_take]; rfl)) ?_; (with_reducible refine (cost_Words.calls kj7 t216 t218 a2_0 a2_1 a2_2 a2_3 t224 t225 _ ?side1 A29.out).mono ?_); (case side1 => exact Utf.tabs_step2 HT.out (by repeat (first | (with_reducible first | exact HB.out | apply below_alloc | apply pw_below_drewN | apply below_drew1 | refine below_set ?_ GE214.out) | exact HB.out))); rintro e w34 ⟨rfl, hb⟩; refine ⟨_, rfl, ?_⟩; have n0_ := Aside0.mk (blk_below (g := gb214) (o := .cells #[.int .i64 a2_0, .int .i64 a2_1, .int .i64 a2_2, .int .i64 a2_3] 23 (0, 0)) (by (with_reducible repeat (first | refine blk_drewN ?_ _ | refine blk_drew ?_ | refine blk_alloc ?_ _)); exact BK214.out) hb); have n1_ := Aside0.mk (below_step (by repeat (first | (with_reducible first | exact HB.out | apply below_alloc | apply pw_below_drewN | apply below_drew1 | refine below_set ?_ GE214.out) | exact HB.out)) hb); clear BK214; clear HB; have BK214 := n0_; have HB := n1_; clear n0_ n1_; (try clear hb); (try clear hb2); (try clear hk); (try clear hi)))
            go_ret
            exact ⟨by first | rfl | (simp [errW_none, errW_some] <;> rfl) | (simp [*, errW_none, errW_some] <;> rfl), by repeat (first | (with_reducible first | exact HB.out | apply below_alloc | apply pw_below_drewN | apply below_drew1 | refine below_set ?_ GE214.out) | exact HB.out)⟩
          · rw [if_neg c30] at H
            have c30b0 : (t223 == t225) = false := beq_eq_false_iff_ne.mpr c30
            have c30b1 : (t223 != t225) = true := bne_iff_ne.mpr c30
            obtain rfl := Option.some.inj H
            have hcz35_0 : wc.cell? ⟨gb214, 0, none⟩ = some (.int .i64 a2_0) := (blk_cell BK214.out 0).trans rfl
            have hcz35_1 : wc.cell? ⟨gb214, 1, none⟩ = some (.int .i64 a2_1) := (blk_cell BK214.out 1).trans rfl
            have hcz35_2 : wc.cell? ⟨gb214, 2, none⟩ = some (.int .i64 a2_2) := (blk_cell BK214.out 2).trans rfl
            have hcz35_3 : wc.cell? ⟨gb214, 3, none⟩ = some (.int .i64 a2_3) := (blk_cell BK214.out 3).trans rfl
            have hfz35_0 := blk_frozen BK214.out 0
            have hfz35_1 := blk_frozen BK214.out 1
            have hfz35_2 := blk_frozen BK214.out 2
            have hfz35_3 := blk_frozen BK214.out 3
            go_wp2_with (first | ((with_reducible refine gate_callee (f := 16) rfl ?_); refine goesL_ (some 72) rfl rfl Tryd.func16 (by kernel_rfl) rfl #[.string a0, .string a1, .agg #[.int .i64 a2_0, .int .i64 a2_1, .int .i64 a2_2, .int .i64 a2_3]] rfl (by (try simp only [List.map_toArray, List.map_cons, List.map_nil]); first | done | rfl | (simp only [List.length_drop, List.length_take]; rfl)) ?_; (with_reducible refine (cost_Words.calls kj7 a0 a1 a2_0 a2_1 a2_2 a2_3 t222 t223 _ ?side1 A28.out).mono ?_); (case side1 => exact Utf.tabs_step2 HT.out (by repeat (first | (with_reducible first | exact HB.out | apply below_alloc | apply pw_below_drewN | apply below_drew1 | refine below_set ?_ GE214.out) | exact HB.out))); rintro e w36 ⟨rfl, hb⟩; refine ⟨_, rfl, ?_⟩; have n0_ := Aside0.mk (blk_below (g := gb214) (o := .cells #[.int .i64 a2_0, .int .i64 a2_1, .int .i64 a2_2, .int .i64 a2_3] 23 (0, 0)) (by (with_reducible repeat (first | refine blk_drewN ?_ _ | refine blk_drew ?_ | refine blk_alloc ?_ _)); exact BK214.out) hb); have n1_ := Aside0.mk (below_step (by repeat (first | (with_reducible first | exact HB.out | apply below_alloc | apply pw_below_drewN | apply below_drew1 | refine below_set ?_ GE214.out) | exact HB.out)) hb); clear BK214; clear HB; have BK214 := n0_; have HB := n1_; clear n0_ n1_; (try clear hb); (try clear hb2); (try clear hk); (try clear hi); have hcz37_0 : w36.cell? ⟨gb214, 0, none⟩ = some (.int .i64 a2_0) := (blk_cell BK214.out 0).trans rfl; have hcz37_1 : w36.cell? ⟨gb214, 1, none⟩ = some (.int .i64 a2_1) := (blk_cell BK214.out 1).trans rfl; have hcz37_2 : w36.cell? ⟨gb214, 2, none⟩ = some (.int .i64 a2_2) := (blk_cell BK214.out 2).trans rfl; have hcz37_3 : w36.cell? ⟨gb214, 3, none⟩ = some (.int .i64 a2_3) := (blk_cell BK214.out 3).trans rfl; have hfz37_0 := blk_frozen BK214.out 0; have hfz37_1 := blk_frozen BK214.out 1; have hfz37_2 := blk_frozen BK214.out 2; have hfz37_3 := blk_frozen BK214.out 3) | ((with_reducible refine gate_callee (f := 16) rfl ?_); refine goesL_ (some 79) rfl rfl Tryd.func16 (by kernel_rfl) rfl #[.string t216, .string t218, .agg #[.int .i64 a2_0, .int .i64 a2_1, .int .i64 a2_2, .int .i64 a2_3]] rfl (by (try simp only [List.map_toArray, List.map_cons, List.map_nil]); first | done | rfl | (simp only [List.length_drop, List.length_take]; rfl)) ?_; (with_reducible refine (cost_Words.calls kj7 t216 t218 a2_0 a2_1 a2_2 a2_3 t224 t225 _ ?side1 A29.out).mono ?_); (case side1 => exact Utf.tabs_step2 HT.out (by repeat (first | (with_reducible first | exact HB.out | apply below_alloc | apply pw_below_drewN | apply below_drew1 | refine below_set ?_ GE214.out) | exact HB.out))); rintro e w38 ⟨rfl, hb⟩; refine ⟨_, rfl, ?_⟩; have n0_ := Aside0.mk (blk_below (g := gb214) (o := .cells #[.int .i64 a2_0, .int .i64 a2_1, .int .i64 a2_2, .int .i64 a2_3] 23 (0, 0)) (by (with_reducible repeat (first | refine blk_drewN ?_ _ | refine blk_drew ?_ | refine blk_alloc ?_ _)); exact BK214.out) hb); have n1_ := Aside0.mk (below_step (by repeat (first | (with_reducible first | exact HB.out | apply below_alloc | apply pw_below_drewN | apply below_drew1 | refine below_set ?_ GE214.out) | exact HB.out)) hb); clear BK214; clear HB; have BK214 := n0_; have HB := n1_; clear n0_ n1_; (try clear hb); (try clear hb2); (try clear hk); (try clear hi)))
            go_ret
            exact ⟨by first | rfl | (simp [errW_none, errW_some] <;> rfl) | (simp [*, errW_none, errW_some] <;> rfl), by repeat (first | (with_reducible first | exact HB.out | apply below_alloc | apply pw_below_drewN | apply below_drew1 | refine below_set ?_ GE214.out) | exact HB.out)⟩
  · replace c5 := Bool.eq_false_iff.mpr c5
    subst c5
    have H1 : (some false) = some r := by rw [if_neg (show ¬ (false = true) by decide)] at H; exact H
    clear H
    have H := H1
    clear H1
    obtain rfl := Option.some.inj H
    go_enter Tryd.func8, Tryd.ntmps8
    go_wp2_with (first | ((with_reducible refine gate_dst (N := 5) rfl ?_); refine box_event ?hg (N := 5) ?hd (cs := #[.int .i64 a2_0, .int .i64 a2_1, .int .i64 a2_2, .int .i64 a2_3]) (t := 23) ?hr ?_; (case hd => rfl); (case hg => rfl); (case hr => first | (go_simp; done) | (go_simp; rfl)); intro gb214 hg w39 hbox hb; have n0_ := Aside0.mk (below_step (by repeat (first | (with_reducible first | exact HB.out | apply below_alloc | apply pw_below_drewN | apply below_drew1) | exact HB.out)) hb); have n1_ := Aside0.mk (hbox); have n2_ := Aside0.mk ((by rw [hg]; exact (below_size (by repeat (first | (with_reducible first | exact HB.out | apply below_alloc | apply pw_below_drewN | apply below_drew1) | exact HB.out))) : w.heap.size ≤ gb214)); have n3_ := Aside0.mk ((by rw [hg]; exact (below_size (by repeat (first | (with_reducible first | exact HB.out | apply below_alloc | apply pw_below_drewN | apply below_drew1) | exact HB.out))) : w.heap.size ≤ gb214)); clear HB; have HB := n0_; have BK214 := n1_; have GW214 := n2_; have GE214 := n3_; clear n0_ n1_ n2_ n3_; clear hb hbox hg) | ((with_reducible refine gate_callee (f := 15) rfl ?_); refine goesL_ (some 16) rfl rfl Tryd.func15 (by kernel_rfl) rfl #[] rfl (by (try simp only [List.map_toArray, List.map_cons, List.map_nil]); first | done | rfl | (simp only [List.length_drop, List.length_take]; rfl)) ?_; (with_reducible refine (siglumlaw09_awake.calls k  false _ ?side1 A4.out).mono ?_); (case side1 => exact Utf.tabs_step2 HT.out (by repeat (first | (with_reducible first | exact HB.out | apply below_alloc | apply pw_below_drewN | apply below_drew1 | refine below_set ?_ GE214.out) | exact HB.out))); rintro e w40 ⟨rfl, hb⟩; refine ⟨_, rfl, ?_⟩; have n0_ := Aside0.mk (blk_below (g := gb214) (o := .cells #[.int .i64 a2_0, .int .i64 a2_1, .int .i64 a2_2, .int .i64 a2_3] 23 (0, 0)) (by (with_reducible repeat (first | refine blk_drewN ?_ _ | refine blk_drew ?_ | refine blk_alloc ?_ _)); exact BK214.out) hb); have n1_ := Aside0.mk (below_step (by repeat (first | (with_reducible first | exact HB.out | apply below_alloc | apply pw_below_drewN | apply below_drew1 | refine below_set ?_ GE214.out) | exact HB.out)) hb); clear BK214; clear HB; have BK214 := n0_; have HB := n1_; clear n0_ n1_; (try clear hb); (try clear hb2); (try clear hk); (try clear hi)))
    go_ret
    exact ⟨by first | rfl | (simp [errW_none, errW_some] <;> rfl) | (simp [*, errW_none, errW_some] <;> rfl), by repeat (first | (with_reducible first | exact HB.out | apply below_alloc | apply pw_below_drewN | apply below_drew1 | refine below_set ?_ GE214.out) | exact HB.out)⟩

end Go.Proofs.YtcpbalnbgmjhjaaDoor.E
