import Derived.Test.YtcpbalnbgmjhjaaDoorV53
import Derived.Test.YtcpbalnbgmjhjaaDoorV55
namespace Go.Proofs.YtcpbalnbgmjhjaaDoor.G
open Go.RowKit Go.Proofs.YtcpbalnbgmjhjaaDoor.Mi Go.Proofs.YtcpbalnbgmjhjaaDoorW.PrintWords Go.Proofs.YtcpbalnbgmjhjaaDoorW.PrintLast Go.Proofs.YtcpbalnbgmjhjaaDoorW.PrintMore
attribute [local go_sem] min2_int min_two min_three   -- for this text's walks alone
set_option linter.unusedVariables false
set_option linter.unusedSimpArgs false
/-! ### siglumref09_Check: function 19 -/
def siglumref09_Check.f (a0_0 : Int) (a0_1 : Int) (a0_2 : Int) (a0_3 : Int) : Option (Int) := if a0_0 < 1 then (some 90) else (if a0_0 > 1000 then (some 90) else (if a0_1 < 1 then (some 90) else (if a0_1 > 1000 then (some 90) else (if a0_2 < 1 then (some 90) else (if a0_2 > 1000 then (some 90) else (if a0_3 < 0 then (some 90) else (if a0_3 > 31 then (some 90) else (some 0))))))))
set_option maxHeartbeats 8000000 in
set_option maxRecDepth 100000 in
theorem siglumref09_Check.calls (a0_0 : Int) (a0_1 : Int) (a0_2 : Int) (a0_3 : Int) (r : Int) (w : World) (h : siglumref09_Check.f a0_0 a0_1 a0_2 a0_3 = some r) :
 Calls Tryd.prog 19 #[.agg #[.int .i64 a0_0, .int .i64 a0_1, .int .i64 a0_2, .int .i64 a0_3]] w fun e w' => e = .returned (.int .i64 r) ∧ Below w.heap.size w w' := by
 have hu23 := Tryd.underlying23; have HB := Aside0.mk (Below.refl w.heap.size w); have H : (if a0_0 < 1 then (some 90) else (if a0_0 > 1000 then (some 90) else (if a0_1 < 1 then (some 90) else (if a0_1 > 1000 then (some 90) else (if a0_2 < 1 then (some 90) else (if a0_2 > 1000 then (some 90) else (if a0_3 < 0 then (some 90) else (if a0_3 > 31 then (some 90) else (some 0))))))))) = some r := h; clear h
 by_cases c2 : a0_0 < 1
 ·
  rw [if_pos c2] at H; have c2b0 : decide (a0_0 < 1) = true := decide_eq_true c2; clear c2; obtain rfl := Option.some.inj H
  go_enter Tryd.func19, Tryd.ntmps19
  go_wp2_with (first | ((with_reducible refine gate_dst (N := 1) rfl ?_); refine box_event ?hg (N := 1) ?hd (cs := #[.int .i64 a0_0, .int .i64 a0_1, .int .i64 a0_2, .int .i64 a0_3]) (t := 23) ?hr ?_; (case hd => rfl); (case hg => rfl); (case hr => first | (go_simp; done) | (go_simp; rfl)); intro gb19101 hg w3 hbox hb; have n0_ := Aside0.mk (below_step bel hb); have n1_ := Aside0.mk (hbox); have n2_ := Aside0.mk ((by rw [hg]; exact (below_size bel) : w.heap.size ≤ gb19101)); have n3_ := Aside0.mk ((by rw [hg]; exact (below_size bel) : w.heap.size ≤ gb19101)); clear HB; have HB := n0_; have BK19101 := n1_; have GW19101 := n2_; have GE19101 := n3_; clear n0_ n1_ n2_ n3_; clear hb hbox hg; have hcz4_0 : w3.cell? ⟨gb19101, 0, none⟩ = some (.int .i64 a0_0) := (blk_cell BK19101.out 0).trans rfl; have hcz4_1 : w3.cell? ⟨gb19101, 1, none⟩ = some (.int .i64 a0_1) := (blk_cell BK19101.out 1).trans rfl; have hcz4_2 : w3.cell? ⟨gb19101, 2, none⟩ = some (.int .i64 a0_2) := (blk_cell BK19101.out 2).trans rfl; have hcz4_3 : w3.cell? ⟨gb19101, 3, none⟩ = some (.int .i64 a0_3) := (blk_cell BK19101.out 3).trans rfl; have hfz4_0 := blk_frozen BK19101.out 0; have hfz4_1 := blk_frozen BK19101.out 1; have hfz4_2 := blk_frozen BK19101.out 2; have hfz4_3 := blk_frozen BK19101.out 3))
  go_ret; exact ⟨by first | rfl | (simp [errW_none, errW_some] <;> rfl) | (simp [*, errW_none, errW_some] <;> rfl), by exact bel⟩
 ·
  rw [if_neg c2] at H; have c2b0 : decide (a0_0 < 1) = false := decide_eq_false c2; clear c2
  by_cases c5 : a0_0 > 1000
  ·
   rw [if_pos c5] at H; have c5b0 : decide (1000 < a0_0) = true := decide_eq_true c5; clear c5; obtain rfl := Option.some.inj H
   go_enter Tryd.func19, Tryd.ntmps19
   go_wp2_with (first | ((with_reducible refine gate_dst (N := 1) rfl ?_); refine box_event ?hg (N := 1) ?hd (cs := #[.int .i64 a0_0, .int .i64 a0_1, .int .i64 a0_2, .int .i64 a0_3]) (t := 23) ?hr ?_; (case hd => rfl); (case hg => rfl); (case hr => first | (go_simp; done) | (go_simp; rfl)); intro gb19101 hg w6 hbox hb; have n0_ := Aside0.mk (below_step bel hb); have n1_ := Aside0.mk (hbox); have n2_ := Aside0.mk ((by rw [hg]; exact (below_size bel) : w.heap.size ≤ gb19101)); have n3_ := Aside0.mk ((by rw [hg]; exact (below_size bel) : w.heap.size ≤ gb19101)); clear HB; have HB := n0_; have BK19101 := n1_; have GW19101 := n2_; have GE19101 := n3_; clear n0_ n1_ n2_ n3_; clear hb hbox hg; have hcz7_0 : w6.cell? ⟨gb19101, 0, none⟩ = some (.int .i64 a0_0) := (blk_cell BK19101.out 0).trans rfl; have hcz7_1 : w6.cell? ⟨gb19101, 1, none⟩ = some (.int .i64 a0_1) := (blk_cell BK19101.out 1).trans rfl; have hcz7_2 : w6.cell? ⟨gb19101, 2, none⟩ = some (.int .i64 a0_2) := (blk_cell BK19101.out 2).trans rfl; have hcz7_3 : w6.cell? ⟨gb19101, 3, none⟩ = some (.int .i64 a0_3) := (blk_cell BK19101.out 3).trans rfl; have hfz7_0 := blk_frozen BK19101.out 0; have hfz7_1 := blk_frozen BK19101.out 1; have hfz7_2 := blk_frozen BK19101.out 2; have hfz7_3 := blk_frozen BK19101.out 3))
   go_ret; exact ⟨by first | rfl | (simp [errW_none, errW_some] <;> rfl) | (simp [*, errW_none, errW_some] <;> rfl), by exact bel⟩
  ·
   rw [if_neg c5] at H; have c5b0 : decide (1000 < a0_0) = false := decide_eq_false c5; clear c5
   by_cases c8 : a0_1 < 1
   ·
    rw [if_pos c8] at H; have c8b0 : decide (a0_1 < 1) = true := decide_eq_true c8; clear c8; obtain rfl := Option.some.inj H
    go_enter Tryd.func19, Tryd.ntmps19
    go_wp2_with (first | ((with_reducible refine gate_dst (N := 1) rfl ?_); refine box_event ?hg (N := 1) ?hd (cs := #[.int .i64 a0_0, .int .i64 a0_1, .int .i64 a0_2, .int .i64 a0_3]) (t := 23) ?hr ?_; (case hd => rfl); (case hg => rfl); (case hr => first | (go_simp; done) | (go_simp; rfl)); intro gb19101 hg w9 hbox hb; have n0_ := Aside0.mk (below_step bel hb); have n1_ := Aside0.mk (hbox); have n2_ := Aside0.mk ((by rw [hg]; exact (below_size bel) : w.heap.size ≤ gb19101)); have n3_ := Aside0.mk ((by rw [hg]; exact (below_size bel) : w.heap.size ≤ gb19101)); clear HB; have HB := n0_; have BK19101 := n1_; have GW19101 := n2_; have GE19101 := n3_; clear n0_ n1_ n2_ n3_; clear hb hbox hg; have hcz10_0 : w9.cell? ⟨gb19101, 0, none⟩ = some (.int .i64 a0_0) := (blk_cell BK19101.out 0).trans rfl; have hcz10_1 : w9.cell? ⟨gb19101, 1, none⟩ = some (.int .i64 a0_1) := (blk_cell BK19101.out 1).trans rfl; have hcz10_2 : w9.cell? ⟨gb19101, 2, none⟩ = some (.int .i64 a0_2) := (blk_cell BK19101.out 2).trans rfl; have hcz10_3 : w9.cell? ⟨gb19101, 3, none⟩ = some (.int .i64 a0_3) := (blk_cell BK19101.out 3).trans rfl; have hfz10_0 := blk_frozen BK19101.out 0; have hfz10_1 := blk_frozen BK19101.out 1; have hfz10_2 := blk_frozen BK19101.out 2; have hfz10_3 := blk_frozen BK19101.out 3))
    go_ret; exact ⟨by first | rfl | (simp [errW_none, errW_some] <;> rfl) | (simp [*, errW_none, errW_some] <;> rfl), by exact bel⟩
   ·
    rw [if_neg c8] at H; have c8b0 : decide (a0_1 < 1) = false := decide_eq_false c8; clear c8
    by_cases c11 : a0_1 > 1000
    ·
     rw [if_pos c11] at H; have c11b0 : decide (1000 < a0_1) = true := decide_eq_true c11; clear c11; obtain rfl := Option.some.inj H
     go_enter Tryd.func19, Tryd.ntmps19
     go_wp2_with (first | ((with_reducible refine gate_dst (N := 1) rfl ?_); refine box_event ?hg (N := 1) ?hd (cs := #[.int .i64 a0_0, .int .i64 a0_1, .int .i64 a0_2, .int .i64 a0_3]) (t := 23) ?hr ?_; (case hd => rfl); (case hg => rfl); (case hr => first | (go_simp; done) | (go_simp; rfl)); intro gb19101 hg w12 hbox hb; have n0_ := Aside0.mk (below_step bel hb); have n1_ := Aside0.mk (hbox); have n2_ := Aside0.mk ((by rw [hg]; exact (below_size bel) : w.heap.size ≤ gb19101)); have n3_ := Aside0.mk ((by rw [hg]; exact (below_size bel) : w.heap.size ≤ gb19101)); clear HB; have HB := n0_; have BK19101 := n1_; have GW19101 := n2_; have GE19101 := n3_; clear n0_ n1_ n2_ n3_; clear hb hbox hg; have hcz13_0 : w12.cell? ⟨gb19101, 0, none⟩ = some (.int .i64 a0_0) := (blk_cell BK19101.out 0).trans rfl; have hcz13_1 : w12.cell? ⟨gb19101, 1, none⟩ = some (.int .i64 a0_1) := (blk_cell BK19101.out 1).trans rfl; have hcz13_2 : w12.cell? ⟨gb19101, 2, none⟩ = some (.int .i64 a0_2) := (blk_cell BK19101.out 2).trans rfl; have hcz13_3 : w12.cell? ⟨gb19101, 3, none⟩ = some (.int .i64 a0_3) := (blk_cell BK19101.out 3).trans rfl; have hfz13_0 := blk_frozen BK19101.out 0; have hfz13_1 := blk_frozen BK19101.out 1; have hfz13_2 := blk_frozen BK19101.out 2; have hfz13_3 := blk_frozen BK19101.out 3))
     go_ret; exact ⟨by first | rfl | (simp [errW_none, errW_some] <;> rfl) | (simp [*, errW_none, errW_some] <;> rfl), by exact bel⟩
    ·
     rw [if_neg c11] at H; have c11b0 : decide (1000 < a0_1) = false := decide_eq_false c11; clear c11
     by_cases c14 : a0_2 < 1
     ·
      rw [if_pos c14] at H; have c14b0 : decide (a0_2 < 1) = true := decide_eq_true c14; clear c14; obtain rfl := Option.some.inj H
      go_enter Tryd.func19, Tryd.ntmps19
      go_wp2_with (first | ((with_reducible refine gate_dst (N := 1) rfl ?_); refine box_event ?hg (N := 1) ?hd (cs := #[.int .i64 a0_0, .int .i64 a0_1, .int .i64 a0_2, .int .i64 a0_3]) (t := 23) ?hr ?_; (case hd => rfl); (case hg => rfl); (case hr => first | (go_simp; done) | (go_simp; rfl)); intro gb19101 hg w15 hbox hb; have n0_ := Aside0.mk (below_step bel hb); have n1_ := Aside0.mk (hbox); have n2_ := Aside0.mk ((by rw [hg]; exact (below_size bel) : w.heap.size ≤ gb19101)); have n3_ := Aside0.mk ((by rw [hg]; exact (below_size bel) : w.heap.size ≤ gb19101)); clear HB; have HB := n0_; have BK19101 := n1_; have GW19101 := n2_; have GE19101 := n3_; clear n0_ n1_ n2_ n3_; clear hb hbox hg; have hcz16_0 : w15.cell? ⟨gb19101, 0, none⟩ = some (.int .i64 a0_0) := (blk_cell BK19101.out 0).trans rfl; have hcz16_1 : w15.cell? ⟨gb19101, 1, none⟩ = some (.int .i64 a0_1) := (blk_cell BK19101.out 1).trans rfl; have hcz16_2 : w15.cell? ⟨gb19101, 2, none⟩ = some (.int .i64 a0_2) := (blk_cell BK19101.out 2).trans rfl; have hcz16_3 : w15.cell? ⟨gb19101, 3, none⟩ = some (.int .i64 a0_3) := (blk_cell BK19101.out 3).trans rfl; have hfz16_0 := blk_frozen BK19101.out 0; have hfz16_1 := blk_frozen BK19101.out 1; have hfz16_2 := blk_frozen BK19101.out 2; have hfz16_3 := blk_frozen BK19101.out 3))
      go_ret; exact ⟨by first | rfl | (simp [errW_none, errW_some] <;> rfl) | (simp [*, errW_none, errW_some] <;> rfl), by exact bel⟩
     ·
      rw [if_neg c14] at H; have c14b0 : decide (a0_2 < 1) = false := decide_eq_false c14; clear c14
      by_cases c17 : a0_2 > 1000
      ·
       rw [if_pos c17] at H; have c17b0 : decide (1000 < a0_2) = true := decide_eq_true c17; clear c17; obtain rfl := Option.some.inj H
       go_enter Tryd.func19, Tryd.ntmps19
       go_wp2_with (first | ((with_reducible refine gate_dst (N := 1) rfl ?_); refine box_event ?hg (N := 1) ?hd (cs := #[.int .i64 a0_0, .int .i64 a0_1, .int .i64 a0_2, .int .i64 a0_3]) (t := 23) ?hr ?_; (case hd => rfl); (case hg => rfl); (case hr => first | (go_simp; done) | (go_simp; rfl)); intro gb19101 hg w18 hbox hb; have n0_ := Aside0.mk (below_step bel hb); have n1_ := Aside0.mk (hbox); have n2_ := Aside0.mk ((by rw [hg]; exact (below_size bel) : w.heap.size ≤ gb19101)); have n3_ := Aside0.mk ((by rw [hg]; exact (below_size bel) : w.heap.size ≤ gb19101)); clear HB; have HB := n0_; have BK19101 := n1_; have GW19101 := n2_; have GE19101 := n3_; clear n0_ n1_ n2_ n3_; clear hb hbox hg; have hcz19_0 : w18.cell? ⟨gb19101, 0, none⟩ = some (.int .i64 a0_0) := (blk_cell BK19101.out 0).trans rfl; have hcz19_1 : w18.cell? ⟨gb19101, 1, none⟩ = some (.int .i64 a0_1) := (blk_cell BK19101.out 1).trans rfl; have hcz19_2 : w18.cell? ⟨gb19101, 2, none⟩ = some (.int .i64 a0_2) := (blk_cell BK19101.out 2).trans rfl; have hcz19_3 : w18.cell? ⟨gb19101, 3, none⟩ = some (.int .i64 a0_3) := (blk_cell BK19101.out 3).trans rfl; have hfz19_0 := blk_frozen BK19101.out 0; have hfz19_1 := blk_frozen BK19101.out 1; have hfz19_2 := blk_frozen BK19101.out 2; have hfz19_3 := blk_frozen BK19101.out 3))
       go_ret; exact ⟨by first | rfl | (simp [errW_none, errW_some] <;> rfl) | (simp [*, errW_none, errW_some] <;> rfl), by exact bel⟩
      ·
       rw [if_neg c17] at H; have c17b0 : decide (1000 < a0_2) = false := decide_eq_false c17; clear c17
       by_cases c20 : a0_3 < 0
       ·
        rw [if_pos c20] at H; have c20b0 : decide (a0_3 < 0) = true := decide_eq_true c20; clear c20; obtain rfl := Option.some.inj H
        go_enter Tryd.func19, Tryd.ntmps19
        go_wp2_with (first | ((with_reducible refine gate_dst (N := 1) rfl ?_); refine box_event ?hg (N := 1) ?hd (cs := #[.int .i64 a0_0, .int .i64 a0_1, .int .i64 a0_2, .int .i64 a0_3]) (t := 23) ?hr ?_; (case hd => rfl); (case hg => rfl); (case hr => first | (go_simp; done) | (go_simp; rfl)); intro gb19101 hg w21 hbox hb; have n0_ := Aside0.mk (below_step bel hb); have n1_ := Aside0.mk (hbox); have n2_ := Aside0.mk ((by rw [hg]; exact (below_size bel) : w.heap.size ≤ gb19101)); have n3_ := Aside0.mk ((by rw [hg]; exact (below_size bel) : w.heap.size ≤ gb19101)); clear HB; have HB := n0_; have BK19101 := n1_; have GW19101 := n2_; have GE19101 := n3_; clear n0_ n1_ n2_ n3_; clear hb hbox hg; have hcz22_0 : w21.cell? ⟨gb19101, 0, none⟩ = some (.int .i64 a0_0) := (blk_cell BK19101.out 0).trans rfl; have hcz22_1 : w21.cell? ⟨gb19101, 1, none⟩ = some (.int .i64 a0_1) := (blk_cell BK19101.out 1).trans rfl; have hcz22_2 : w21.cell? ⟨gb19101, 2, none⟩ = some (.int .i64 a0_2) := (blk_cell BK19101.out 2).trans rfl; have hcz22_3 : w21.cell? ⟨gb19101, 3, none⟩ = some (.int .i64 a0_3) := (blk_cell BK19101.out 3).trans rfl; have hfz22_0 := blk_frozen BK19101.out 0; have hfz22_1 := blk_frozen BK19101.out 1; have hfz22_2 := blk_frozen BK19101.out 2; have hfz22_3 := blk_frozen BK19101.out 3))
        go_ret; exact ⟨by first | rfl | (simp [errW_none, errW_some] <;> rfl) | (simp [*, errW_none, errW_some] <;> rfl), by exact bel⟩
       ·
        rw [if_neg c20] at H; have c20b0 : decide (a0_3 < 0) = false := decide_eq_false c20; clear c20
        by_cases c23 : a0_3 > 31
        ·
         rw [if_pos c23] at H; have c23b0 : decide (31 < a0_3) = true := decide_eq_true c23; clear c23; obtain rfl := Option.some.inj H
         go_enter Tryd.func19, Tryd.ntmps19
         go_wp2_with (first | ((with_reducible refine gate_dst (N := 1) rfl ?_); refine box_event ?hg (N := 1) ?hd (cs := #[.int .i64 a0_0, .int .i64 a0_1, .int .i64 a0_2, .int .i64 a0_3]) (t := 23) ?hr ?_; (case hd => rfl); (case hg => rfl); (case hr => first | (go_simp; done) | (go_simp; rfl)); intro gb19101 hg w24 hbox hb; have n0_ := Aside0.mk (below_step bel hb); have n1_ := Aside0.mk (hbox); have n2_ := Aside0.mk ((by rw [hg]; exact (below_size bel) : w.heap.size ≤ gb19101)); have n3_ := Aside0.mk ((by rw [hg]; exact (below_size bel) : w.heap.size ≤ gb19101)); clear HB; have HB := n0_; have BK19101 := n1_; have GW19101 := n2_; have GE19101 := n3_; clear n0_ n1_ n2_ n3_; clear hb hbox hg; have hcz25_0 : w24.cell? ⟨gb19101, 0, none⟩ = some (.int .i64 a0_0) := (blk_cell BK19101.out 0).trans rfl; have hcz25_1 : w24.cell? ⟨gb19101, 1, none⟩ = some (.int .i64 a0_1) := (blk_cell BK19101.out 1).trans rfl; have hcz25_2 : w24.cell? ⟨gb19101, 2, none⟩ = some (.int .i64 a0_2) := (blk_cell BK19101.out 2).trans rfl; have hcz25_3 : w24.cell? ⟨gb19101, 3, none⟩ = some (.int .i64 a0_3) := (blk_cell BK19101.out 3).trans rfl; have hfz25_0 := blk_frozen BK19101.out 0; have hfz25_1 := blk_frozen BK19101.out 1; have hfz25_2 := blk_frozen BK19101.out 2; have hfz25_3 := blk_frozen BK19101.out 3))
         go_ret; exact ⟨by first | rfl | (simp [errW_none, errW_some] <;> rfl) | (simp [*, errW_none, errW_some] <;> rfl), by exact bel⟩
        ·
         rw [if_neg c23] at H; have c23b0 : decide (31 < a0_3) = false := decide_eq_false c23; clear c23; obtain rfl := Option.some.inj H
         go_enter Tryd.func19, Tryd.ntmps19
         go_wp2_with (first | ((with_reducible refine gate_dst (N := 1) rfl ?_); refine box_event ?hg (N := 1) ?hd (cs := #[.int .i64 a0_0, .int .i64 a0_1, .int .i64 a0_2, .int .i64 a0_3]) (t := 23) ?hr ?_; (case hd => rfl); (case hg => rfl); (case hr => first | (go_simp; done) | (go_simp; rfl)); intro gb19101 hg w26 hbox hb; have n0_ := Aside0.mk (below_step bel hb); have n1_ := Aside0.mk (hbox); have n2_ := Aside0.mk ((by rw [hg]; exact (below_size bel) : w.heap.size ≤ gb19101)); have n3_ := Aside0.mk ((by rw [hg]; exact (below_size bel) : w.heap.size ≤ gb19101)); clear HB; have HB := n0_; have BK19101 := n1_; have GW19101 := n2_; have GE19101 := n3_; clear n0_ n1_ n2_ n3_; clear hb hbox hg; have hcz27_0 : w26.cell? ⟨gb19101, 0, none⟩ = some (.int .i64 a0_0) := (blk_cell BK19101.out 0).trans rfl; have hcz27_1 : w26.cell? ⟨gb19101, 1, none⟩ = some (.int .i64 a0_1) := (blk_cell BK19101.out 1).trans rfl; have hcz27_2 : w26.cell? ⟨gb19101, 2, none⟩ = some (.int .i64 a0_2) := (blk_cell BK19101.out 2).trans rfl; have hcz27_3 : w26.cell? ⟨gb19101, 3, none⟩ = some (.int .i64 a0_3) := (blk_cell BK19101.out 3).trans rfl; have hfz27_0 := blk_frozen BK19101.out 0; have hfz27_1 := blk_frozen BK19101.out 1; have hfz27_2 := blk_frozen BK19101.out 2; have hfz27_3 := blk_frozen BK19101.out 3))
         go_ret; exact ⟨by first | rfl | (simp [errW_none, errW_some] <;> rfl) | (simp [*, errW_none, errW_some] <;> rfl), by exact bel⟩
end Go.Proofs.YtcpbalnbgmjhjaaDoor.G
namespace Go.Proofs.YtcpbalnbgmjhjaaDoor.G
open Go.RowKit Go.Proofs.YtcpbalnbgmjhjaaDoorW.PrintWords Go.Proofs.YtcpbalnbgmjhjaaDoorW.PrintLast Go.Proofs.YtcpbalnbgmjhjaaDoorW.PrintMore
attribute [local go_sem] min2_int min_two min_three   -- for this text's walks alone
set_option linter.unusedVariables false
set_option linter.unusedSimpArgs false
/-! ### siglumref01_between: function 91 -/
def siglumref01_between.f (a0 : Int) (a1 : Int) (a2 : Int) : Option (Bool) := if a0 ≥ a1 then (some (decide (a0 ≤ a2))) else (some false)
set_option maxHeartbeats 8000000 in
set_option maxRecDepth 100000 in
theorem siglumref01_between.calls (a0 : Int) (a1 : Int) (a2 : Int) (r : Bool) (w : World) (h : siglumref01_between.f a0 a1 a2 = some r) :
    Calls Tryd.prog 91 #[.int .u8 a0, .int .u8 a1, .int .u8 a2] w fun e w' => e = .returned (.bool r) ∧ Drawn0 w w' := by
  have H : (if a0 ≥ a1 then (some (decide (a0 ≤ a2))) else (some false)) = some r := h
  clear h
  by_cases c4 : a0 ≥ a1
  · rw [if_pos c4] at H
    have c4b0 : decide (a1 ≤ a0) = true := decide_eq_true c4
    clear c4
    obtain rfl := Option.some.inj H
    go_enter Tryd.func91, Tryd.ntmps91
    go_wp2
    go_ret
    exact ⟨by first | rfl | (simp; done) | (simp [*]; done), by repeat (first | exact Drawn0.refl _ | apply Drawn0.step)⟩
  · rw [if_neg c4] at H
    have c4b0 : decide (a1 ≤ a0) = false := decide_eq_false c4
    clear c4
    obtain rfl := Option.some.inj H
    go_enter Tryd.func91, Tryd.ntmps91
    go_wp2
    go_ret
    exact ⟨by first | rfl | (simp; done) | (simp [*]; done), by repeat (first | exact Drawn0.refl _ | apply Drawn0.step)⟩
end Go.Proofs.YtcpbalnbgmjhjaaDoor.G
namespace Go.Proofs.YtcpbalnbgmjhjaaDoor.G
open Go.RowKit Go.Proofs.YtcpbalnbgmjhjaaDoor.Mi Go.Proofs.YtcpbalnbgmjhjaaDoorW.PrintWords Go.Proofs.YtcpbalnbgmjhjaaDoorW.PrintLast Go.Proofs.YtcpbalnbgmjhjaaDoorW.PrintMore
attribute [local go_sem] min2_int min_two min_three   -- for this text's walks alone
set_option linter.unusedVariables false
set_option linter.unusedSimpArgs false
/-! ### siglumref01_wants: function 84 -/
def siglumref01_wants.f (a0 : Int) : Option (Int) := if a0 < 128 then (some 1) else ((siglumref01_between.f a0 194 223).bind fun t84101 => (if t84101 = true then (some 2) else ((siglumref01_between.f a0 224 239).bind fun t84102 => (if t84102 = true then (some 3) else ((siglumref01_between.f a0 240 244).bind fun t84103 => (if t84103 = true then (some 4) else (some 0)))))))
set_option maxHeartbeats 8000000 in
set_option maxRecDepth 100000 in
theorem siglumref01_wants.calls (a0 : Int) (r : Int) (w : World) (h : siglumref01_wants.f a0 = some r) :
 Calls Tryd.prog 84 #[.int .u8 a0] w fun e w' => e = .returned (.int .i64 r) ∧ Drawn0 w w' := by
 have H : (if a0 < 128 then (some 1) else ((siglumref01_between.f a0 194 223).bind fun t84101 => (if t84101 = true then (some 2) else ((siglumref01_between.f a0 224 239).bind fun t84102 => (if t84102 = true then (some 3) else ((siglumref01_between.f a0 240 244).bind fun t84103 => (if t84103 = true then (some 4) else (some 0)))))))) = some r := h; clear h
 by_cases c2 : a0 < 128
 ·
  rw [if_pos c2] at H; have c2b0 : decide (a0 < 128) = true := decide_eq_true c2; clear c2; obtain rfl := Option.some.inj H
  go_enter Tryd.func84, Tryd.ntmps84
  go_wp2; go_ret; exact ⟨by first | rfl | (simp; done) | (simp [*]; done), by repeat (first | exact Drawn0.refl _ | apply Drawn0.step)⟩
 ·
  rw [if_neg c2] at H; have c2b0 : decide (a0 < 128) = false := decide_eq_false c2; clear c2; replace H := Option.bind_eq_some_iff.mp H; obtain ⟨t84101, A30, H⟩ := H; (try dsimp only at H); have A3 := Aside0.mk A30; clear A30
  by_cases c4 : t84101 = true
  ·
   subst c4; have H1 := H; rw [if_pos rfl] at H1; clear H; have H := H1; clear H1; obtain rfl := Option.some.inj H
   go_enter Tryd.func84, Tryd.ntmps84
   go_wp2_with (first | ((with_reducible refine gate_callee (f := 91) rfl ?_); refine goesL_ (some 6) rfl rfl Tryd.func91 (by kernel_rfl) rfl #[.int .u8 a0, .int .u8 194, .int .u8 223] rfl (by (try simp only [List.map_toArray, List.map_cons, List.map_nil]); first | done | rfl | (simp only [List.length_drop, List.length_take]; rfl)) ?_; (with_reducible refine (siglumref01_between.calls a0 194 223 true _ A3.out).mono ?_); rintro e w' ⟨rfl, ⟨nd, rfl⟩⟩; refine ⟨_, rfl, ?_⟩))
   go_ret; exact ⟨by first | rfl | (simp; done) | (simp [*]; done), by repeat (first | exact Drawn0.refl _ | apply Drawn0.step)⟩
  ·
   replace c4 := Bool.eq_false_iff.mpr c4; subst c4; have H1 := H; rw [if_neg (show ¬ (false = true) by decide)] at H1; clear H; have H := H1; clear H1; replace H := Option.bind_eq_some_iff.mp H; obtain ⟨t84102, A50, H⟩ := H; (try dsimp only at H); have A5 := Aside0.mk A50; clear A50
   by_cases c6 : t84102 = true
   ·
    subst c6; have H1 := H; rw [if_pos rfl] at H1; clear H; have H := H1; clear H1; obtain rfl := Option.some.inj H
    go_enter Tryd.func84, Tryd.ntmps84
    go_wp2_with (first | ((with_reducible refine gate_callee (f := 91) rfl ?_); refine goesL_ (some 6) rfl rfl Tryd.func91 (by kernel_rfl) rfl #[.int .u8 a0, .int .u8 194, .int .u8 223] rfl (by (try simp only [List.map_toArray, List.map_cons, List.map_nil]); first | done | rfl | (simp only [List.length_drop, List.length_take]; rfl)) ?_; (with_reducible refine (siglumref01_between.calls a0 194 223 false _ A3.out).mono ?_); rintro e w' ⟨rfl, ⟨nd, rfl⟩⟩; refine ⟨_, rfl, ?_⟩) | ((with_reducible refine gate_callee (f := 91) rfl ?_); refine goesL_ (some 8) rfl rfl Tryd.func91 (by kernel_rfl) rfl #[.int .u8 a0, .int .u8 224, .int .u8 239] rfl (by (try simp only [List.map_toArray, List.map_cons, List.map_nil]); first | done | rfl | (simp only [List.length_drop, List.length_take]; rfl)) ?_; (with_reducible refine (siglumref01_between.calls a0 224 239 true _ A5.out).mono ?_); rintro e w' ⟨rfl, ⟨nd, rfl⟩⟩; refine ⟨_, rfl, ?_⟩))
    go_ret; exact ⟨by first | rfl | (simp; done) | (simp [*]; done), by repeat (first | exact Drawn0.refl _ | apply Drawn0.step)⟩
   ·
    replace c6 := Bool.eq_false_iff.mpr c6; subst c6; have H1 := H; rw [if_neg (show ¬ (false = true) by decide)] at H1; clear H; have H := H1; clear H1; replace H := Option.bind_eq_some_iff.mp H; obtain ⟨t84103, A70, H⟩ := H; (try dsimp only at H); have A7 := Aside0.mk A70; clear A70
    by_cases c8 : t84103 = true
    ·
     subst c8; have H1 := H; rw [if_pos rfl] at H1; clear H; have H := H1; clear H1; obtain rfl := Option.some.inj H
     go_enter Tryd.func84, Tryd.ntmps84
     go_wp2_with (first | ((with_reducible refine gate_callee (f := 91) rfl ?_); refine goesL_ (some 6) rfl rfl Tryd.func91 (by kernel_rfl) rfl #[.int .u8 a0, .int .u8 194, .int .u8 223] rfl (by (try simp only [List.map_toArray, List.map_cons, List.map_nil]); first | done | rfl | (simp only [List.length_drop, List.length_take]; rfl)) ?_; (with_reducible refine (siglumref01_between.calls a0 194 223 false _ A3.out).mono ?_); rintro e w' ⟨rfl, ⟨nd, rfl⟩⟩; refine ⟨_, rfl, ?_⟩) | ((with_reducible refine gate_callee (f := 91) rfl ?_); refine goesL_ (some 8) rfl rfl Tryd.func91 (by kernel_rfl) rfl #[.int .u8 a0, .int .u8 224, .int .u8 239] rfl (by (try simp only [List.map_toArray, List.map_cons, List.map_nil]); first | done | rfl | (simp only [List.length_drop, List.length_take]; rfl)) ?_; (with_reducible refine (siglumref01_between.calls a0 224 239 false _ A5.out).mono ?_); rintro e w' ⟨rfl, ⟨nd, rfl⟩⟩; refine ⟨_, rfl, ?_⟩) | ((with_reducible refine gate_callee (f := 91) rfl ?_); refine goesL_ (some 10) rfl rfl Tryd.func91 (by kernel_rfl) rfl #[.int .u8 a0, .int .u8 240, .int .u8 244] rfl (by (try simp only [List.map_toArray, List.map_cons, List.map_nil]); first | done | rfl | (simp only [List.length_drop, List.length_take]; rfl)) ?_; (with_reducible refine (siglumref01_between.calls a0 240 244 true _ A7.out).mono ?_); rintro e w' ⟨rfl, ⟨nd, rfl⟩⟩; refine ⟨_, rfl, ?_⟩))
     go_ret; exact ⟨by first | rfl | (simp; done) | (simp [*]; done), by repeat (first | exact Drawn0.refl _ | apply Drawn0.step)⟩
    ·
     replace c8 := Bool.eq_false_iff.mpr c8; subst c8; have H1 := H; rw [if_neg (show ¬ (false = true) by decide)] at H1; clear H; have H := H1; clear H1; obtain rfl := Option.some.inj H
     go_enter Tryd.func84, Tryd.ntmps84
     go_wp2_with (first | ((with_reducible refine gate_callee (f := 91) rfl ?_); refine goesL_ (some 6) rfl rfl Tryd.func91 (by kernel_rfl) rfl #[.int .u8 a0, .int .u8 194, .int .u8 223] rfl (by (try simp only [List.map_toArray, List.map_cons, List.map_nil]); first | done | rfl | (simp only [List.length_drop, List.length_take]; rfl)) ?_; (with_reducible refine (siglumref01_between.calls a0 194 223 false _ A3.out).mono ?_); rintro e w' ⟨rfl, ⟨nd, rfl⟩⟩; refine ⟨_, rfl, ?_⟩) | ((with_reducible refine gate_callee (f := 91) rfl ?_); refine goesL_ (some 8) rfl rfl Tryd.func91 (by kernel_rfl) rfl #[.int .u8 a0, .int .u8 224, .int .u8 239] rfl (by (try simp only [List.map_toArray, List.map_cons, List.map_nil]); first | done | rfl | (simp only [List.length_drop, List.length_take]; rfl)) ?_; (with_reducible refine (siglumref01_between.calls a0 224 239 false _ A5.out).mono ?_); rintro e w' ⟨rfl, ⟨nd, rfl⟩⟩; refine ⟨_, rfl, ?_⟩) | ((with_reducible refine gate_callee (f := 91) rfl ?_); refine goesL_ (some 10) rfl rfl Tryd.func91 (by kernel_rfl) rfl #[.int .u8 a0, .int .u8 240, .int .u8 244] rfl (by (try simp only [List.map_toArray, List.map_cons, List.map_nil]); first | done | rfl | (simp only [List.length_drop, List.length_take]; rfl)) ?_; (with_reducible refine (siglumref01_between.calls a0 240 244 false _ A7.out).mono ?_); rintro e w' ⟨rfl, ⟨nd, rfl⟩⟩; refine ⟨_, rfl, ?_⟩))
     go_ret; exact ⟨by first | rfl | (simp; done) | (simp [*]; done), by repeat (first | exact Drawn0.refl _ | apply Drawn0.step)⟩
end Go.Proofs.YtcpbalnbgmjhjaaDoor.G
namespace Go.Proofs.YtcpbalnbgmjhjaaDoor.G
open Go.RowKit Go.Proofs.YtcpbalnbgmjhjaaDoor.Mi Go.Proofs.YtcpbalnbgmjhjaaDoorW.PrintWords Go.Proofs.YtcpbalnbgmjhjaaDoorW.PrintLast Go.Proofs.YtcpbalnbgmjhjaaDoorW.PrintMore
attribute [local go_sem] min2_int min_two min_three   -- for this text's walks alone
set_option linter.unusedVariables false
set_option linter.unusedSimpArgs false
/-! ### siglumref01_second: function 92 -/
def siglumref01_second.f (a0 : Int) (a1 : Int) : Option (Bool) := if a0 = 224 then ((siglumref01_between.f a1 160 191).bind fun t92101 => (some t92101)) else (if a0 = 237 then ((siglumref01_between.f a1 128 159).bind fun t92102 => (some t92102)) else (if a0 = 240 then ((siglumref01_between.f a1 144 191).bind fun t92103 => (some t92103)) else (if a0 = 244 then ((siglumref01_between.f a1 128 143).bind fun t92104 => (some t92104)) else ((siglumref01_between.f a1 128 191).bind fun t92105 => (some t92105)))))
set_option maxHeartbeats 8000000 in
set_option maxRecDepth 100000 in
theorem siglumref01_second.calls (a0 : Int) (a1 : Int) (r : Bool) (w : World) (h : siglumref01_second.f a0 a1 = some r) :
 Calls Tryd.prog 92 #[.int .u8 a0, .int .u8 a1] w fun e w' => e = .returned (.bool r) ∧ Drawn0 w w' := by
 have H : (if a0 = 224 then ((siglumref01_between.f a1 160 191).bind fun t92101 => (some t92101)) else (if a0 = 237 then ((siglumref01_between.f a1 128 159).bind fun t92102 => (some t92102)) else (if a0 = 240 then ((siglumref01_between.f a1 144 191).bind fun t92103 => (some t92103)) else (if a0 = 244 then ((siglumref01_between.f a1 128 143).bind fun t92104 => (some t92104)) else ((siglumref01_between.f a1 128 191).bind fun t92105 => (some t92105)))))) = some r := h; clear h
 by_cases c3 : a0 = 224
 ·
  rw [if_pos c3] at H; have c3b0 : (a0 == 224) = true := beq_iff_eq.mpr c3; have c3b1 : (a0 != 224) = false := bne_eq_false_iff_eq.mpr c3; clear c3; replace H := Option.bind_eq_some_iff.mp H; obtain ⟨t92101, A40, H⟩ := H; (try dsimp only at H); have A4 := Aside0.mk A40; clear A40; obtain rfl := Option.some.inj H
  go_enter Tryd.func92, Tryd.ntmps92
  go_wp2_with (first | ((with_reducible refine gate_callee (f := 91) rfl ?_); refine goesL_ (some 9) rfl rfl Tryd.func91 (by kernel_rfl) rfl #[.int .u8 a1, .int .u8 160, .int .u8 191] rfl (by (try simp only [List.map_toArray, List.map_cons, List.map_nil]); first | done | rfl | (simp only [List.length_drop, List.length_take]; rfl)) ?_; (with_reducible refine (siglumref01_between.calls a1 160 191 t92101 _ A4.out).mono ?_); rintro e w' ⟨rfl, ⟨nd, rfl⟩⟩; refine ⟨_, rfl, ?_⟩))
  go_ret; exact ⟨by first | rfl | (simp; done) | (simp [*]; done), by repeat (first | exact Drawn0.refl _ | apply Drawn0.step)⟩
 ·
  rw [if_neg c3] at H; have c3b0 : (a0 == 224) = false := beq_eq_false_iff_ne.mpr c3; have c3b1 : (a0 != 224) = true := bne_iff_ne.mpr c3
  by_cases c5 : a0 = 237
  ·
   rw [if_pos c5] at H; have c5b0 : (a0 == 237) = true := beq_iff_eq.mpr c5; have c5b1 : (a0 != 237) = false := bne_eq_false_iff_eq.mpr c5; clear c5; replace H := Option.bind_eq_some_iff.mp H; obtain ⟨t92102, A60, H⟩ := H; (try dsimp only at H); have A6 := Aside0.mk A60; clear A60; obtain rfl := Option.some.inj H
   go_enter Tryd.func92, Tryd.ntmps92
   go_wp2_with (first | ((with_reducible refine gate_callee (f := 91) rfl ?_); refine goesL_ (some 13) rfl rfl Tryd.func91 (by kernel_rfl) rfl #[.int .u8 a1, .int .u8 128, .int .u8 159] rfl (by (try simp only [List.map_toArray, List.map_cons, List.map_nil]); first | done | rfl | (simp only [List.length_drop, List.length_take]; rfl)) ?_; (with_reducible refine (siglumref01_between.calls a1 128 159 t92102 _ A6.out).mono ?_); rintro e w' ⟨rfl, ⟨nd, rfl⟩⟩; refine ⟨_, rfl, ?_⟩))
   go_ret; exact ⟨by first | rfl | (simp; done) | (simp [*]; done), by repeat (first | exact Drawn0.refl _ | apply Drawn0.step)⟩
  ·
   rw [if_neg c5] at H; have c5b0 : (a0 == 237) = false := beq_eq_false_iff_ne.mpr c5; have c5b1 : (a0 != 237) = true := bne_iff_ne.mpr c5
   by_cases c7 : a0 = 240
   ·
    rw [if_pos c7] at H; have c7b0 : (a0 == 240) = true := beq_iff_eq.mpr c7; have c7b1 : (a0 != 240) = false := bne_eq_false_iff_eq.mpr c7; clear c7; replace H := Option.bind_eq_some_iff.mp H; obtain ⟨t92103, A80, H⟩ := H; (try dsimp only at H); have A8 := Aside0.mk A80; clear A80; obtain rfl := Option.some.inj H
    go_enter Tryd.func92, Tryd.ntmps92
    go_wp2_with (first | ((with_reducible refine gate_callee (f := 91) rfl ?_); refine goesL_ (some 17) rfl rfl Tryd.func91 (by kernel_rfl) rfl #[.int .u8 a1, .int .u8 144, .int .u8 191] rfl (by (try simp only [List.map_toArray, List.map_cons, List.map_nil]); first | done | rfl | (simp only [List.length_drop, List.length_take]; rfl)) ?_; (with_reducible refine (siglumref01_between.calls a1 144 191 t92103 _ A8.out).mono ?_); rintro e w' ⟨rfl, ⟨nd, rfl⟩⟩; refine ⟨_, rfl, ?_⟩))
    go_ret; exact ⟨by first | rfl | (simp; done) | (simp [*]; done), by repeat (first | exact Drawn0.refl _ | apply Drawn0.step)⟩
   ·
    rw [if_neg c7] at H; have c7b0 : (a0 == 240) = false := beq_eq_false_iff_ne.mpr c7; have c7b1 : (a0 != 240) = true := bne_iff_ne.mpr c7
    by_cases c9 : a0 = 244
    ·
     rw [if_pos c9] at H; have c9b0 : (a0 == 244) = true := beq_iff_eq.mpr c9; have c9b1 : (a0 != 244) = false := bne_eq_false_iff_eq.mpr c9; clear c9; replace H := Option.bind_eq_some_iff.mp H; obtain ⟨t92104, A100, H⟩ := H; (try dsimp only at H); have A10 := Aside0.mk A100; clear A100; obtain rfl := Option.some.inj H
     go_enter Tryd.func92, Tryd.ntmps92
     go_wp2_with (first | ((with_reducible refine gate_callee (f := 91) rfl ?_); refine goesL_ (some 21) rfl rfl Tryd.func91 (by kernel_rfl) rfl #[.int .u8 a1, .int .u8 128, .int .u8 143] rfl (by (try simp only [List.map_toArray, List.map_cons, List.map_nil]); first | done | rfl | (simp only [List.length_drop, List.length_take]; rfl)) ?_; (with_reducible refine (siglumref01_between.calls a1 128 143 t92104 _ A10.out).mono ?_); rintro e w' ⟨rfl, ⟨nd, rfl⟩⟩; refine ⟨_, rfl, ?_⟩))
     go_ret; exact ⟨by first | rfl | (simp; done) | (simp [*]; done), by repeat (first | exact Drawn0.refl _ | apply Drawn0.step)⟩
    ·
     rw [if_neg c9] at H; have c9b0 : (a0 == 244) = false := beq_eq_false_iff_ne.mpr c9; have c9b1 : (a0 != 244) = true := bne_iff_ne.mpr c9; replace H := Option.bind_eq_some_iff.mp H; obtain ⟨t92105, A110, H⟩ := H; (try dsimp only at H); have A11 := Aside0.mk A110; clear A110; obtain rfl := Option.some.inj H
     go_enter Tryd.func92, Tryd.ntmps92
     go_wp2_with (first | ((with_reducible refine gate_callee (f := 91) rfl ?_); refine goesL_ (some 23) rfl rfl Tryd.func91 (by kernel_rfl) rfl #[.int .u8 a1, .int .u8 128, .int .u8 191] rfl (by (try simp only [List.map_toArray, List.map_cons, List.map_nil]); first | done | rfl | (simp only [List.length_drop, List.length_take]; rfl)) ?_; (with_reducible refine (siglumref01_between.calls a1 128 191 t92105 _ A11.out).mono ?_); rintro e w' ⟨rfl, ⟨nd, rfl⟩⟩; refine ⟨_, rfl, ?_⟩))
     go_ret; exact ⟨by first | rfl | (simp; done) | (simp [*]; done), by repeat (first | exact Drawn0.refl _ | apply Drawn0.step)⟩
end Go.Proofs.YtcpbalnbgmjhjaaDoor.G
namespace Go.Proofs.YtcpbalnbgmjhjaaDoor.G
open Go.RowKit Go.Proofs.YtcpbalnbgmjhjaaDoor.Mi Go.Proofs.YtcpbalnbgmjhjaaDoorW.PrintWords Go.Proofs.YtcpbalnbgmjhjaaDoorW.PrintLast Go.Proofs.YtcpbalnbgmjhjaaDoorW.PrintMore
attribute [local go_sem] min2_int min_two min_three   -- for this text's walks alone
set_option linter.unusedVariables false
set_option linter.unusedSimpArgs false
/-! ### siglumref01_fits: function 85 -/
mutual
def siglumref01_fits.l0 : Nat → ByteArray → Int → Int → Int → Option (Int)
 | 0, _, _, _, _ => none
 | k + 1, x0, x1, x5, x6 => if x6 < x5 then (siglumref01_fits.j1 k x0 x1 x5 x6 (decide ((wrap64 (x1 + x6)) < (x0.size : Int)))) else (siglumref01_fits.j1 k x0 x1 x5 x6 false)
def siglumref01_fits.j1 : Nat → ByteArray → Int → Int → Int → Bool → Option (Int)
 | 0, _, _, _, _, _ => none
 | k + 1, x0, x1, x5, x6, x24 => if x24 = true then (if 0 ≤ (wrap64 (x1 + x6)) then (if (wrap64 (x1 + x6)) < (x0.size : Int) then (if x6 = 1 then (if 0 ≤ x1 then (if x1 < (x0.size : Int) then ((siglumref01_second.f (bt x0 x1) (bt x0 (wrap64 (x1 + x6)))).bind fun t85102 => (if t85102 = true then (if x6 > 1 then ((siglumref01_between.f (bt x0 (wrap64 (x1 + x6))) 128 191).bind fun t85103 => (if t85103 = true then (siglumref01_fits.l0 k x0 x1 x5 (wrap64 (x6 + 1))) else (some x6))) else (siglumref01_fits.l0 k x0 x1 x5 (wrap64 (x6 + 1)))) else (some x6))) else (none)) else (none)) else (if x6 > 1 then ((siglumref01_between.f (bt x0 (wrap64 (x1 + x6))) 128 191).bind fun t85104 => (if t85104 = true then (siglumref01_fits.l0 k x0 x1 x5 (wrap64 (x6 + 1))) else (some x6))) else (siglumref01_fits.l0 k x0 x1 x5 (wrap64 (x6 + 1))))) else (none)) else (none)) else (some x6)
end
def siglumref01_fits.f (k : Nat) (a0 : ByteArray) (a1 : Int) : Option (Int) := if 0 ≤ a1 then (if a1 < (a0.size : Int) then ((siglumref01_wants.f (bt a0 a1)).bind fun t85101 => (if t85101 = 0 then (some 0) else (siglumref01_fits.l0 k a0 a1 t85101 1))) else (none)) else (none)
set_option maxHeartbeats 8000000 in
set_option maxRecDepth 100000 in
theorem siglumref01_fits.calls (k : Nat) (a0 : ByteArray) (a1 : Int) (r : Int) (w : World) (h : siglumref01_fits.f k a0 a1 = some r) :
 Calls Tryd.prog 85 #[.string a0, .int .i64 a1] w fun e w' => e = .returned (.int .i64 r) ∧ Drawn0 w w' := by
 have H : (if 0 ≤ a1 then (if a1 < (a0.size : Int) then ((siglumref01_wants.f (bt a0 a1)).bind fun t85101 => (if t85101 = 0 then (some 0) else (siglumref01_fits.l0 k a0 a1 t85101 1))) else (none)) else (none)) = some r := h; clear h
 by_cases c3 : 0 ≤ a1
 rotate_left
 · rw [if_neg c3] at H; exact absurd H (by simp)
 rw [if_pos c3] at H; have c3b0 : decide (0 ≤ a1) = true := decide_eq_true c3; clear c3
 by_cases c4 : a1 < (a0.size : Int)
 rotate_left
 · rw [if_neg c4] at H; exact absurd H (by simp)
 rw [if_pos c4] at H; have c4b0 : decide (a1 < (a0.size : Int)) = true := decide_eq_true c4; clear c4; replace H := Option.bind_eq_some_iff.mp H; obtain ⟨t85101, A60, H⟩ := H; (try dsimp only at H); have A6 := Aside0.mk A60; clear A60
 by_cases c7 : t85101 = 0
 ·
  rw [if_pos c7] at H; have c7b0 : (t85101 == 0) = true := beq_iff_eq.mpr c7; have c7b1 : (t85101 != 0) = false := bne_eq_false_iff_eq.mpr c7; clear c7; obtain rfl := Option.some.inj H; have p5 : 0 ≤ (a1 : Int) := oda; have q5 : a1 < (a0.size : Int) := oda; have hx5 := bt_at a0 a1; replace p5 := eq_true p5; replace q5 := eq_true q5
  go_enter Tryd.func85, Tryd.ntmps85
  go_wp2_with (first | ((with_reducible refine gate_callee (f := 84) rfl ?_); refine goesL_ (some 11) rfl rfl Tryd.func84 (by kernel_rfl) rfl #[.int .u8 (bt a0 a1)] rfl (by (try simp only [List.map_toArray, List.map_cons, List.map_nil]); first | done | rfl | (simp only [List.length_drop, List.length_take]; rfl)) ?_; (with_reducible refine (siglumref01_wants.calls (bt a0 a1) t85101 _ A6.out).mono ?_); rintro e w' ⟨rfl, ⟨nd, rfl⟩⟩; refine ⟨_, rfl, ?_⟩))
  go_ret; exact ⟨by first | rfl | (simp; done) | (simp [*]; done), by repeat (first | exact Drawn0.refl _ | apply Drawn0.step)⟩
 ·
  rw [if_neg c7] at H; have c7b0 : (t85101 == 0) = false := beq_eq_false_iff_ne.mpr c7; have c7b1 : (t85101 != 0) = true := bne_iff_ne.mpr c7; have H' := Aside0.mk H; clear H; have p5 : 0 ≤ (a1 : Int) := oda; have q5 : a1 < (a0.size : Int) := oda; have hx5 := bt_at a0 a1; replace p5 := eq_true p5; replace q5 := eq_true q5
  go_enter Tryd.func85, Tryd.ntmps85
  go_wp2_with (first | ((with_reducible refine gate_callee (f := 84) rfl ?_); refine goesL_ (some 11) rfl rfl Tryd.func84 (by kernel_rfl) rfl #[.int .u8 (bt a0 a1)] rfl (by (try simp only [List.map_toArray, List.map_cons, List.map_nil]); first | done | rfl | (simp only [List.length_drop, List.length_take]; rfl)) ?_; (with_reducible refine (siglumref01_wants.calls (bt a0 a1) t85101 _ A6.out).mono ?_); rintro e w' ⟨rfl, ⟨nd, rfl⟩⟩; refine ⟨_, rfl, ?_⟩))
  go_loopg [6] k (fun kq v6 w' => ∃ (x6_1 : Int), v6 = .int .i64 x6_1 ∧ Aside0 (siglumref01_fits.l0 kq a0 a1 t85101 x6_1 = some r) ∧ Aside0 (kq ≤ k) ∧ Drawn0 w w')
  case atStart => exact ⟨(1), (by first | rfl | (simp; done) | (simp [*]; done)), H', ⟨Nat.le_refl _⟩, by repeat (first | exact Drawn0.refl _ | apply Drawn0.step)⟩
  case round =>
   clear H'; (try clear p2); (try clear c3); (try clear c3b0); (try clear c4); (try clear c4b0); (try clear p5); (try clear q5); (try clear hx5); (try clear c7); (try clear c7b0); (try clear c7b1); obtain ⟨x6_1, rfl, HA, HK1, ⟨m1, rfl⟩⟩ := hrel
   cases gk with
   | zero => exact absurd HA.out (by simp [siglumref01_fits.l0])
   | succ k1 =>
    have H := HA.out; clear HA; simp only [siglumref01_fits.l0] at H; have HC8 := Aside0.mk H; clear H
    go_upto_region 5 with (fail)
    go_cut [24] (fun v24 wc => ∃ (kq : Nat) (x24_7 : Bool), v24 = .bool x24_7 ∧ Aside0 (siglumref01_fits.j1 kq a0 a1 t85101 x6_1 x24_7 = some r) ∧ Aside0 (kq ≤ k1) ∧ Drawn0 w wc)
    case first =>
     have H := HC8.out; clear HC8
     by_cases c9 : x6_1 < t85101
     ·
      rw [if_pos c9] at H; have c9b0 : decide (x6_1 < t85101) = true := decide_eq_true c9; clear c9; (first | rw [c9b0] | (simp only [i64_w, i32_w]; rw [c9b0]) | (have ce_ := c9b0; rw [List.beq_nil_eq] at ce_; rw [ce_]) | skip); have H' := Aside0.mk H; clear H; go_wp2
      go_meet
      case rel => exact ⟨_, (decide ((wrap64 (a1 + x6_1)) < (a0.size : Int))), (by first | rfl | (simp; done) | (simp [*]; done)), H', ⟨by have := HK1.out; first | omega | exact Nat.le_refl _⟩, by repeat (first | exact Drawn0.refl _ | apply Drawn0.step)⟩
     ·
      rw [if_neg c9] at H; have c9b0 : decide (x6_1 < t85101) = false := decide_eq_false c9; clear c9; (first | rw [c9b0] | (simp only [i64_w, i32_w]; rw [c9b0]) | (have ce_ := c9b0; rw [List.beq_nil_eq] at ce_; rw [ce_]) | skip); have H' := Aside0.mk H; clear H; go_wp2
      go_meet
      case rel => exact ⟨_, (false), (by first | rfl | (simp; done) | (simp [*]; done)), H', ⟨by have := HK1.out; first | omega | exact Nat.le_refl _⟩, by repeat (first | exact Drawn0.refl _ | apply Drawn0.step)⟩
    case rest =>
     clear HC8; (try clear p2); (try clear c3); (try clear c3b0); (try clear c4); (try clear c4b0); (try clear p5); (try clear q5); (try clear hx5); (try clear p6); (try clear c7); (try clear c7b0); (try clear c7b1); (try clear c8); (try clear c9); (try clear c9b0); obtain ⟨kq, x24_7, rfl, HA, HJ7, ⟨mc7, rfl⟩⟩ := hcut
     cases kq with
     | zero => exact absurd HA.out (by simp [siglumref01_fits.j1])
     | succ kj7 =>
      have H := HA.out; clear HA; simp only [siglumref01_fits.j1] at H
      by_cases c10 : x24_7 = true
      ·
       subst c10; have H1 := H; rw [if_pos rfl] at H1; clear H; have H := H1; clear H1
       obtain ⟨ji11, hji11⟩ : ∃ j_ : Int, (wrap64 (a1 + x6_1)) = j_ := ⟨_, rfl⟩
       replace H : (if 0 ≤ (ji11) then (if (ji11) < (a0.size : Int) then (if x6_1 = 1 then (if 0 ≤ a1 then (if a1 < (a0.size : Int) then ((siglumref01_second.f (bt a0 a1) (bt a0 (ji11))).bind fun t85102 => (if t85102 = true then (if x6_1 > 1 then ((siglumref01_between.f (bt a0 (ji11)) 128 191).bind fun t85103 => (if t85103 = true then (siglumref01_fits.l0 kj7 a0 a1 t85101 (wrap64 (x6_1 + 1))) else (some x6_1))) else (siglumref01_fits.l0 kj7 a0 a1 t85101 (wrap64 (x6_1 + 1)))) else (some x6_1))) else (none)) else (none)) else (if x6_1 > 1 then ((siglumref01_between.f (bt a0 (ji11)) 128 191).bind fun t85104 => (if t85104 = true then (siglumref01_fits.l0 kj7 a0 a1 t85101 (wrap64 (x6_1 + 1))) else (some x6_1))) else (siglumref01_fits.l0 kj7 a0 a1 t85101 (wrap64 (x6_1 + 1))))) else (none)) else (none)) = some r := by first | (rw [hji11] at H; exact H) | (simp only [hji11] at H ⊢; exact H)
       have hji11w : (IntKind.i64.wrap (a1 + x6_1)) = ji11 := (i64_w _).trans hji11
       by_cases c12 : 0 ≤ (ji11)
       rotate_left
       · rw [if_neg c12] at H; exact absurd H (by simp)
       rw [if_pos c12] at H; have c12b0 : decide (0 ≤ (ji11)) = true := decide_eq_true c12; clear c12
       by_cases c13 : (ji11) < (a0.size : Int)
       rotate_left
       · rw [if_neg c13] at H; exact absurd H (by simp)
       rw [if_pos c13] at H; have c13b0 : decide ((ji11) < (a0.size : Int)) = true := decide_eq_true c13; clear c13
       by_cases c15 : x6_1 = 1
       ·
        rw [if_pos c15] at H; have c15b0 : (x6_1 == 1) = true := beq_iff_eq.mpr c15; have c15b1 : (x6_1 != 1) = false := bne_eq_false_iff_eq.mpr c15; clear c15
        by_cases c16 : 0 ≤ a1
        rotate_left
        · rw [if_neg c16] at H; exact absurd H (by simp)
        rw [if_pos c16] at H; have c16b0 : decide (0 ≤ a1) = true := decide_eq_true c16; clear c16
        by_cases c17 : a1 < (a0.size : Int)
        rotate_left
        · rw [if_neg c17] at H; exact absurd H (by simp)
        rw [if_pos c17] at H; have c17b0 : decide (a1 < (a0.size : Int)) = true := decide_eq_true c17; clear c17; replace H := Option.bind_eq_some_iff.mp H; obtain ⟨t85102, A190, H⟩ := H; (try dsimp only at H); have A19 := Aside0.mk A190; clear A190
        by_cases c20 : t85102 = true
        ·
         subst c20; have H1 := H; rw [if_pos rfl] at H1; clear H; have H := H1; clear H1
         by_cases c21 : x6_1 > 1
         ·
          rw [if_pos c21] at H; have c21b0 : decide (1 < x6_1) = true := decide_eq_true c21; clear c21; replace H := Option.bind_eq_some_iff.mp H; obtain ⟨t85103, A220, H⟩ := H; (try dsimp only at H); have A22 := Aside0.mk A220; clear A220
          by_cases c23 : t85103 = true
          ·
           subst c23; have H1 := H; rw [if_pos rfl] at H1; clear H; have H := H1; clear H1; have H' := Aside0.mk H; clear H; have p14 : 0 ≤ ((ji11) : Int) := oda; have q14 : (ji11) < (a0.size : Int) := oda; have hx14 := bt_at a0 (ji11); replace p14 := eq_true p14; replace q14 := eq_true q14; have p18 : 0 ≤ (a1 : Int) := oda; have q18 : a1 < (a0.size : Int) := oda; have hx18 := bt_at a0 a1; replace p18 := eq_true p18; replace q18 := eq_true q18
           go_wp2_with (first | (go_at_call 92; (with_reducible refine (siglumref01_second.calls (bt a0 a1) (bt a0 (ji11)) true _ A19.out).mono ?_); rintro e w' ⟨rfl, ⟨nd, rfl⟩⟩) | (go_at_call 91; (with_reducible refine (siglumref01_between.calls (bt a0 (ji11)) 128 191 true _ A22.out).mono ?_); rintro e w' ⟨rfl, ⟨nd, rfl⟩⟩))
           go_roundg kj7
           case measure => have := HK1.out; have := HJ7.out; omega
           case rel => exact ⟨(wrap64 (x6_1 + 1)), (by first | rfl | (simp; done) | (simp [*]; done)), H', ⟨by have := HK1.out; have := HJ7.out; omega⟩, by repeat (first | exact Drawn0.refl _ | apply Drawn0.step)⟩
          ·
           replace c23 := Bool.eq_false_iff.mpr c23; subst c23; have H1 := H; rw [if_neg (show ¬ (false = true) by decide)] at H1; clear H; have H := H1; clear H1; obtain rfl := Option.some.inj H; have p14 : 0 ≤ ((ji11) : Int) := oda; have q14 : (ji11) < (a0.size : Int) := oda; have hx14 := bt_at a0 (ji11); replace p14 := eq_true p14; replace q14 := eq_true q14; have p18 : 0 ≤ (a1 : Int) := oda; have q18 : a1 < (a0.size : Int) := oda; have hx18 := bt_at a0 a1; replace p18 := eq_true p18; replace q18 := eq_true q18
           go_wp2_with (first | (go_at_call 92; (with_reducible refine (siglumref01_second.calls (bt a0 a1) (bt a0 (ji11)) true _ A19.out).mono ?_); rintro e w' ⟨rfl, ⟨nd, rfl⟩⟩) | (go_at_call 91; (with_reducible refine (siglumref01_between.calls (bt a0 (ji11)) 128 191 false _ A22.out).mono ?_); rintro e w' ⟨rfl, ⟨nd, rfl⟩⟩))
           go_ret; exact ⟨by first | rfl | (simp; done) | (simp only [← hji11] <;> (first | rfl | simp)) | (simp [*]; done), by repeat (first | exact Drawn0.refl _ | apply Drawn0.step)⟩
         ·
          rw [if_neg c21] at H; have c21b0 : decide (1 < x6_1) = false := decide_eq_false c21; clear c21; have H' := Aside0.mk H; clear H; have p14 : 0 ≤ ((ji11) : Int) := oda; have q14 : (ji11) < (a0.size : Int) := oda; have hx14 := bt_at a0 (ji11); replace p14 := eq_true p14; replace q14 := eq_true q14; have p18 : 0 ≤ (a1 : Int) := oda; have q18 : a1 < (a0.size : Int) := oda; have hx18 := bt_at a0 a1; replace p18 := eq_true p18; replace q18 := eq_true q18
          go_wp2_with (first | (go_at_call 92; (with_reducible refine (siglumref01_second.calls (bt a0 a1) (bt a0 (ji11)) true _ A19.out).mono ?_); rintro e w' ⟨rfl, ⟨nd, rfl⟩⟩))
          go_roundg kj7
          case measure => have := HK1.out; have := HJ7.out; omega
          case rel => exact ⟨(wrap64 (x6_1 + 1)), (by first | rfl | (simp; done) | (simp [*]; done)), H', ⟨by have := HK1.out; have := HJ7.out; omega⟩, by repeat (first | exact Drawn0.refl _ | apply Drawn0.step)⟩
        ·
         replace c20 := Bool.eq_false_iff.mpr c20; subst c20; have H1 := H; rw [if_neg (show ¬ (false = true) by decide)] at H1; clear H; have H := H1; clear H1; obtain rfl := Option.some.inj H; have p14 : 0 ≤ ((ji11) : Int) := oda; have q14 : (ji11) < (a0.size : Int) := oda; have hx14 := bt_at a0 (ji11); replace p14 := eq_true p14; replace q14 := eq_true q14; have p18 : 0 ≤ (a1 : Int) := oda; have q18 : a1 < (a0.size : Int) := oda; have hx18 := bt_at a0 a1; replace p18 := eq_true p18; replace q18 := eq_true q18
         go_wp2_with (first | (go_at_call 92; (with_reducible refine (siglumref01_second.calls (bt a0 a1) (bt a0 (ji11)) false _ A19.out).mono ?_); rintro e w' ⟨rfl, ⟨nd, rfl⟩⟩))
         go_ret; exact ⟨by first | rfl | (simp; done) | (simp only [← hji11] <;> (first | rfl | simp)) | (simp [*]; done), by repeat (first | exact Drawn0.refl _ | apply Drawn0.step)⟩
       ·
        rw [if_neg c15] at H; have c15b0 : (x6_1 == 1) = false := beq_eq_false_iff_ne.mpr c15; have c15b1 : (x6_1 != 1) = true := bne_iff_ne.mpr c15
        by_cases c24 : x6_1 > 1
        ·
         rw [if_pos c24] at H; have c24b0 : decide (1 < x6_1) = true := decide_eq_true c24; clear c24; replace H := Option.bind_eq_some_iff.mp H; obtain ⟨t85104, A250, H⟩ := H; (try dsimp only at H); have A25 := Aside0.mk A250; clear A250
         by_cases c26 : t85104 = true
         ·
          subst c26; have H1 := H; rw [if_pos rfl] at H1; clear H; have H := H1; clear H1; have H' := Aside0.mk H; clear H; have p14 : 0 ≤ ((ji11) : Int) := oda; have q14 : (ji11) < (a0.size : Int) := oda; have hx14 := bt_at a0 (ji11); replace p14 := eq_true p14; replace q14 := eq_true q14
          go_wp2_with (first | (go_at_call 91; (with_reducible refine (siglumref01_between.calls (bt a0 (ji11)) 128 191 true _ A25.out).mono ?_); rintro e w' ⟨rfl, ⟨nd, rfl⟩⟩))
          go_roundg kj7
          case measure => have := HK1.out; have := HJ7.out; omega
          case rel => exact ⟨(wrap64 (x6_1 + 1)), (by first | rfl | (simp; done) | (simp [*]; done)), H', ⟨by have := HK1.out; have := HJ7.out; omega⟩, by repeat (first | exact Drawn0.refl _ | apply Drawn0.step)⟩
         ·
          replace c26 := Bool.eq_false_iff.mpr c26; subst c26; have H1 := H; rw [if_neg (show ¬ (false = true) by decide)] at H1; clear H; have H := H1; clear H1; obtain rfl := Option.some.inj H; have p14 : 0 ≤ ((ji11) : Int) := oda; have q14 : (ji11) < (a0.size : Int) := oda; have hx14 := bt_at a0 (ji11); replace p14 := eq_true p14; replace q14 := eq_true q14
          go_wp2_with (first | (go_at_call 91; (with_reducible refine (siglumref01_between.calls (bt a0 (ji11)) 128 191 false _ A25.out).mono ?_); rintro e w' ⟨rfl, ⟨nd, rfl⟩⟩))
          go_ret; exact ⟨by first | rfl | (simp; done) | (simp only [← hji11] <;> (first | rfl | simp)) | (simp [*]; done), by repeat (first | exact Drawn0.refl _ | apply Drawn0.step)⟩
        ·
         rw [if_neg c24] at H; have c24b0 : decide (1 < x6_1) = false := decide_eq_false c24; clear c24; have H' := Aside0.mk H; clear H; have p14 : 0 ≤ ((ji11) : Int) := oda; have q14 : (ji11) < (a0.size : Int) := oda; have hx14 := bt_at a0 (ji11); replace p14 := eq_true p14; replace q14 := eq_true q14; go_wp2
         go_roundg kj7
         case measure => have := HK1.out; have := HJ7.out; omega
         case rel => exact ⟨(wrap64 (x6_1 + 1)), (by first | rfl | (simp; done) | (simp [*]; done)), H', ⟨by have := HK1.out; have := HJ7.out; omega⟩, by repeat (first | exact Drawn0.refl _ | apply Drawn0.step)⟩
      ·
       replace c10 := Bool.eq_false_iff.mpr c10; subst c10; have H1 := H; rw [if_neg (show ¬ (false = true) by decide)] at H1; clear H; have H := H1; clear H1; obtain rfl := Option.some.inj H; go_wp2; go_ret; exact ⟨by first | rfl | (simp; done) | (simp [*]; done), by repeat (first | exact Drawn0.refl _ | apply Drawn0.step)⟩
end Go.Proofs.YtcpbalnbgmjhjaaDoor.G
namespace Go.Proofs.YtcpbalnbgmjhjaaDoor.G
open Go.RowKit Go.Proofs.YtcpbalnbgmjhjaaDoor.Mi Go.Proofs.YtcpbalnbgmjhjaaDoorW.PrintWords Go.Proofs.YtcpbalnbgmjhjaaDoorW.PrintLast Go.Proofs.YtcpbalnbgmjhjaaDoorW.PrintMore
attribute [local go_sem] min2_int min_two min_three   -- for this text's walks alone
set_option linter.unusedVariables false
set_option linter.unusedSimpArgs false
/-! ### siglumref01_cell: function 71 -/
def siglumref01_cell.j0 : Nat → ByteArray → Int → Int → Bool → Option (Int × Int × Int × Bool × Int)
 | 0, _, _, _, _ => none
 | k + 1, x0, x1, x5, x19 => if x19 = true then (if 0 ≤ x1 then (if x1 < (x0.size : Int) then (some (x1, 1, 65533, true, bt x0 x1)) else (none)) else (none)) else (if 0 ≤ x1 then (if x1 < (x0.size : Int) then (if x5 = 2 then (if 0 ≤ (wrap64 (x1 + 1)) then (if (wrap64 (x1 + 1)) < (x0.size : Int) then (some (x1, x5, Go.bits .or .i32 (wrap32 ((wrap32 (Go.bits .and .u8 (bt x0 x1) 31)) * 64)) (wrap32 (Go.bits .and .u8 (bt x0 (wrap64 (x1 + 1))) 63)), false, 0)) else (none)) else (none)) else (if x5 = 3 then (if 0 ≤ (wrap64 (x1 + 1)) then (if (wrap64 (x1 + 1)) < (x0.size : Int) then (if 0 ≤ (wrap64 (x1 + 2)) then (if (wrap64 (x1 + 2)) < (x0.size : Int) then (some (x1, x5, Go.bits .or .i32 (Go.bits .or .i32 (wrap32 ((wrap32 (Go.bits .and .u8 (bt x0 x1) 15)) * 4096)) (wrap32 ((wrap32 (Go.bits .and .u8 (bt x0 (wrap64 (x1 + 1))) 63)) * 64))) (wrap32 (Go.bits .and .u8 (bt x0 (wrap64 (x1 + 2))) 63)), false, 0)) else (none)) else (none)) else (none)) else (none)) else (if x5 = 4 then (if 0 ≤ (wrap64 (x1 + 1)) then (if (wrap64 (x1 + 1)) < (x0.size : Int) then (if 0 ≤ (wrap64 (x1 + 2)) then (if (wrap64 (x1 + 2)) < (x0.size : Int) then (if 0 ≤ (wrap64 (x1 + 3)) then (if (wrap64 (x1 + 3)) < (x0.size : Int) then (some (x1, x5, Go.bits .or .i32 (Go.bits .or .i32 (Go.bits .or .i32 (wrap32 ((wrap32 (Go.bits .and .u8 (bt x0 x1) 7)) * 262144)) (wrap32 ((wrap32 (Go.bits .and .u8 (bt x0 (wrap64 (x1 + 1))) 63)) * 4096))) (wrap32 ((wrap32 (Go.bits .and .u8 (bt x0 (wrap64 (x1 + 2))) 63)) * 64))) (wrap32 (Go.bits .and .u8 (bt x0 (wrap64 (x1 + 3))) 63)), false, 0)) else (none)) else (none)) else (none)) else (none)) else (none)) else (none)) else (some (x1, x5, wrap32 (bt x0 x1), false, 0))))) else (none)) else (none))
def siglumref01_cell.f (k : Nat) (a0 : ByteArray) (a1 : Int) : Option (Int × Int × Int × Bool × Int) := if 0 ≤ a1 then (if a1 < (a0.size : Int) then ((siglumref01_wants.f (bt a0 a1)).bind fun t71102 => (if t71102 = 0 then (siglumref01_cell.j0 k a0 a1 t71102 true) else ((siglumref01_fits.f k a0 a1).bind fun t71103 => (siglumref01_cell.j0 k a0 a1 t71102 (decide (t71103 < t71102)))))) else (none)) else (none)
set_option maxHeartbeats 8000000 in
set_option maxRecDepth 100000 in
theorem siglumref01_cell.calls (k : Nat) (a0 : ByteArray) (a1 : Int) (r1 : Int) (r2 : Int) (r3 : Int) (r4 : Bool) (r5 : Int) (w : World) (h : siglumref01_cell.f k a0 a1 = some (r1, r2, r3, r4, r5)) :
 Calls Tryd.prog 71 #[.string a0, .int .i64 a1] w fun e w' => e = .returned (.agg #[.int .i64 r1, .int .i64 r2, .int .i32 r3, .bool r4, .int .u8 r5]) ∧ Below w.heap.size w w' := by
 have hu91 := Tryd.underlying91; have HB := Aside0.mk (Below.refl w.heap.size w); have H : (if 0 ≤ a1 then (if a1 < (a0.size : Int) then ((siglumref01_wants.f (bt a0 a1)).bind fun t71102 => (if t71102 = 0 then (siglumref01_cell.j0 k a0 a1 t71102 true) else ((siglumref01_fits.f k a0 a1).bind fun t71103 => (siglumref01_cell.j0 k a0 a1 t71102 (decide (t71103 < t71102)))))) else (none)) else (none)) = some (r1, r2, r3, r4, r5) := h; clear h
 by_cases c3 : 0 ≤ a1
 rotate_left
 · rw [if_neg c3] at H; exact absurd H (by simp)
 rw [if_pos c3] at H; have c3b0 : decide (0 ≤ a1) = true := decide_eq_true c3; clear c3
 by_cases c4 : a1 < (a0.size : Int)
 rotate_left
 · rw [if_neg c4] at H; exact absurd H (by simp)
 rw [if_pos c4] at H; have c4b0 : decide (a1 < (a0.size : Int)) = true := decide_eq_true c4; clear c4; replace H := Option.bind_eq_some_iff.mp H; obtain ⟨t71102, A60, H⟩ := H; (try dsimp only at H); have A6 := Aside0.mk A60; clear A60; have HC7 := Aside0.mk H; clear H
 go_enter Tryd.func71, Tryd.ntmps71
 go_upto_region 2 with (first | ((with_reducible refine gate_dst (N := 4) rfl ?_); refine box_event ?hg (N := 4) ?hd (cs := #[.int .i64 0, .int .i64 0, .int .i32 0, .bool false, .int .u8 0]) (t := 91) ?hr ?_; (case hd => rfl); (case hg => rfl); (case hr => first | (go_simp; done) | (go_simp; rfl)); intro gb71101 hg w8 hbox hb; have n0_ := Aside0.mk (below_step bel hb); have n1_ := Aside0.mk (hbox); have n2_ := Aside0.mk ((by rw [hg]; exact (below_size bel) : w.heap.size ≤ gb71101)); have n3_ := Aside0.mk ((by rw [hg]; exact (below_size bel) : w.heap.size ≤ gb71101)); clear HB; have HB := n0_; have BK71101 := n1_; have GW71101 := n2_; have GE71101 := n3_; clear n0_ n1_ n2_ n3_; clear hb hbox hg; have p5 : 0 ≤ (a1 : Int) := oda; have q5 : a1 < (a0.size : Int) := oda; have hx5 := bt_at a0 a1; replace p5 := eq_true p5; replace q5 := eq_true q5) | (go_at_call 84; (with_reducible refine (siglumref01_wants.calls (bt a0 a1) t71102 _ A6.out).mono ?_); rintro e w' ⟨rfl, ⟨nd, rfl⟩⟩; (try first | exact ⟨rfl, _, World.drewN_drewN _ _ _⟩ | exact ⟨rfl, _, Eq.trans (World.drewN_drewN _ _ _) (congrArg (World.drewN _) (Nat.add_assoc _ _ _))⟩)))
 repeat (go_quiet (first | ((with_reducible refine gate_dst (N := 4) rfl ?_); refine box_event ?hg (N := 4) ?hd (cs := #[.int .i64 0, .int .i64 0, .int .i32 0, .bool false, .int .u8 0]) (t := 91) ?hr ?_; (case hd => rfl); (case hg => rfl); (case hr => first | (go_simp; done) | (go_simp; rfl)); intro gb71101 hg w8 hbox hb; have n0_ := Aside0.mk (below_step bel hb); have n1_ := Aside0.mk (hbox); have n2_ := Aside0.mk ((by rw [hg]; exact (below_size bel) : w.heap.size ≤ gb71101)); have n3_ := Aside0.mk ((by rw [hg]; exact (below_size bel) : w.heap.size ≤ gb71101)); clear HB; have HB := n0_; have BK71101 := n1_; have GW71101 := n2_; have GE71101 := n3_; clear n0_ n1_ n2_ n3_; clear hb hbox hg; have p5 : 0 ≤ (a1 : Int) := oda; have q5 : a1 < (a0.size : Int) := oda; have hx5 := bt_at a0 a1; replace p5 := eq_true p5; replace q5 := eq_true q5) | (go_at_call 84; (with_reducible refine (siglumref01_wants.calls (bt a0 a1) t71102 _ A6.out).mono ?_); rintro e w' ⟨rfl, ⟨nd, rfl⟩⟩; (try first | exact ⟨rfl, _, World.drewN_drewN _ _ _⟩ | exact ⟨rfl, _, Eq.trans (World.drewN_drewN _ _ _) (congrArg (World.drewN _) (Nat.add_assoc _ _ _))⟩))); go_upto_region 2 with (first | ((with_reducible refine gate_dst (N := 4) rfl ?_); refine box_event ?hg (N := 4) ?hd (cs := #[.int .i64 0, .int .i64 0, .int .i32 0, .bool false, .int .u8 0]) (t := 91) ?hr ?_; (case hd => rfl); (case hg => rfl); (case hr => first | (go_simp; done) | (go_simp; rfl)); intro gb71101 hg w8 hbox hb; have n0_ := Aside0.mk (below_step bel hb); have n1_ := Aside0.mk (hbox); have n2_ := Aside0.mk ((by rw [hg]; exact (below_size bel) : w.heap.size ≤ gb71101)); have n3_ := Aside0.mk ((by rw [hg]; exact (below_size bel) : w.heap.size ≤ gb71101)); clear HB; have HB := n0_; have BK71101 := n1_; have GW71101 := n2_; have GE71101 := n3_; clear n0_ n1_ n2_ n3_; clear hb hbox hg; have p5 : 0 ≤ (a1 : Int) := oda; have q5 : a1 < (a0.size : Int) := oda; have hx5 := bt_at a0 a1; replace p5 := eq_true p5; replace q5 := eq_true q5) | (go_at_call 84; (with_reducible refine (siglumref01_wants.calls (bt a0 a1) t71102 _ A6.out).mono ?_); rintro e w' ⟨rfl, ⟨nd, rfl⟩⟩; (try first | exact ⟨rfl, _, World.drewN_drewN _ _ _⟩ | exact ⟨rfl, _, Eq.trans (World.drewN_drewN _ _ _) (congrArg (World.drewN _) (Nat.add_assoc _ _ _))⟩))))
 (try simp only [Act.put,za,zb,zc])
 go_cut [19] (fun v19 wc => ∃ (kq : Nat) (x19_6 : Bool), v19 = .bool x19_6 ∧ Aside0 (siglumref01_cell.j0 kq a0 a1 t71102 x19_6 = some (r1, r2, r3, r4, r5)) ∧ Aside0 (kq ≤ k) ∧ Aside0 (wc.heap[gb71101]? = some (.cells #[.int .i64 0, .int .i64 0, .int .i32 0, .bool false, .int .u8 0] 91 (0, 0))) ∧ Aside0 (Below w.heap.size w wc))
 case first =>
  have H := HC7.out; clear HC7
  by_cases c9 : t71102 = 0
  ·
   rw [if_pos c9] at H; have c9b0 : (t71102 == 0) = true := beq_iff_eq.mpr c9; have c9b1 : (t71102 != 0) = false := bne_eq_false_iff_eq.mpr c9; clear c9; (first | rw [c9b0] | (simp only [i64_w, i32_w]; rw [c9b0]) | (have ce_ := c9b0; rw [List.beq_nil_eq] at ce_; rw [ce_]) | skip); have H' := Aside0.mk H; clear H; go_wp2
   repeat (go_quiet (fail); try go_wp2)
   go_meet
   case rel => exact ⟨_, (true), (by first | rfl | (simp; done) | (simp [*]; done)), H', ⟨by first | omega | exact Nat.le_refl _⟩, ⟨bl BK71101⟩, ⟨bel⟩⟩
  ·
   rw [if_neg c9] at H; have c9b0 : (t71102 == 0) = false := beq_eq_false_iff_ne.mpr c9; have c9b1 : (t71102 != 0) = true := bne_iff_ne.mpr c9; (first | rw [c9b0] | (simp only [i64_w, i32_w]; rw [c9b0]) | (have ce_ := c9b0; rw [List.beq_nil_eq] at ce_; rw [ce_]) | skip); replace H := Option.bind_eq_some_iff.mp H; obtain ⟨t71103, A100, H⟩ := H; (try dsimp only at H); have A10 := Aside0.mk A100; clear A100; have H' := Aside0.mk H; clear H
   go_wp2_with (first | (go_at_call 85; (with_reducible refine (siglumref01_fits.calls k a0 a1 t71103 _ A10.out).mono ?_); rintro e w' ⟨rfl, ⟨nd, rfl⟩⟩; (try first | exact ⟨rfl, _, World.drewN_drewN _ _ _⟩ | exact ⟨rfl, _, Eq.trans (World.drewN_drewN _ _ _) (congrArg (World.drewN _) (Nat.add_assoc _ _ _))⟩)))
   repeat (go_quiet (first | (go_at_call 85; (with_reducible refine (siglumref01_fits.calls k a0 a1 t71103 _ A10.out).mono ?_); rintro e w' ⟨rfl, ⟨nd, rfl⟩⟩; (try first | exact ⟨rfl, _, World.drewN_drewN _ _ _⟩ | exact ⟨rfl, _, Eq.trans (World.drewN_drewN _ _ _) (congrArg (World.drewN _) (Nat.add_assoc _ _ _))⟩))); try go_wp2_with (first | (go_at_call 85; (with_reducible refine (siglumref01_fits.calls k a0 a1 t71103 _ A10.out).mono ?_); rintro e w' ⟨rfl, ⟨nd, rfl⟩⟩; (try first | exact ⟨rfl, _, World.drewN_drewN _ _ _⟩ | exact ⟨rfl, _, Eq.trans (World.drewN_drewN _ _ _) (congrArg (World.drewN _) (Nat.add_assoc _ _ _))⟩))))
   go_meet
   case rel => exact ⟨_, (decide (t71103 < t71102)), (by first | rfl | (simp; done) | (simp [*]; done)), H', ⟨by first | omega | exact Nat.le_refl _⟩, ⟨bl BK71101⟩, ⟨bel⟩⟩
 case rest =>
  clear HC7; (try clear p2); (try clear c3); (try clear c3b0); (try clear c4); (try clear c4b0); (try clear p5); (try clear q5); (try clear hx5); (try clear c7); (try clear c9); (try clear c9b0); (try clear c9b1); obtain ⟨kq, x19_6, rfl, HA, HJ6, BK71101, HB⟩ := hcut
  cases kq with
  | zero => exact absurd HA.out (by simp [siglumref01_cell.j0])
  | succ kj6 =>
   have H := HA.out; clear HA; simp only [siglumref01_cell.j0] at H
   by_cases c11 : x19_6 = true
   ·
    subst c11; have H1 := H; rw [if_pos rfl] at H1; clear H; have H := H1; clear H1
    by_cases c12 : 0 ≤ a1
    rotate_left
    · rw [if_neg c12] at H; exact absurd H (by simp)
    rw [if_pos c12] at H; have c12b0 : decide (0 ≤ a1) = true := decide_eq_true c12; clear c12
    by_cases c13 : a1 < (a0.size : Int)
    rotate_left
    · rw [if_neg c13] at H; exact absurd H (by simp)
    rw [if_pos c13] at H; have c13b0 : decide (a1 < (a0.size : Int)) = true := decide_eq_true c13; clear c13; simp only [Option.some.injEq, Prod.mk.injEq] at H; obtain ⟨rfl, rfl, rfl, rfl, rfl⟩ := H; have p14 : 0 ≤ (a1 : Int) := oda; have q14 : a1 < (a0.size : Int) := oda; have hx14 := bt_at a0 a1; replace p14 := eq_true p14; replace q14 := eq_true q14; have hcz15_0 : wc.cell? ⟨gb71101, 0, none⟩ = some (.int .i64 0) := (blk_cell BK71101.out 0).trans rfl; have hcz15_1 : wc.cell? ⟨gb71101, 1, none⟩ = some (.int .i64 0) := (blk_cell BK71101.out 1).trans rfl; have hcz15_2 : wc.cell? ⟨gb71101, 2, none⟩ = some (.int .i32 0) := (blk_cell BK71101.out 2).trans rfl; have hcz15_3 : wc.cell? ⟨gb71101, 3, none⟩ = some (.bool false) := (blk_cell BK71101.out 3).trans rfl; have hcz15_4 : wc.cell? ⟨gb71101, 4, none⟩ = some (.int .u8 0) := (blk_cell BK71101.out 4).trans rfl; have hfz15_0 := blk_frozen BK71101.out 0; have hfz15_1 := blk_frozen BK71101.out 1; have hfz15_2 := blk_frozen BK71101.out 2; have hfz15_3 := blk_frozen BK71101.out 3; have hfz15_4 := blk_frozen BK71101.out 4; go_wp2
    repeat (go_quiet (fail); try go_wp2)
    refine bodyPost_ret (results_cell_row rfl _ _ gb71101 91 #[.int .i64 a1, .int .i64 1, .int .i32 65533, .bool true, .int .u8 (bt a0 a1)] (0, 0) _ rfl (by (with_reducible repeat (first | refine blk_drewN ?_ _ | refine blk_drew ?_ | refine blk_alloc ?_ _)); refine blk_put (cs := #[.int .i64 a1, .int .i64 1, .int .i32 65533, .bool true, .int .u8 0]) ?_ 4 _ rfl; (with_reducible repeat (first | refine blk_drewN ?_ _ | refine blk_drew ?_ | refine blk_alloc ?_ _)); refine blk_put (cs := #[.int .i64 a1, .int .i64 1, .int .i32 65533, .bool false, .int .u8 0]) ?_ 3 _ rfl; (with_reducible repeat (first | refine blk_drewN ?_ _ | refine blk_drew ?_ | refine blk_alloc ?_ _)); refine blk_put (cs := #[.int .i64 a1, .int .i64 1, .int .i32 0, .bool false, .int .u8 0]) ?_ 2 _ rfl; (with_reducible repeat (first | refine blk_drewN ?_ _ | refine blk_drew ?_ | refine blk_alloc ?_ _)); refine blk_put (cs := #[.int .i64 a1, .int .i64 0, .int .i32 0, .bool false, .int .u8 0]) ?_ 1 _ rfl; (with_reducible repeat (first | refine blk_drewN ?_ _ | refine blk_drew ?_ | refine blk_alloc ?_ _)); refine blk_put (cs := #[.int .i64 0, .int .i64 0, .int .i32 0, .bool false, .int .u8 0]) ?_ 0 _ rfl; (with_reducible repeat (first | refine blk_drewN ?_ _ | refine blk_drew ?_ | refine blk_alloc ?_ _)); exact BK71101.out) Tryd.underlying91 rfl (by kernel_rfl)) rfl ?_; exact ⟨by first | rfl | (simp [errW_none, errW_some] <;> rfl) | (simp [*, errW_none, errW_some] <;> rfl), by exact bel⟩
   ·
    replace c11 := Bool.eq_false_iff.mpr c11; subst c11; have H1 := H; rw [if_neg (show ¬ (false = true) by decide)] at H1; clear H; have H := H1; clear H1
    by_cases c16 : 0 ≤ a1
    rotate_left
    · rw [if_neg c16] at H; exact absurd H (by simp)
    rw [if_pos c16] at H; have c16b0 : decide (0 ≤ a1) = true := decide_eq_true c16; clear c16
    by_cases c17 : a1 < (a0.size : Int)
    rotate_left
    · rw [if_neg c17] at H; exact absurd H (by simp)
    rw [if_pos c17] at H; have c17b0 : decide (a1 < (a0.size : Int)) = true := decide_eq_true c17; clear c17
    by_cases c19 : t71102 = 2
    ·
     rw [if_pos c19] at H; have c19b0 : (t71102 == 2) = true := beq_iff_eq.mpr c19; have c19b1 : (t71102 != 2) = false := bne_eq_false_iff_eq.mpr c19; clear c19
     obtain ⟨ji21, hji21⟩ : ∃ j_ : Int, (wrap64 (a1 + 1)) = j_ := ⟨_, rfl⟩
     replace H : (if 0 ≤ (ji21) then (if (ji21) < (a0.size : Int) then (some (a1, t71102, Go.bits .or .i32 (wrap32 ((wrap32 (Go.bits .and .u8 (bt a0 a1) 31)) * 64)) (wrap32 (Go.bits .and .u8 (bt a0 (ji21)) 63)), false, 0)) else (none)) else (none)) = some (r1, r2, r3, r4, r5) := by first | (rw [hji21] at H; exact H) | (simp only [hji21] at H ⊢; exact H)
     have hji21w : (IntKind.i64.wrap (a1 + 1)) = ji21 := (i64_w _).trans hji21
     by_cases c22 : 0 ≤ (ji21)
     rotate_left
     · rw [if_neg c22] at H; exact absurd H (by simp)
     rw [if_pos c22] at H; have c22b0 : decide (0 ≤ (ji21)) = true := decide_eq_true c22; clear c22
     by_cases c23 : (ji21) < (a0.size : Int)
     rotate_left
     · rw [if_neg c23] at H; exact absurd H (by simp)
     rw [if_pos c23] at H; have c23b0 : decide ((ji21) < (a0.size : Int)) = true := decide_eq_true c23; clear c23; simp only [Option.some.injEq, Prod.mk.injEq] at H; obtain ⟨rfl, rfl, rfl, rfl, rfl⟩ := H; have p18 : 0 ≤ (a1 : Int) := oda; have q18 : a1 < (a0.size : Int) := oda; have hx18 := bt_at a0 a1; replace p18 := eq_true p18; replace q18 := eq_true q18; have p20 : 0 ≤ (a1 : Int) := oda; have q20 : a1 < (a0.size : Int) := oda; have hx20 := bt_at a0 a1; replace p20 := eq_true p20; replace q20 := eq_true q20; have p24 : 0 ≤ ((ji21) : Int) := oda; have q24 : (ji21) < (a0.size : Int) := oda; have hx24 := bt_at a0 (ji21); replace p24 := eq_true p24; replace q24 := eq_true q24; have hcz25_0 : wc.cell? ⟨gb71101, 0, none⟩ = some (.int .i64 0) := (blk_cell BK71101.out 0).trans rfl; have hcz25_1 : wc.cell? ⟨gb71101, 1, none⟩ = some (.int .i64 0) := (blk_cell BK71101.out 1).trans rfl; have hcz25_2 : wc.cell? ⟨gb71101, 2, none⟩ = some (.int .i32 0) := (blk_cell BK71101.out 2).trans rfl; have hcz25_3 : wc.cell? ⟨gb71101, 3, none⟩ = some (.bool false) := (blk_cell BK71101.out 3).trans rfl; have hcz25_4 : wc.cell? ⟨gb71101, 4, none⟩ = some (.int .u8 0) := (blk_cell BK71101.out 4).trans rfl; have hfz25_0 := blk_frozen BK71101.out 0; have hfz25_1 := blk_frozen BK71101.out 1; have hfz25_2 := blk_frozen BK71101.out 2; have hfz25_3 := blk_frozen BK71101.out 3; have hfz25_4 := blk_frozen BK71101.out 4; go_wp2
     repeat (go_quiet (fail); try go_wp2)
     refine bodyPost_ret (results_cell_row rfl _ _ gb71101 91 #[.int .i64 a1, .int .i64 t71102, .int .i32 (Go.bits .or .i32 (wrap32 ((wrap32 (Go.bits .and .u8 (bt a0 a1) 31)) * 64)) (wrap32 (Go.bits .and .u8 (bt a0 (ji21)) 63))), .bool false, .int .u8 0] (0, 0) _ rfl (by (with_reducible repeat (first | refine blk_drewN ?_ _ | refine blk_drew ?_ | refine blk_alloc ?_ _)); refine blk_put (cs := #[.int .i64 a1, .int .i64 t71102, .int .i32 (Go.bits .or .i32 (wrap32 ((wrap32 (Go.bits .and .u8 (bt a0 a1) 31)) * 64)) (wrap32 (Go.bits .and .u8 (bt a0 (ji21)) 63))), .bool false, .int .u8 0]) ?_ 4 _ rfl; (with_reducible repeat (first | refine blk_drewN ?_ _ | refine blk_drew ?_ | refine blk_alloc ?_ _)); refine blk_put (cs := #[.int .i64 a1, .int .i64 t71102, .int .i32 (Go.bits .or .i32 (wrap32 ((wrap32 (Go.bits .and .u8 (bt a0 a1) 31)) * 64)) (wrap32 (Go.bits .and .u8 (bt a0 (ji21)) 63))), .bool false, .int .u8 0]) ?_ 3 _ rfl; (with_reducible repeat (first | refine blk_drewN ?_ _ | refine blk_drew ?_ | refine blk_alloc ?_ _)); refine blk_put (cs := #[.int .i64 a1, .int .i64 t71102, .int .i32 0, .bool false, .int .u8 0]) ?_ 2 _ rfl; (with_reducible repeat (first | refine blk_drewN ?_ _ | refine blk_drew ?_ | refine blk_alloc ?_ _)); refine blk_put (cs := #[.int .i64 a1, .int .i64 0, .int .i32 0, .bool false, .int .u8 0]) ?_ 1 _ rfl; (with_reducible repeat (first | refine blk_drewN ?_ _ | refine blk_drew ?_ | refine blk_alloc ?_ _)); refine blk_put (cs := #[.int .i64 0, .int .i64 0, .int .i32 0, .bool false, .int .u8 0]) ?_ 0 _ rfl; (with_reducible repeat (first | refine blk_drewN ?_ _ | refine blk_drew ?_ | refine blk_alloc ?_ _)); exact BK71101.out) Tryd.underlying91 rfl (by kernel_rfl)) rfl ?_
     exact ⟨by first | rfl | (simp [errW_none, errW_some] <;> rfl) | (simp only [← hji21]; first | rfl | (simp [errW_none, errW_some] <;> rfl)) | (simp [*, errW_none, errW_some] <;> rfl), by exact bel⟩
    ·
     rw [if_neg c19] at H; have c19b0 : (t71102 == 2) = false := beq_eq_false_iff_ne.mpr c19; have c19b1 : (t71102 != 2) = true := bne_iff_ne.mpr c19
     by_cases c26 : t71102 = 3
     ·
      rw [if_pos c26] at H; have c26b0 : (t71102 == 3) = true := beq_iff_eq.mpr c26; have c26b1 : (t71102 != 3) = false := bne_eq_false_iff_eq.mpr c26; clear c26
      obtain ⟨ji28, hji28⟩ : ∃ j_ : Int, (wrap64 (a1 + 1)) = j_ := ⟨_, rfl⟩
      replace H : (if 0 ≤ (ji28) then (if (ji28) < (a0.size : Int) then (if 0 ≤ (wrap64 (a1 + 2)) then (if (wrap64 (a1 + 2)) < (a0.size : Int) then (some (a1, t71102, Go.bits .or .i32 (Go.bits .or .i32 (wrap32 ((wrap32 (Go.bits .and .u8 (bt a0 a1) 15)) * 4096)) (wrap32 ((wrap32 (Go.bits .and .u8 (bt a0 (ji28)) 63)) * 64))) (wrap32 (Go.bits .and .u8 (bt a0 (wrap64 (a1 + 2))) 63)), false, 0)) else (none)) else (none)) else (none)) else (none)) = some (r1, r2, r3, r4, r5) := by first | (rw [hji28] at H; exact H) | (simp only [hji28] at H ⊢; exact H)
      have hji28w : (IntKind.i64.wrap (a1 + 1)) = ji28 := (i64_w _).trans hji28
      by_cases c29 : 0 ≤ (ji28)
      rotate_left
      · rw [if_neg c29] at H; exact absurd H (by simp)
      rw [if_pos c29] at H; have c29b0 : decide (0 ≤ (ji28)) = true := decide_eq_true c29; clear c29
      by_cases c30 : (ji28) < (a0.size : Int)
      rotate_left
      · rw [if_neg c30] at H; exact absurd H (by simp)
      rw [if_pos c30] at H; have c30b0 : decide ((ji28) < (a0.size : Int)) = true := decide_eq_true c30; clear c30
      obtain ⟨ji32, hji32⟩ : ∃ j_ : Int, (wrap64 (a1 + 2)) = j_ := ⟨_, rfl⟩
      replace H : (if 0 ≤ (ji32) then (if (ji32) < (a0.size : Int) then (some (a1, t71102, Go.bits .or .i32 (Go.bits .or .i32 (wrap32 ((wrap32 (Go.bits .and .u8 (bt a0 a1) 15)) * 4096)) (wrap32 ((wrap32 (Go.bits .and .u8 (bt a0 (ji28)) 63)) * 64))) (wrap32 (Go.bits .and .u8 (bt a0 (ji32)) 63)), false, 0)) else (none)) else (none)) = some (r1, r2, r3, r4, r5) := by first | (rw [hji32] at H; exact H) | (simp only [hji32] at H ⊢; exact H)
      have hji32w : (IntKind.i64.wrap (a1 + 2)) = ji32 := (i64_w _).trans hji32
      by_cases c33 : 0 ≤ (ji32)
      rotate_left
      · rw [if_neg c33] at H; exact absurd H (by simp)
      rw [if_pos c33] at H; have c33b0 : decide (0 ≤ (ji32)) = true := decide_eq_true c33; clear c33
      by_cases c34 : (ji32) < (a0.size : Int)
      rotate_left
      · rw [if_neg c34] at H; exact absurd H (by simp)
      rw [if_pos c34] at H; have c34b0 : decide ((ji32) < (a0.size : Int)) = true := decide_eq_true c34; clear c34; simp only [Option.some.injEq, Prod.mk.injEq] at H; obtain ⟨rfl, rfl, rfl, rfl, rfl⟩ := H; have p18 : 0 ≤ (a1 : Int) := oda; have q18 : a1 < (a0.size : Int) := oda; have hx18 := bt_at a0 a1; replace p18 := eq_true p18; replace q18 := eq_true q18; have p27 : 0 ≤ (a1 : Int) := oda; have q27 : a1 < (a0.size : Int) := oda; have hx27 := bt_at a0 a1; replace p27 := eq_true p27; replace q27 := eq_true q27; have p31 : 0 ≤ ((ji28) : Int) := oda; have q31 : (ji28) < (a0.size : Int) := oda; have hx31 := bt_at a0 (ji28); replace p31 := eq_true p31; replace q31 := eq_true q31; have p35 : 0 ≤ ((ji32) : Int) := oda; have q35 : (ji32) < (a0.size : Int) := oda; have hx35 := bt_at a0 (ji32); replace p35 := eq_true p35; replace q35 := eq_true q35; have hcz36_0 : wc.cell? ⟨gb71101, 0, none⟩ = some (.int .i64 0) := (blk_cell BK71101.out 0).trans rfl; have hcz36_1 : wc.cell? ⟨gb71101, 1, none⟩ = some (.int .i64 0) := (blk_cell BK71101.out 1).trans rfl; have hcz36_2 : wc.cell? ⟨gb71101, 2, none⟩ = some (.int .i32 0) := (blk_cell BK71101.out 2).trans rfl; have hcz36_3 : wc.cell? ⟨gb71101, 3, none⟩ = some (.bool false) := (blk_cell BK71101.out 3).trans rfl; have hcz36_4 : wc.cell? ⟨gb71101, 4, none⟩ = some (.int .u8 0) := (blk_cell BK71101.out 4).trans rfl; have hfz36_0 := blk_frozen BK71101.out 0; have hfz36_1 := blk_frozen BK71101.out 1; have hfz36_2 := blk_frozen BK71101.out 2; have hfz36_3 := blk_frozen BK71101.out 3
      have hfz36_4 := blk_frozen BK71101.out 4; go_wp2
      repeat (go_quiet (fail); try go_wp2)
      refine bodyPost_ret (results_cell_row rfl _ _ gb71101 91 #[.int .i64 a1, .int .i64 t71102, .int .i32 (Go.bits .or .i32 (Go.bits .or .i32 (wrap32 ((wrap32 (Go.bits .and .u8 (bt a0 a1) 15)) * 4096)) (wrap32 ((wrap32 (Go.bits .and .u8 (bt a0 (ji28)) 63)) * 64))) (wrap32 (Go.bits .and .u8 (bt a0 (ji32)) 63))), .bool false, .int .u8 0] (0, 0) _ rfl (by (with_reducible repeat (first | refine blk_drewN ?_ _ | refine blk_drew ?_ | refine blk_alloc ?_ _)); refine blk_put (cs := #[.int .i64 a1, .int .i64 t71102, .int .i32 (Go.bits .or .i32 (Go.bits .or .i32 (wrap32 ((wrap32 (Go.bits .and .u8 (bt a0 a1) 15)) * 4096)) (wrap32 ((wrap32 (Go.bits .and .u8 (bt a0 (ji28)) 63)) * 64))) (wrap32 (Go.bits .and .u8 (bt a0 (ji32)) 63))), .bool false, .int .u8 0]) ?_ 4 _ rfl; (with_reducible repeat (first | refine blk_drewN ?_ _ | refine blk_drew ?_ | refine blk_alloc ?_ _)); refine blk_put (cs := #[.int .i64 a1, .int .i64 t71102, .int .i32 (Go.bits .or .i32 (Go.bits .or .i32 (wrap32 ((wrap32 (Go.bits .and .u8 (bt a0 a1) 15)) * 4096)) (wrap32 ((wrap32 (Go.bits .and .u8 (bt a0 (ji28)) 63)) * 64))) (wrap32 (Go.bits .and .u8 (bt a0 (ji32)) 63))), .bool false, .int .u8 0]) ?_ 3 _ rfl; (with_reducible repeat (first | refine blk_drewN ?_ _ | refine blk_drew ?_ | refine blk_alloc ?_ _)); refine blk_put (cs := #[.int .i64 a1, .int .i64 t71102, .int .i32 0, .bool false, .int .u8 0]) ?_ 2 _ rfl; (with_reducible repeat (first | refine blk_drewN ?_ _ | refine blk_drew ?_ | refine blk_alloc ?_ _)); refine blk_put (cs := #[.int .i64 a1, .int .i64 0, .int .i32 0, .bool false, .int .u8 0]) ?_ 1 _ rfl; (with_reducible repeat (first | refine blk_drewN ?_ _ | refine blk_drew ?_ | refine blk_alloc ?_ _)); refine blk_put (cs := #[.int .i64 0, .int .i64 0, .int .i32 0, .bool false, .int .u8 0]) ?_ 0 _ rfl; (with_reducible repeat (first | refine blk_drewN ?_ _ | refine blk_drew ?_ | refine blk_alloc ?_ _)); exact BK71101.out) Tryd.underlying91 rfl (by kernel_rfl)) rfl ?_
      exact ⟨by first | rfl | (simp [errW_none, errW_some] <;> rfl) | (simp only [← hji28, ← hji32]; first | rfl | (simp [errW_none, errW_some] <;> rfl)) | (simp [*, errW_none, errW_some] <;> rfl), by exact bel⟩
     ·
      rw [if_neg c26] at H; have c26b0 : (t71102 == 3) = false := beq_eq_false_iff_ne.mpr c26; have c26b1 : (t71102 != 3) = true := bne_iff_ne.mpr c26
      by_cases c37 : t71102 = 4
      ·
       rw [if_pos c37] at H; have c37b0 : (t71102 == 4) = true := beq_iff_eq.mpr c37; have c37b1 : (t71102 != 4) = false := bne_eq_false_iff_eq.mpr c37; clear c37
       obtain ⟨ji39, hji39⟩ : ∃ j_ : Int, (wrap64 (a1 + 1)) = j_ := ⟨_, rfl⟩
       replace H : (if 0 ≤ (ji39) then (if (ji39) < (a0.size : Int) then (if 0 ≤ (wrap64 (a1 + 2)) then (if (wrap64 (a1 + 2)) < (a0.size : Int) then (if 0 ≤ (wrap64 (a1 + 3)) then (if (wrap64 (a1 + 3)) < (a0.size : Int) then (some (a1, t71102, Go.bits .or .i32 (Go.bits .or .i32 (Go.bits .or .i32 (wrap32 ((wrap32 (Go.bits .and .u8 (bt a0 a1) 7)) * 262144)) (wrap32 ((wrap32 (Go.bits .and .u8 (bt a0 (ji39)) 63)) * 4096))) (wrap32 ((wrap32 (Go.bits .and .u8 (bt a0 (wrap64 (a1 + 2))) 63)) * 64))) (wrap32 (Go.bits .and .u8 (bt a0 (wrap64 (a1 + 3))) 63)), false, 0)) else (none)) else (none)) else (none)) else (none)) else (none)) else (none)) = some (r1, r2, r3, r4, r5) := by first | (rw [hji39] at H; exact H) | (simp only [hji39] at H ⊢; exact H)
       have hji39w : (IntKind.i64.wrap (a1 + 1)) = ji39 := (i64_w _).trans hji39
       by_cases c40 : 0 ≤ (ji39)
       rotate_left
       · rw [if_neg c40] at H; exact absurd H (by simp)
       rw [if_pos c40] at H; have c40b0 : decide (0 ≤ (ji39)) = true := decide_eq_true c40; clear c40
       by_cases c41 : (ji39) < (a0.size : Int)
       rotate_left
       · rw [if_neg c41] at H; exact absurd H (by simp)
       rw [if_pos c41] at H; have c41b0 : decide ((ji39) < (a0.size : Int)) = true := decide_eq_true c41; clear c41
       obtain ⟨ji43, hji43⟩ : ∃ j_ : Int, (wrap64 (a1 + 2)) = j_ := ⟨_, rfl⟩
       replace H : (if 0 ≤ (ji43) then (if (ji43) < (a0.size : Int) then (if 0 ≤ (wrap64 (a1 + 3)) then (if (wrap64 (a1 + 3)) < (a0.size : Int) then (some (a1, t71102, Go.bits .or .i32 (Go.bits .or .i32 (Go.bits .or .i32 (wrap32 ((wrap32 (Go.bits .and .u8 (bt a0 a1) 7)) * 262144)) (wrap32 ((wrap32 (Go.bits .and .u8 (bt a0 (ji39)) 63)) * 4096))) (wrap32 ((wrap32 (Go.bits .and .u8 (bt a0 (ji43)) 63)) * 64))) (wrap32 (Go.bits .and .u8 (bt a0 (wrap64 (a1 + 3))) 63)), false, 0)) else (none)) else (none)) else (none)) else (none)) = some (r1, r2, r3, r4, r5) := by first | (rw [hji43] at H; exact H) | (simp only [hji43] at H ⊢; exact H)
       have hji43w : (IntKind.i64.wrap (a1 + 2)) = ji43 := (i64_w _).trans hji43
       by_cases c44 : 0 ≤ (ji43)
       rotate_left
       · rw [if_neg c44] at H; exact absurd H (by simp)
       rw [if_pos c44] at H; have c44b0 : decide (0 ≤ (ji43)) = true := decide_eq_true c44; clear c44
       by_cases c45 : (ji43) < (a0.size : Int)
       rotate_left
       · rw [if_neg c45] at H; exact absurd H (by simp)
       rw [if_pos c45] at H; have c45b0 : decide ((ji43) < (a0.size : Int)) = true := decide_eq_true c45; clear c45
       obtain ⟨ji47, hji47⟩ : ∃ j_ : Int, (wrap64 (a1 + 3)) = j_ := ⟨_, rfl⟩
       replace H : (if 0 ≤ (ji47) then (if (ji47) < (a0.size : Int) then (some (a1, t71102, Go.bits .or .i32 (Go.bits .or .i32 (Go.bits .or .i32 (wrap32 ((wrap32 (Go.bits .and .u8 (bt a0 a1) 7)) * 262144)) (wrap32 ((wrap32 (Go.bits .and .u8 (bt a0 (ji39)) 63)) * 4096))) (wrap32 ((wrap32 (Go.bits .and .u8 (bt a0 (ji43)) 63)) * 64))) (wrap32 (Go.bits .and .u8 (bt a0 (ji47)) 63)), false, 0)) else (none)) else (none)) = some (r1, r2, r3, r4, r5) := by first | (rw [hji47] at H; exact H) | (simp only [hji47] at H ⊢; exact H)
       have hji47w : (IntKind.i64.wrap (a1 + 3)) = ji47 := (i64_w _).trans hji47
       by_cases c48 : 0 ≤ (ji47)
       rotate_left
       · rw [if_neg c48] at H; exact absurd H (by simp)
       rw [if_pos c48] at H; have c48b0 : decide (0 ≤ (ji47)) = true := decide_eq_true c48; clear c48
       by_cases c49 : (ji47) < (a0.size : Int)
       rotate_left
       · rw [if_neg c49] at H; exact absurd H (by simp)
       rw [if_pos c49] at H; have c49b0 : decide ((ji47) < (a0.size : Int)) = true := decide_eq_true c49; clear c49; simp only [Option.some.injEq, Prod.mk.injEq] at H; obtain ⟨rfl, rfl, rfl, rfl, rfl⟩ := H; have p18 : 0 ≤ (a1 : Int) := oda; have q18 : a1 < (a0.size : Int) := oda; have hx18 := bt_at a0 a1; replace p18 := eq_true p18; replace q18 := eq_true q18; have p38 : 0 ≤ (a1 : Int) := oda; have q38 : a1 < (a0.size : Int) := oda; have hx38 := bt_at a0 a1; replace p38 := eq_true p38; replace q38 := eq_true q38; have p42 : 0 ≤ ((ji39) : Int) := oda; have q42 : (ji39) < (a0.size : Int) := oda; have hx42 := bt_at a0 (ji39); replace p42 := eq_true p42; replace q42 := eq_true q42; have p46 : 0 ≤ ((ji43) : Int) := oda; have q46 : (ji43) < (a0.size : Int) := oda; have hx46 := bt_at a0 (ji43); replace p46 := eq_true p46; replace q46 := eq_true q46; have p50 : 0 ≤ ((ji47) : Int) := oda; have q50 : (ji47) < (a0.size : Int) := oda; have hx50 := bt_at a0 (ji47); replace p50 := eq_true p50; replace q50 := eq_true q50; have hcz51_0 : wc.cell? ⟨gb71101, 0, none⟩ = some (.int .i64 0) := (blk_cell BK71101.out 0).trans rfl; have hcz51_1 : wc.cell? ⟨gb71101, 1, none⟩ = some (.int .i64 0) := (blk_cell BK71101.out 1).trans rfl; have hcz51_2 : wc.cell? ⟨gb71101, 2, none⟩ = some (.int .i32 0) := (blk_cell BK71101.out 2).trans rfl; have hcz51_3 : wc.cell? ⟨gb71101, 3, none⟩ = some (.bool false) := (blk_cell BK71101.out 3).trans rfl; have hcz51_4 : wc.cell? ⟨gb71101, 4, none⟩ = some (.int .u8 0) := (blk_cell BK71101.out 4).trans rfl
       have hfz51_0 := blk_frozen BK71101.out 0; have hfz51_1 := blk_frozen BK71101.out 1; have hfz51_2 := blk_frozen BK71101.out 2; have hfz51_3 := blk_frozen BK71101.out 3; have hfz51_4 := blk_frozen BK71101.out 4; go_wp2
       repeat (go_quiet (fail); try go_wp2)
       refine bodyPost_ret (results_cell_row rfl _ _ gb71101 91 #[.int .i64 a1, .int .i64 t71102, .int .i32 (Go.bits .or .i32 (Go.bits .or .i32 (Go.bits .or .i32 (wrap32 ((wrap32 (Go.bits .and .u8 (bt a0 a1) 7)) * 262144)) (wrap32 ((wrap32 (Go.bits .and .u8 (bt a0 (ji39)) 63)) * 4096))) (wrap32 ((wrap32 (Go.bits .and .u8 (bt a0 (ji43)) 63)) * 64))) (wrap32 (Go.bits .and .u8 (bt a0 (ji47)) 63))), .bool false, .int .u8 0] (0, 0) _ rfl (by (with_reducible repeat (first | refine blk_drewN ?_ _ | refine blk_drew ?_ | refine blk_alloc ?_ _)); refine blk_put (cs := #[.int .i64 a1, .int .i64 t71102, .int .i32 (Go.bits .or .i32 (Go.bits .or .i32 (Go.bits .or .i32 (wrap32 ((wrap32 (Go.bits .and .u8 (bt a0 a1) 7)) * 262144)) (wrap32 ((wrap32 (Go.bits .and .u8 (bt a0 (ji39)) 63)) * 4096))) (wrap32 ((wrap32 (Go.bits .and .u8 (bt a0 (ji43)) 63)) * 64))) (wrap32 (Go.bits .and .u8 (bt a0 (ji47)) 63))), .bool false, .int .u8 0]) ?_ 4 _ rfl; (with_reducible repeat (first | refine blk_drewN ?_ _ | refine blk_drew ?_ | refine blk_alloc ?_ _)); refine blk_put (cs := #[.int .i64 a1, .int .i64 t71102, .int .i32 (Go.bits .or .i32 (Go.bits .or .i32 (Go.bits .or .i32 (wrap32 ((wrap32 (Go.bits .and .u8 (bt a0 a1) 7)) * 262144)) (wrap32 ((wrap32 (Go.bits .and .u8 (bt a0 (ji39)) 63)) * 4096))) (wrap32 ((wrap32 (Go.bits .and .u8 (bt a0 (ji43)) 63)) * 64))) (wrap32 (Go.bits .and .u8 (bt a0 (ji47)) 63))), .bool false, .int .u8 0]) ?_ 3 _ rfl; (with_reducible repeat (first | refine blk_drewN ?_ _ | refine blk_drew ?_ | refine blk_alloc ?_ _)); refine blk_put (cs := #[.int .i64 a1, .int .i64 t71102, .int .i32 0, .bool false, .int .u8 0]) ?_ 2 _ rfl; (with_reducible repeat (first | refine blk_drewN ?_ _ | refine blk_drew ?_ | refine blk_alloc ?_ _)); refine blk_put (cs := #[.int .i64 a1, .int .i64 0, .int .i32 0, .bool false, .int .u8 0]) ?_ 1 _ rfl; (with_reducible repeat (first | refine blk_drewN ?_ _ | refine blk_drew ?_ | refine blk_alloc ?_ _)); refine blk_put (cs := #[.int .i64 0, .int .i64 0, .int .i32 0, .bool false, .int .u8 0]) ?_ 0 _ rfl; (with_reducible repeat (first | refine blk_drewN ?_ _ | refine blk_drew ?_ | refine blk_alloc ?_ _)); exact BK71101.out) Tryd.underlying91 rfl (by kernel_rfl)) rfl ?_
       exact ⟨by first | rfl | (simp [errW_none, errW_some] <;> rfl) | (simp only [← hji39, ← hji43, ← hji47]; first | rfl | (simp [errW_none, errW_some] <;> rfl)) | (simp [*, errW_none, errW_some] <;> rfl), by exact bel⟩
      ·
       rw [if_neg c37] at H; have c37b0 : (t71102 == 4) = false := beq_eq_false_iff_ne.mpr c37; have c37b1 : (t71102 != 4) = true := bne_iff_ne.mpr c37; simp only [Option.some.injEq, Prod.mk.injEq] at H; obtain ⟨rfl, rfl, rfl, rfl, rfl⟩ := H; have p18 : 0 ≤ (a1 : Int) := oda; have q18 : a1 < (a0.size : Int) := oda; have hx18 := bt_at a0 a1; replace p18 := eq_true p18; replace q18 := eq_true q18; have hcz52_0 : wc.cell? ⟨gb71101, 0, none⟩ = some (.int .i64 0) := (blk_cell BK71101.out 0).trans rfl; have hcz52_1 : wc.cell? ⟨gb71101, 1, none⟩ = some (.int .i64 0) := (blk_cell BK71101.out 1).trans rfl; have hcz52_2 : wc.cell? ⟨gb71101, 2, none⟩ = some (.int .i32 0) := (blk_cell BK71101.out 2).trans rfl; have hcz52_3 : wc.cell? ⟨gb71101, 3, none⟩ = some (.bool false) := (blk_cell BK71101.out 3).trans rfl; have hcz52_4 : wc.cell? ⟨gb71101, 4, none⟩ = some (.int .u8 0) := (blk_cell BK71101.out 4).trans rfl; have hfz52_0 := blk_frozen BK71101.out 0; have hfz52_1 := blk_frozen BK71101.out 1; have hfz52_2 := blk_frozen BK71101.out 2; have hfz52_3 := blk_frozen BK71101.out 3; have hfz52_4 := blk_frozen BK71101.out 4; go_wp2
       repeat (go_quiet (fail); try go_wp2)
       refine bodyPost_ret (results_cell_row rfl _ _ gb71101 91 #[.int .i64 a1, .int .i64 t71102, .int .i32 (wrap32 (bt a0 a1)), .bool false, .int .u8 0] (0, 0) _ rfl (by (with_reducible repeat (first | refine blk_drewN ?_ _ | refine blk_drew ?_ | refine blk_alloc ?_ _)); refine blk_put (cs := #[.int .i64 a1, .int .i64 t71102, .int .i32 (wrap32 (bt a0 a1)), .bool false, .int .u8 0]) ?_ 4 _ rfl; (with_reducible repeat (first | refine blk_drewN ?_ _ | refine blk_drew ?_ | refine blk_alloc ?_ _)); refine blk_put (cs := #[.int .i64 a1, .int .i64 t71102, .int .i32 (wrap32 (bt a0 a1)), .bool false, .int .u8 0]) ?_ 3 _ rfl; (with_reducible repeat (first | refine blk_drewN ?_ _ | refine blk_drew ?_ | refine blk_alloc ?_ _)); refine blk_put (cs := #[.int .i64 a1, .int .i64 t71102, .int .i32 0, .bool false, .int .u8 0]) ?_ 2 _ rfl; (with_reducible repeat (first | refine blk_drewN ?_ _ | refine blk_drew ?_ | refine blk_alloc ?_ _)); refine blk_put (cs := #[.int .i64 a1, .int .i64 0, .int .i32 0, .bool false, .int .u8 0]) ?_ 1 _ rfl; (with_reducible repeat (first | refine blk_drewN ?_ _ | refine blk_drew ?_ | refine blk_alloc ?_ _)); refine blk_put (cs := #[.int .i64 0, .int .i64 0, .int .i32 0, .bool false, .int .u8 0]) ?_ 0 _ rfl; (with_reducible repeat (first | refine blk_drewN ?_ _ | refine blk_drew ?_ | refine blk_alloc ?_ _)); exact BK71101.out) Tryd.underlying91 rfl (by kernel_rfl)) rfl ?_; exact ⟨by first | rfl | (simp [errW_none, errW_some] <;> rfl) | (simp [*, errW_none, errW_some] <;> rfl), by exact bel⟩
end Go.Proofs.YtcpbalnbgmjhjaaDoor.G
namespace Go.Proofs.YtcpbalnbgmjhjaaDoor.G
open Go.RowKit Go.Proofs.YtcpbalnbgmjhjaaDoor.Mi Go.Proofs.YtcpbalnbgmjhjaaDoorW.PrintWords Go.Proofs.YtcpbalnbgmjhjaaDoorW.PrintLast Go.Proofs.YtcpbalnbgmjhjaaDoorW.PrintMore
attribute [local go_sem] min2_int min_two min_three   -- for this text's walks alone
set_option linter.unusedVariables false
set_option linter.unusedSimpArgs false
/-! ### siglumref01_Cells: function 53 -/
def siglumref01_Cells.l0 : Nat → ByteArray → List (S91) → Int → Option ((List (S91)))
 | 0, _, _, _ => none
 | k + 1, x0, x3, x4 => if x4 < (x0.size : Int) then ((siglumref01_cell.f k x0 x4).bind fun bt53101 => (if x3.length < 5864062014805 then (siglumref01_Cells.l0 k x0 (x3 ++ [(⟨bt53101.1, bt53101.2.1, bt53101.2.2.1, bt53101.2.2.2.1, bt53101.2.2.2.2⟩ : S91)]) (wrap64 (x4 + bt53101.2.1))) else (none))) else (some x3)
def siglumref01_Cells.f (k : Nat) (a0 : ByteArray) : Option ((List (S91))) := siglumref01_Cells.l0 k a0 ([] : List (S91)) 0
set_option maxHeartbeats 8000000 in
set_option maxRecDepth 100000 in
theorem siglumref01_Cells.calls (k : Nat) (a0 : ByteArray) (r : List (S91)) (w : World) (h : siglumref01_Cells.f k a0 = some r) :
 Calls Tryd.prog 53 #[.string a0] w fun e w' => ∃ v0_ : Value, e = .returned (v0_) ∧ Kd.R k91 91 w' w.heap.size (fun _ => True) v0_ r ∧ Below w.heap.size w w' := by
 have hu91 := Tryd.underlying91; have HB := Aside0.mk (Below.refl w.heap.size w); have H : (siglumref01_Cells.l0 k a0 ([] : List (S91)) 0) = some r := h; clear h; have H' := Aside0.mk H; clear H
 go_enter Tryd.func53, Tryd.ntmps53
 go_wp2
 go_loopg [3, 4] k (fun kq v3 v4 w' => ∃ (x3_1 : List (S91)) (x4_1 : Int), v4 = .int .i64 x4_1 ∧ Aside0 (siglumref01_Cells.l0 kq a0 x3_1 x4_1 = some r) ∧ Aside0 (kq ≤ k) ∧ Aside0 (Kd.R k91 91 w' w.heap.size (fun _ => True) v3 x3_1) ∧ Aside0 (Below w.heap.size w w'))
 case atStart => exact ⟨(([] : List (S91))), (0), (by first | rfl | (simp; done) | (simp [*]; done)), H', ⟨Nat.le_refl _⟩, ⟨by first | exact Kd.R_nil _ _ _ _ _ | exact Kd.N_nil _ _ _ _ _ | exact Kd.V_nil _ _ _ _ _ | exact Kd.Q_nil _ _ _ _ _ | exact Kd.S_nil _ _ _ _ _⟩, ⟨bel⟩⟩
 case round =>
  clear H'; obtain ⟨x3_1, x4_1, rfl, HA, HK1, HO_3, HB⟩ := hrel
  cases gk with
  | zero => exact absurd HA.out (by simp [siglumref01_Cells.l0])
  | succ k1 =>
   have H := HA.out; clear HA; simp only [siglumref01_Cells.l0] at H
   by_cases c2 : x4_1 < (a0.size : Int)
   ·
    rw [if_pos c2] at H; have c2b0 : decide (x4_1 < (a0.size : Int)) = true := decide_eq_true c2; clear c2; replace H := Option.bind_eq_some_iff.mp H; obtain ⟨⟨t53101, t53102, t53103, t53104, t53105⟩, A30, H⟩ := H; (try dsimp only at H); have A3 := Aside0.mk A30; clear A30
    by_cases c4 : x3_1.length < 5864062014805
    rotate_left
    · rw [if_neg c4] at H; exact absurd H (by simp)
    rw [if_pos c4] at H; have LMc4 := Aside0.mk c4; clear c4
    obtain ⟨y53107, hy53107⟩ : ∃ y_ : List (S91), y_ = (x3_1 ++ [(⟨t53101, t53102, t53103, t53104, t53105⟩ : S91)]) := ⟨_, rfl⟩
    (try rw [← hy53107] at H); (try rw [Option.bind_some] at H); (try dsimp only at H); have Ny53107 := Aside0.mk hy53107; clear hy53107; have H' := Aside0.mk H; clear H
    go_wp2_with (first | ((with_reducible refine gate_callee (f := 71) rfl ?_); refine goesL_ (some 12) rfl rfl Tryd.func71 (by kernel_rfl) rfl #[.string a0, .int .i64 x4_1] rfl (by (try simp only [List.map_toArray, List.map_cons, List.map_nil]); first | done | rfl | (simp only [List.length_drop, List.length_take]; rfl)) ?_; (with_reducible refine (siglumref01_cell.calls k1 a0 x4_1 t53101 t53102 t53103 t53104 t53105 _ A3.out).mono ?_); rintro e w5 ⟨rfl, hb⟩; refine ⟨_, rfl, ?_⟩; replace HO_3 := Aside0.mk (Kd.R_below (rl HO_3) hb); replace HB := Aside0.mk (below_step bel hb); (try clear hb); (try clear hb2); (try clear hk); (try clear hi)) | ((with_reducible refine gate_dst (N := 5) rfl ?_); refine box_event ?hg (N := 5) ?hd (cs := #[.int .i64 0, .int .i64 0, .int .i32 0, .bool false, .int .u8 0]) (t := 91) ?hr ?_; (case hd => rfl); (case hg => rfl); (case hr => first | (go_simp; done) | (go_simp; rfl)); intro gb53106 hg w6 hbox hb; have n0_ := Aside0.mk (Kd.R_below (Kd.R_elderB (rl HO_3) gb53106 (Nat.le_of_eq hg.symm)) hb); have n1_ := Aside0.mk (below_step bel hb); have n2_ := Aside0.mk (hbox); have n3_ := Aside0.mk ((by rw [hg]; exact (below_size bel) : w.heap.size ≤ gb53106)); have n4_ := Aside0.mk ((by rw [hg]; exact (below_size bel) : w.heap.size ≤ gb53106)); clear HO_3; clear HB; have HO_3 := n0_; have HB := n1_; have BK53106 := n2_; have GW53106 := n3_; have GE53106 := n4_; clear n0_ n1_ n2_ n3_ n4_; clear hb hbox hg; have hcz7_0 : w6.cell? ⟨gb53106, 0, none⟩ = some (.int .i64 0) := (blk_cell BK53106.out 0).trans rfl; have hcz7_1 : w6.cell? ⟨gb53106, 1, none⟩ = some (.int .i64 0) := (blk_cell BK53106.out 1).trans rfl; have hcz7_2 : w6.cell? ⟨gb53106, 2, none⟩ = some (.int .i32 0) := (blk_cell BK53106.out 2).trans rfl; have hcz7_3 : w6.cell? ⟨gb53106, 3, none⟩ = some (.bool false) := (blk_cell BK53106.out 3).trans rfl; have hcz7_4 : w6.cell? ⟨gb53106, 4, none⟩ = some (.int .u8 0) := (blk_cell BK53106.out 4).trans rfl; have hfz7_0 := blk_frozen BK53106.out 0; have hfz7_1 := blk_frozen BK53106.out 1; have hfz7_2 := blk_frozen BK53106.out 2; have hfz7_3 := blk_frozen BK53106.out 3; have hfz7_4 := blk_frozen BK53106.out 4) | ((with_reducible refine gate_builtin (b := .append) (xs := #[.tmp 13, .tmp 15]) rfl ?_); at_builtin; refine Kd.R_append k91 (w0 := w) w.heap.size rfl (.tmp 13) (.tmp 15) 88 91 (.agg #[(.int .i64 0), (.int .i64 0), (.int .i32 0), (.bool false), (.int .u8 0)]) 24 rfl Tryd.underlying88 info91 rfl (by decide) (by omega) u3 x3_1 (⟨t53101, t53102, t53103, t53104, t53105⟩ : S91) [.int .i64 t53101, .int .i64 t53102, .int .i32 t53103, .bool t53104, .int .u8 t53105] (fun k_ => k_ ≠ gb53106) (fun _ => False) rfl (by first | (go_simp; done) | (go_simp; rfl)) ?aP (fun _ hk => hk.elim) ?aF ?aO ?aB ?aS ?aL ?_; (case aP => exact k91_mkM _ _ _ (⟨t53101, t53102, t53103, t53104, t53105⟩ : S91)); (case aB => exact bel); (case aF => exact (fun k_ hk => Kd.freshB (g := gb53106) (o := .cells #[.int .i64 t53101, .int .i64 t53102, .int .i32 t53103, .bool t53104, .int .u8 t53105] 91 (0, 0)) (by (with_reducible repeat (first | refine blk_drewN ?_ _ | refine blk_drew ?_ | refine blk_alloc ?_ _)); refine blk_put (cs := #[.int .i64 t53101, .int .i64 t53102, .int .i32 t53103, .bool t53104, .int .u8 0]) ?_ 4 _ rfl; (with_reducible repeat (first | refine blk_drewN ?_ _ | refine blk_drew ?_ | refine blk_alloc ?_ _)); refine blk_put (cs := #[.int .i64 t53101, .int .i64 t53102, .int .i32 t53103, .bool false, .int .u8 0]) ?_ 3 _ rfl; (with_reducible repeat (first | refine blk_drewN ?_ _ | refine blk_drew ?_ | refine blk_alloc ?_ _)); refine blk_put (cs := #[.int .i64 t53101, .int .i64 t53102, .int .i32 0, .bool false, .int .u8 0]) ?_ 2 _ rfl; (with_reducible repeat (first | refine blk_drewN ?_ _ | refine blk_drew ?_ | refine blk_alloc ?_ _)); refine blk_put (cs := #[.int .i64 t53101, .int .i64 0, .int .i32 0, .bool false, .int .u8 0]) ?_ 1 _ rfl; (with_reducible repeat (first | refine blk_drewN ?_ _ | refine blk_drew ?_ | refine blk_alloc ?_ _)); refine blk_put (cs := #[.int .i64 0, .int .i64 0, .int .i32 0, .bool false, .int .u8 0]) ?_ 0 _ rfl; (with_reducible repeat (first | refine blk_drewN ?_ _ | refine blk_drew ?_ | refine blk_alloc ?_ _)); exact BK53106.out) k_ hk)); (case aO => exact (by (with_reducible repeat (first | apply Kd.R_alloc | apply Kd.R_drewN | apply Kd.R_drew)); exact Kd.R_mono (Kd.R_far (p := ⟨gb53106, 4, none⟩) (Kd.R_far (p := ⟨gb53106, 3, none⟩) (Kd.R_far (p := ⟨gb53106, 2, none⟩) (Kd.R_far (p := ⟨gb53106, 1, none⟩) (Kd.R_far (p := ⟨gb53106, 0, none⟩) (Kd.R_mono HO_3.out (fun k_ hk => (⟨hk, hk.2⟩ : _ ∧ k_ ≠ gb53106))) (fun _ hk => hk.2) (.int .i64 t53101)) (fun _ hk => hk.2) (.int .i64 t53102)) (fun _ hk => hk.2) (.int .i32 t53103)) (fun _ hk => hk.2) (.bool t53104)) (fun _ hk => hk.2) (.int .u8 t53105)) (fun _ hk => hk.1.2))); (case aS => exact (below_size bel)); (case aL => have := LMc4.out; omega); intro v53108 w8 ho hb hg hat; rw [← Ny53107.out] at ho; replace BK53106 := Aside0.mk (blk_grown (g := gb53106) (o := .cells #[.int .i64 t53101, .int .i64 t53102, .int .i32 t53103, .bool t53104, .int .u8 t53105] 91 (0, 0)) (by (with_reducible repeat (first | refine blk_drewN ?_ _ | refine blk_drew ?_ | refine blk_alloc ?_ _)); refine blk_put (cs := #[.int .i64 t53101, .int .i64 t53102, .int .i32 t53103, .bool t53104, .int .u8 0]) ?_ 4 _ rfl; (with_reducible repeat (first | refine blk_drewN ?_ _ | refine blk_drew ?_ | refine blk_alloc ?_ _)); refine blk_put (cs := #[.int .i64 t53101, .int .i64 t53102, .int .i32 t53103, .bool false, .int .u8 0]) ?_ 3 _ rfl; (with_reducible repeat (first | refine blk_drewN ?_ _ | refine blk_drew ?_ | refine blk_alloc ?_ _)); refine blk_put (cs := #[.int .i64 t53101, .int .i64 t53102, .int .i32 0, .bool false, .int .u8 0]) ?_ 2 _ rfl; (with_reducible repeat (first | refine blk_drewN ?_ _ | refine blk_drew ?_ | refine blk_alloc ?_ _)); refine blk_put (cs := #[.int .i64 t53101, .int .i64 0, .int .i32 0, .bool false, .int .u8 0]) ?_ 1 _ rfl; (with_reducible repeat (first | refine blk_drewN ?_ _ | refine blk_drew ?_ | refine blk_alloc ?_ _)); refine blk_put (cs := #[.int .i64 0, .int .i64 0, .int .i32 0, .bool false, .int .u8 0]) ?_ 0 _ rfl; (with_reducible repeat (first | refine blk_drewN ?_ _ | refine blk_drew ?_ | refine blk_alloc ?_ _)); exact BK53106.out) hg (Kd.R_away HO_3.out (fun _ hk => hk.2))); replace HB := Aside0.mk (hb); have HO53109 := Aside0.mk (ho); clear HO_3; clear ho hb hg hat; have hcz9_0 : w8.cell? ⟨gb53106, 0, none⟩ = some (.int .i64 t53101) := (blk_cell BK53106.out 0).trans rfl; have hcz9_1 : w8.cell? ⟨gb53106, 1, none⟩ = some (.int .i64 t53102) := (blk_cell BK53106.out 1).trans rfl; have hcz9_2 : w8.cell? ⟨gb53106, 2, none⟩ = some (.int .i32 t53103) := (blk_cell BK53106.out 2).trans rfl; have hcz9_3 : w8.cell? ⟨gb53106, 3, none⟩ = some (.bool t53104) := (blk_cell BK53106.out 3).trans rfl; have hcz9_4 : w8.cell? ⟨gb53106, 4, none⟩ = some (.int .u8 t53105) := (blk_cell BK53106.out 4).trans rfl; have hfz9_0 := blk_frozen BK53106.out 0; have hfz9_1 := blk_frozen BK53106.out 1; have hfz9_2 := blk_frozen BK53106.out 2; have hfz9_3 := blk_frozen BK53106.out 3; have hfz9_4 := blk_frozen BK53106.out 4))
    go_roundg k1
    case measure => have := HK1.out; omega
    case rel => exact ⟨(y53107), (wrap64 (x4_1 + t53102)), (by first | rfl | (simp; done) | (simp [*]; done)), H', ⟨by have := HK1.out; omega⟩, ⟨by (with_reducible repeat (first | apply Kd.R_alloc | apply Kd.R_drewN | apply Kd.R_drew)); exact Kd.R_mono HO53109.out (fun _ hk => trivial)⟩, ⟨bel⟩⟩
   ·
    rw [if_neg c2] at H; have c2b0 : decide (x4_1 < (a0.size : Int)) = false := decide_eq_false c2; clear c2; obtain rfl := Option.some.inj H; go_wp2; go_ret; exact ⟨_, by first | rfl | (simp [errW_none, errW_some] <;> rfl) | (simp [*, errW_none, errW_some] <;> rfl), by (with_reducible repeat (first | apply Kd.R_alloc | apply Kd.R_drewN | apply Kd.R_drew)); exact HO_3.out, by exact bel⟩
end Go.Proofs.YtcpbalnbgmjhjaaDoor.G
namespace Go.Proofs.YtcpbalnbgmjhjaaDoor.G
open Go.RowKit Go.Proofs.YtcpbalnbgmjhjaaDoor.Mi Go.Proofs.YtcpbalnbgmjhjaaDoorW.PrintWords Go.Proofs.YtcpbalnbgmjhjaaDoorW.PrintLast Go.Proofs.YtcpbalnbgmjhjaaDoorW.PrintMore
attribute [local go_sem] min2_int min_two min_three   -- for this text's walks alone
set_option linter.unusedVariables false
set_option linter.unusedSimpArgs false
/-! ### siglumref02_holds: function 93 -/
def siglumref02_holds.l0 : Nat → List Int → Int → Int → Option (Bool)
 | 0, _, _, _ => none
 | k + 1, x0, x1, x5 => if (wrap64 (x5 + 1)) < (x0.length : Int) then (if 0 ≤ x5 then (if x5 < (x0.length : Int) then (if x1 ≥ (rd x0 x5) then (if 0 ≤ (wrap64 (x5 + 1)) then (if x1 ≤ (rd x0 (wrap64 (x5 + 1))) then (some true) else (siglumref02_holds.l0 k x0 x1 (wrap64 (x5 + 2)))) else (none)) else (siglumref02_holds.l0 k x0 x1 (wrap64 (x5 + 2)))) else (none)) else (none)) else (some false)
def siglumref02_holds.f (k : Nat) (l0 : List Int) (a1 : Int) : Option (Bool) := siglumref02_holds.l0 k l0 a1 0
set_option maxHeartbeats 8000000 in
set_option maxRecDepth 100000 in
theorem siglumref02_holds.calls (k : Nat) (A0 : Option Addr) (c0 : Nat) (l0 : List Int) (a1 : Int) (r : Bool) (w : World) (hr0 : Kd.C (Kd.int .i32) w A0 l0.length l0) (hc0 : l0.length ≤ c0) (h : siglumref02_holds.f k l0 a1 = some r) :
 Calls Tryd.prog 93 #[.slice A0 l0.length c0, .int .i32 a1] w fun e w' => e = .returned (.bool r) ∧ Drawn0 w w' := by
 have HR0 := Aside0.mk hr0; have HC0 := Aside0.mk hc0; clear hr0 hc0; have H : (siglumref02_holds.l0 k l0 a1 0) = some r := h; clear h; have H' := Aside0.mk H; clear H
 go_enter Tryd.func93, Tryd.ntmps93
 go_wp2
 go_loopg [5] k (fun kq v5 w' => ∃ (x5_1 : Int), v5 = .int .i64 x5_1 ∧ Aside0 (siglumref02_holds.l0 kq l0 a1 x5_1 = some r) ∧ Aside0 (kq ≤ k) ∧ Drawn0 w w')
 case atStart => exact ⟨(0), (by first | rfl | (simp; done) | (simp [*]; done)), H', ⟨Nat.le_refl _⟩, by repeat (first | exact Drawn0.refl _ | apply Drawn0.step)⟩
 case round =>
  clear H'; (try clear p2); obtain ⟨x5_1, rfl, HA, HK1, ⟨m1, rfl⟩⟩ := hrel
  cases gk with
  | zero => exact absurd HA.out (by simp [siglumref02_holds.l0])
  | succ k1 =>
   have H := HA.out; clear HA; simp only [siglumref02_holds.l0] at H
   by_cases c3 : (wrap64 (x5_1 + 1)) < (l0.length : Int)
   ·
    rw [if_pos c3] at H; have c3b0 : decide ((wrap64 (x5_1 + 1)) < (l0.length : Int)) = true := decide_eq_true c3; clear c3
    by_cases c4 : 0 ≤ x5_1
    rotate_left
    · rw [if_neg c4] at H; exact absurd H (by simp)
    rw [if_pos c4] at H; have c4b0 : decide (0 ≤ x5_1) = true := decide_eq_true c4; clear c4
    by_cases c5 : x5_1 < (l0.length : Int)
    rotate_left
    · rw [if_neg c5] at H; exact absurd H (by simp)
    rw [if_pos c5] at H; have c5b0 : decide (x5_1 < (l0.length : Int)) = true := decide_eq_true c5; clear c5
    by_cases c6 : a1 ≥ (rd l0 x5_1)
    ·
     rw [if_pos c6] at H; have c6b0 : decide ((rd l0 x5_1) ≤ a1) = true := decide_eq_true c6; clear c6
     obtain ⟨ji7, hji7⟩ : ∃ j_ : Int, (wrap64 (x5_1 + 1)) = j_ := ⟨_, rfl⟩
     replace H : (if 0 ≤ (ji7) then (if a1 ≤ (rd l0 (ji7)) then (some true) else (siglumref02_holds.l0 k1 l0 a1 (wrap64 (x5_1 + 2)))) else (none)) = some r := by first | (rw [hji7] at H; exact H) | (simp only [hji7] at H ⊢; exact H)
     (try rw [hji7] at c3b0); have hji7w : (IntKind.i64.wrap (x5_1 + 1)) = ji7 := (i64_w _).trans hji7
     by_cases c8 : 0 ≤ (ji7)
     rotate_left
     · rw [if_neg c8] at H; exact absurd H (by simp)
     rw [if_pos c8] at H; have c8b0 : decide (0 ≤ (ji7)) = true := decide_eq_true c8; clear c8
     by_cases c9 : a1 ≤ (rd l0 (ji7))
     ·
      rw [if_pos c9] at H; have c9b0 : decide (a1 ≤ (rd l0 (ji7))) = true := decide_eq_true c9; clear c9; obtain rfl := Option.some.inj H; have p93101 : 0 ≤ (x5_1 : Int) := oda; have q93101 : x5_1 < (l0.length : Int) := oda; obtain ⟨ad93101, e93101, hx93101_0⟩ := Kd.at_int HR0.out x5_1 p93101 q93101; cases e93101; replace p93101 := eq_true p93101; replace q93101 := eq_true q93101; have p93102 : 0 ≤ ((ji7) : Int) := oda; have q93102 : (ji7) < (l0.length : Int) := oda; obtain ⟨ad93102, e93102, hx93102_0⟩ := Kd.at_int HR0.out (ji7) p93102 q93102; obtain rfl : ad93101 = ad93102 := (by injection e93102); replace p93102 := eq_true p93102; replace q93102 := eq_true q93102; go_wp2; go_ret; exact ⟨by first | rfl | (simp; done) | (simp only [← hji7] <;> (first | rfl | simp)) | (simp [*]; done), by repeat (first | exact Drawn0.refl _ | apply Drawn0.step)⟩
     ·
      rw [if_neg c9] at H; have c9b0 : decide (a1 ≤ (rd l0 (ji7))) = false := decide_eq_false c9; clear c9; have H' := Aside0.mk H; clear H; have p93101 : 0 ≤ (x5_1 : Int) := oda; have q93101 : x5_1 < (l0.length : Int) := oda; obtain ⟨ad93101, e93101, hx93101_0⟩ := Kd.at_int HR0.out x5_1 p93101 q93101; cases e93101; replace p93101 := eq_true p93101; replace q93101 := eq_true q93101; have p93102 : 0 ≤ ((ji7) : Int) := oda; have q93102 : (ji7) < (l0.length : Int) := oda; obtain ⟨ad93102, e93102, hx93102_0⟩ := Kd.at_int HR0.out (ji7) p93102 q93102; obtain rfl : ad93101 = ad93102 := (by injection e93102); replace p93102 := eq_true p93102; replace q93102 := eq_true q93102; go_wp2
      go_roundg k1
      case measure => have := HK1.out; omega
      case rel => exact ⟨(wrap64 (x5_1 + 2)), (by first | rfl | (simp; done) | (simp [*]; done)), H', ⟨by have := HK1.out; omega⟩, by repeat (first | exact Drawn0.refl _ | apply Drawn0.step)⟩
    ·
     rw [if_neg c6] at H; have c6b0 : decide ((rd l0 x5_1) ≤ a1) = false := decide_eq_false c6; clear c6; have H' := Aside0.mk H; clear H; have p93101 : 0 ≤ (x5_1 : Int) := oda; have q93101 : x5_1 < (l0.length : Int) := oda; obtain ⟨ad93101, e93101, hx93101_0⟩ := Kd.at_int HR0.out x5_1 p93101 q93101; cases e93101; replace p93101 := eq_true p93101; replace q93101 := eq_true q93101; go_wp2
     go_roundg k1
     case measure => have := HK1.out; omega
     case rel => exact ⟨(wrap64 (x5_1 + 2)), (by first | rfl | (simp; done) | (simp [*]; done)), H', ⟨by have := HK1.out; omega⟩, by repeat (first | exact Drawn0.refl _ | apply Drawn0.step)⟩
   ·
    rw [if_neg c3] at H; have c3b0 : decide ((wrap64 (x5_1 + 1)) < (l0.length : Int)) = false := decide_eq_false c3; clear c3; obtain rfl := Option.some.inj H; go_wp2; go_ret; exact ⟨by first | rfl | (simp; done) | (simp [*]; done), by repeat (first | exact Drawn0.refl _ | apply Drawn0.step)⟩
end Go.Proofs.YtcpbalnbgmjhjaaDoor.G
namespace Go.Proofs.YtcpbalnbgmjhjaaDoor.G
open Go.RowKit Go.Proofs.YtcpbalnbgmjhjaaDoor.Mi Go.Proofs.YtcpbalnbgmjhjaaDoorW.PrintWords Go.Proofs.YtcpbalnbgmjhjaaDoorW.PrintLast Go.Proofs.YtcpbalnbgmjhjaaDoorW.PrintMore
attribute [local go_sem] min2_int min_two min_three   -- for this text's walks alone
set_option linter.unusedVariables false
set_option linter.unusedSimpArgs false
/-! ### siglumref02_Of: function 86: by hand -/
def siglumref02_Of.f (k : Nat) (a0 : Int) : Option (Int) := ((siglumref02_holds.f k ([39, 39, 45, 45, 173, 173, 8204, 8205, 8217, 8217] : List Int) a0).bind fun t => (if t = true then (some 4) else ((siglumref02_holds.f k ([48, 57, 1632, 1641] : List Int) a0).bind fun t => (if t = true then (some 3) else ((siglumref02_holds.f k ([65, 90, 97, 122, 170, 170, 181, 181, 186, 186, 192, 214, 216, 246, 248, 687, 880, 893, 895, 902, 904, 1153, 1162, 1327, 7680, 8191, 64256, 64262, 9676, 9676] : List Int) a0).bind fun t => (if t = true then (some 1) else ((siglumref02_holds.f k ([768, 879, 1155, 1161, 7616, 7679, 8400, 8447] : List Int) a0).bind fun t => (if t = true then (some 2) else ((siglumref02_holds.f k ([10, 10, 13, 13, 133, 133, 8232, 8233] : List Int) a0).bind fun t => (if t = true then (some 6) else ((siglumref02_holds.f k ([9, 9, 11, 12, 32, 32, 160, 160, 8194, 8202, 8239, 8239, 12288, 12288] : List Int) a0).bind fun t => (if t = true then (some 5) else ((siglumref02_holds.f k ([33, 126, 161, 191, 903, 903, 8208, 8231, 8240, 8286] : List Int) a0).bind fun t => (if t = true then (some 7) else (some 0)))))))))))))))
theorem reps_i32 (W : World) (base : Nat) (ok : Nat → Prop) : ∀ xs : List Int, Reps (Kd.M (Kd.int .i32) W base ok) 1 xs (xs.map fun x => Value.int .i32 x)
 | [] => Reps.none _ _
 | x :: xs => Reps.one (show Kd.M (Kd.int .i32) _ _ _ x [.int .i32 x] from rfl) (reps_i32 W base ok xs)
set_option maxHeartbeats 8000000 in
set_option maxRecDepth 100000 in
theorem siglumref02_Of.calls (k : Nat) (a0 : Int) (r : Int) (w : World) (h : siglumref02_Of.f k a0 = some r) :
 Calls Tryd.prog 86 #[.int .i32 a0] w fun e w' => e = .returned (.int .i64 r) ∧ Below w.heap.size w w' := by
 unfold siglumref02_Of.f at h; have HH := Aside0.mk h; clear h; have HB := Aside0.mk (Below.refl w.heap.size w)
 go_enter Tryd.func86, Tryd.ntmps86
 go_wp2_with (first | ((with_reducible refine gate_dst (N := 3) rfl ?_); refine Kd.R_lit (Kd.int .i32) _ 21 ?hg (N := 3) ?hd (xs := ([39, 39, 45, 45, 173, 173, 8204, 8205, 8217, 8217] : List Int)) (inner := [.int .i32 39, .int .i32 39, .int .i32 45, .int .i32 45, .int .i32 173, .int .i32 173, .int .i32 8204, .int .i32 8205, .int .i32 8217, .int .i32 8217]) (ok := fun _ => True) (okp := fun _ => True) ?hr ?hp (fun _ hk => hk) trivial (Below.refl _ _) (Nat.le_refl _) (by simp) ?_; (case hd => rfl); (case hg => rfl); (case hr => first | (go_simp; done) | (go_simp; rfl)); (case hp => exact reps_i32 _ _ _ [39, 39, 45, 45, 173, 173, 8204, 8205, 8217, 8217]); intro v w4 ho hb hg_ hnew_; clear hg_ hnew_; obtain ⟨y, hy, hY⟩ : ∃ y : List Int, [39, 39, 45, 45, 173, 173, 8204, 8205, 8217, 8217] = y ∧ (siglumref02_holds.f k y a0).bind _ = some r := ⟨_, rfl, HH.out⟩; rw [hy] at ho; clear HH hy; obtain ⟨A, c, rfl, hc, hC⟩ := Kd.R_reads ho; have HC := Aside0.mk hC; have Hc := Aside0.mk hc; have HH := Aside0.mk hY; have HBn := Aside0.mk (below_step HB.out hb); clear HB; have HB := HBn; clear HBn ho hb hC hc hY) | (go_at_call 93; refine Aside0.out ?_))
 refine ⟨?_⟩; obtain ⟨t, ht, h2⟩ := Option.bind_eq_some_iff.mp HH.out
 (with_reducible refine (siglumref02_holds.calls k A c y a0 t _ HC.out Hc.out ht).mono ?_)
 rintro e w' ⟨rfl, hd⟩; have HBn := Aside0.mk (below_step HB.out hd.below); clear HB; have HB := HBn; clear HBn HH HC Hc hd ht; cases t
 rotate_left
 ·
  rw [if_pos rfl] at h2; obtain rfl := Option.some.inj h2; clear h2; go_wp2; go_ret; exact ⟨rfl, HB.out⟩
 rw [if_neg (by decide)] at h2; have HH := Aside0.mk h2; clear h2
 go_wp2_with (first | ((with_reducible refine gate_dst (N := 6) rfl ?_); refine Kd.R_lit (Kd.int .i32) _ 21 ?hg (N := 6) ?hd (xs := ([48, 57, 1632, 1641] : List Int)) (inner := [.int .i32 48, .int .i32 57, .int .i32 1632, .int .i32 1641]) (ok := fun _ => True) (okp := fun _ => True) ?hr ?hp (fun _ hk => hk) trivial (Below.refl _ _) (Nat.le_refl _) (by simp) ?_; (case hd => rfl); (case hg => rfl); (case hr => first | (go_simp; done) | (go_simp; rfl)); (case hp => exact reps_i32 _ _ _ [48, 57, 1632, 1641]); intro v w4 ho hb hg_ hnew_; clear hg_ hnew_; obtain ⟨y, hy, hY⟩ : ∃ y : List Int, [48, 57, 1632, 1641] = y ∧ (siglumref02_holds.f k y a0).bind _ = some r := ⟨_, rfl, HH.out⟩; rw [hy] at ho; clear HH hy; obtain ⟨A, c, rfl, hc, hC⟩ := Kd.R_reads ho; have HC := Aside0.mk hC; have Hc := Aside0.mk hc; have HH := Aside0.mk hY; have HBn := Aside0.mk (below_step HB.out hb); clear HB; have HB := HBn; clear HBn ho hb hC hc hY) | (go_at_call 93; refine Aside0.out ?_))
 refine ⟨?_⟩; obtain ⟨t, ht, h2⟩ := Option.bind_eq_some_iff.mp HH.out
 (with_reducible refine (siglumref02_holds.calls k A c y a0 t _ HC.out Hc.out ht).mono ?_)
 rintro e w' ⟨rfl, hd⟩; have HBn := Aside0.mk (below_step HB.out hd.below); clear HB; have HB := HBn; clear HBn HH HC Hc hd ht; cases t
 rotate_left
 ·
  rw [if_pos rfl] at h2; obtain rfl := Option.some.inj h2; clear h2; go_wp2; go_ret; exact ⟨rfl, HB.out⟩
 rw [if_neg (by decide)] at h2; have HH := Aside0.mk h2; clear h2
 go_wp2_with (first | ((with_reducible refine gate_dst (N := 9) rfl ?_); refine Kd.R_lit (Kd.int .i32) _ 21 ?hg (N := 9) ?hd (xs := ([65, 90, 97, 122, 170, 170, 181, 181, 186, 186, 192, 214, 216, 246, 248, 687, 880, 893, 895, 902, 904, 1153, 1162, 1327, 7680, 8191, 64256, 64262, 9676, 9676] : List Int)) (inner := [.int .i32 65, .int .i32 90, .int .i32 97, .int .i32 122, .int .i32 170, .int .i32 170, .int .i32 181, .int .i32 181, .int .i32 186, .int .i32 186, .int .i32 192, .int .i32 214, .int .i32 216, .int .i32 246, .int .i32 248, .int .i32 687, .int .i32 880, .int .i32 893, .int .i32 895, .int .i32 902, .int .i32 904, .int .i32 1153, .int .i32 1162, .int .i32 1327, .int .i32 7680, .int .i32 8191, .int .i32 64256, .int .i32 64262, .int .i32 9676, .int .i32 9676]) (ok := fun _ => True) (okp := fun _ => True) ?hr ?hp (fun _ hk => hk) trivial (Below.refl _ _) (Nat.le_refl _) (by simp) ?_; (case hd => rfl); (case hg => rfl); (case hr => first | (go_simp; done) | (go_simp; rfl)); (case hp => exact reps_i32 _ _ _ [65, 90, 97, 122, 170, 170, 181, 181, 186, 186, 192, 214, 216, 246, 248, 687, 880, 893, 895, 902, 904, 1153, 1162, 1327, 7680, 8191, 64256, 64262, 9676, 9676]); intro v w4 ho hb hg_ hnew_; clear hg_ hnew_; obtain ⟨y, hy, hY⟩ : ∃ y : List Int, [65, 90, 97, 122, 170, 170, 181, 181, 186, 186, 192, 214, 216, 246, 248, 687, 880, 893, 895, 902, 904, 1153, 1162, 1327, 7680, 8191, 64256, 64262, 9676, 9676] = y ∧ (siglumref02_holds.f k y a0).bind _ = some r := ⟨_, rfl, HH.out⟩; rw [hy] at ho; clear HH hy; obtain ⟨A, c, rfl, hc, hC⟩ := Kd.R_reads ho; have HC := Aside0.mk hC; have Hc := Aside0.mk hc; have HH := Aside0.mk hY; have HBn := Aside0.mk (below_step HB.out hb); clear HB; have HB := HBn; clear HBn ho hb hC hc hY) | (go_at_call 93; refine Aside0.out ?_))
 refine ⟨?_⟩; obtain ⟨t, ht, h2⟩ := Option.bind_eq_some_iff.mp HH.out
 (with_reducible refine (siglumref02_holds.calls k A c y a0 t _ HC.out Hc.out ht).mono ?_)
 rintro e w' ⟨rfl, hd⟩; have HBn := Aside0.mk (below_step HB.out hd.below); clear HB; have HB := HBn; clear HBn HH HC Hc hd ht; cases t
 rotate_left
 ·
  rw [if_pos rfl] at h2; obtain rfl := Option.some.inj h2; clear h2; go_wp2; go_ret; exact ⟨rfl, HB.out⟩
 rw [if_neg (by decide)] at h2; have HH := Aside0.mk h2; clear h2
 go_wp2_with (first | ((with_reducible refine gate_dst (N := 12) rfl ?_); refine Kd.R_lit (Kd.int .i32) _ 21 ?hg (N := 12) ?hd (xs := ([768, 879, 1155, 1161, 7616, 7679, 8400, 8447] : List Int)) (inner := [.int .i32 768, .int .i32 879, .int .i32 1155, .int .i32 1161, .int .i32 7616, .int .i32 7679, .int .i32 8400, .int .i32 8447]) (ok := fun _ => True) (okp := fun _ => True) ?hr ?hp (fun _ hk => hk) trivial (Below.refl _ _) (Nat.le_refl _) (by simp) ?_; (case hd => rfl); (case hg => rfl); (case hr => first | (go_simp; done) | (go_simp; rfl)); (case hp => exact reps_i32 _ _ _ [768, 879, 1155, 1161, 7616, 7679, 8400, 8447]); intro v w4 ho hb hg_ hnew_; clear hg_ hnew_; obtain ⟨y, hy, hY⟩ : ∃ y : List Int, [768, 879, 1155, 1161, 7616, 7679, 8400, 8447] = y ∧ (siglumref02_holds.f k y a0).bind _ = some r := ⟨_, rfl, HH.out⟩; rw [hy] at ho; clear HH hy; obtain ⟨A, c, rfl, hc, hC⟩ := Kd.R_reads ho; have HC := Aside0.mk hC; have Hc := Aside0.mk hc; have HH := Aside0.mk hY; have HBn := Aside0.mk (below_step HB.out hb); clear HB; have HB := HBn; clear HBn ho hb hC hc hY) | (go_at_call 93; refine Aside0.out ?_))
 refine ⟨?_⟩; obtain ⟨t, ht, h2⟩ := Option.bind_eq_some_iff.mp HH.out
 (with_reducible refine (siglumref02_holds.calls k A c y a0 t _ HC.out Hc.out ht).mono ?_)
 rintro e w' ⟨rfl, hd⟩; have HBn := Aside0.mk (below_step HB.out hd.below); clear HB; have HB := HBn; clear HBn HH HC Hc hd ht; cases t
 rotate_left
 ·
  rw [if_pos rfl] at h2; obtain rfl := Option.some.inj h2; clear h2; go_wp2; go_ret; exact ⟨rfl, HB.out⟩
 rw [if_neg (by decide)] at h2; have HH := Aside0.mk h2; clear h2
 go_wp2_with (first | ((with_reducible refine gate_dst (N := 15) rfl ?_); refine Kd.R_lit (Kd.int .i32) _ 21 ?hg (N := 15) ?hd (xs := ([10, 10, 13, 13, 133, 133, 8232, 8233] : List Int)) (inner := [.int .i32 10, .int .i32 10, .int .i32 13, .int .i32 13, .int .i32 133, .int .i32 133, .int .i32 8232, .int .i32 8233]) (ok := fun _ => True) (okp := fun _ => True) ?hr ?hp (fun _ hk => hk) trivial (Below.refl _ _) (Nat.le_refl _) (by simp) ?_; (case hd => rfl); (case hg => rfl); (case hr => first | (go_simp; done) | (go_simp; rfl)); (case hp => exact reps_i32 _ _ _ [10, 10, 13, 13, 133, 133, 8232, 8233]); intro v w4 ho hb hg_ hnew_; clear hg_ hnew_; obtain ⟨y, hy, hY⟩ : ∃ y : List Int, [10, 10, 13, 13, 133, 133, 8232, 8233] = y ∧ (siglumref02_holds.f k y a0).bind _ = some r := ⟨_, rfl, HH.out⟩; rw [hy] at ho; clear HH hy; obtain ⟨A, c, rfl, hc, hC⟩ := Kd.R_reads ho; have HC := Aside0.mk hC; have Hc := Aside0.mk hc; have HH := Aside0.mk hY; have HBn := Aside0.mk (below_step HB.out hb); clear HB; have HB := HBn; clear HBn ho hb hC hc hY) | (go_at_call 93; refine Aside0.out ?_))
 refine ⟨?_⟩; obtain ⟨t, ht, h2⟩ := Option.bind_eq_some_iff.mp HH.out
 (with_reducible refine (siglumref02_holds.calls k A c y a0 t _ HC.out Hc.out ht).mono ?_)
 rintro e w' ⟨rfl, hd⟩; have HBn := Aside0.mk (below_step HB.out hd.below); clear HB; have HB := HBn; clear HBn HH HC Hc hd ht; cases t
 rotate_left
 ·
  rw [if_pos rfl] at h2; obtain rfl := Option.some.inj h2; clear h2; go_wp2; go_ret; exact ⟨rfl, HB.out⟩
 rw [if_neg (by decide)] at h2; have HH := Aside0.mk h2; clear h2
 go_wp2_with (first | ((with_reducible refine gate_dst (N := 18) rfl ?_); refine Kd.R_lit (Kd.int .i32) _ 21 ?hg (N := 18) ?hd (xs := ([9, 9, 11, 12, 32, 32, 160, 160, 8194, 8202, 8239, 8239, 12288, 12288] : List Int)) (inner := [.int .i32 9, .int .i32 9, .int .i32 11, .int .i32 12, .int .i32 32, .int .i32 32, .int .i32 160, .int .i32 160, .int .i32 8194, .int .i32 8202, .int .i32 8239, .int .i32 8239, .int .i32 12288, .int .i32 12288]) (ok := fun _ => True) (okp := fun _ => True) ?hr ?hp (fun _ hk => hk) trivial (Below.refl _ _) (Nat.le_refl _) (by simp) ?_; (case hd => rfl); (case hg => rfl); (case hr => first | (go_simp; done) | (go_simp; rfl)); (case hp => exact reps_i32 _ _ _ [9, 9, 11, 12, 32, 32, 160, 160, 8194, 8202, 8239, 8239, 12288, 12288]); intro v w4 ho hb hg_ hnew_; clear hg_ hnew_; obtain ⟨y, hy, hY⟩ : ∃ y : List Int, [9, 9, 11, 12, 32, 32, 160, 160, 8194, 8202, 8239, 8239, 12288, 12288] = y ∧ (siglumref02_holds.f k y a0).bind _ = some r := ⟨_, rfl, HH.out⟩; rw [hy] at ho; clear HH hy; obtain ⟨A, c, rfl, hc, hC⟩ := Kd.R_reads ho; have HC := Aside0.mk hC; have Hc := Aside0.mk hc; have HH := Aside0.mk hY; have HBn := Aside0.mk (below_step HB.out hb); clear HB; have HB := HBn; clear HBn ho hb hC hc hY) | (go_at_call 93; refine Aside0.out ?_))
 refine ⟨?_⟩; obtain ⟨t, ht, h2⟩ := Option.bind_eq_some_iff.mp HH.out
 (with_reducible refine (siglumref02_holds.calls k A c y a0 t _ HC.out Hc.out ht).mono ?_)
 rintro e w' ⟨rfl, hd⟩; have HBn := Aside0.mk (below_step HB.out hd.below); clear HB; have HB := HBn; clear HBn HH HC Hc hd ht; cases t
 rotate_left
 ·
  rw [if_pos rfl] at h2; obtain rfl := Option.some.inj h2; clear h2; go_wp2; go_ret; exact ⟨rfl, HB.out⟩
 rw [if_neg (by decide)] at h2; have HH := Aside0.mk h2; clear h2
 go_wp2_with (first | ((with_reducible refine gate_dst (N := 21) rfl ?_); refine Kd.R_lit (Kd.int .i32) _ 21 ?hg (N := 21) ?hd (xs := ([33, 126, 161, 191, 903, 903, 8208, 8231, 8240, 8286] : List Int)) (inner := [.int .i32 33, .int .i32 126, .int .i32 161, .int .i32 191, .int .i32 903, .int .i32 903, .int .i32 8208, .int .i32 8231, .int .i32 8240, .int .i32 8286]) (ok := fun _ => True) (okp := fun _ => True) ?hr ?hp (fun _ hk => hk) trivial (Below.refl _ _) (Nat.le_refl _) (by simp) ?_; (case hd => rfl); (case hg => rfl); (case hr => first | (go_simp; done) | (go_simp; rfl)); (case hp => exact reps_i32 _ _ _ [33, 126, 161, 191, 903, 903, 8208, 8231, 8240, 8286]); intro v w4 ho hb hg_ hnew_; clear hg_ hnew_; obtain ⟨y, hy, hY⟩ : ∃ y : List Int, [33, 126, 161, 191, 903, 903, 8208, 8231, 8240, 8286] = y ∧ (siglumref02_holds.f k y a0).bind _ = some r := ⟨_, rfl, HH.out⟩; rw [hy] at ho; clear HH hy; obtain ⟨A, c, rfl, hc, hC⟩ := Kd.R_reads ho; have HC := Aside0.mk hC; have Hc := Aside0.mk hc; have HH := Aside0.mk hY; have HBn := Aside0.mk (below_step HB.out hb); clear HB; have HB := HBn; clear HBn ho hb hC hc hY) | (go_at_call 93; refine Aside0.out ?_))
 refine ⟨?_⟩; obtain ⟨t, ht, h2⟩ := Option.bind_eq_some_iff.mp HH.out
 (with_reducible refine (siglumref02_holds.calls k A c y a0 t _ HC.out Hc.out ht).mono ?_)
 rintro e w' ⟨rfl, hd⟩; have HBn := Aside0.mk (below_step HB.out hd.below); clear HB; have HB := HBn; clear HBn HH HC Hc hd ht; cases t
 rotate_left
 ·
  rw [if_pos rfl] at h2; obtain rfl := Option.some.inj h2; clear h2; go_wp2; go_ret; exact ⟨rfl, HB.out⟩
 rw [if_neg (by decide)] at h2; have HH := Aside0.mk h2; clear h2; go_wp2; go_ret; exact ⟨by rw [← Option.some.inj HH.out]; rfl, HB.out⟩
end Go.Proofs.YtcpbalnbgmjhjaaDoor.G
namespace Go.Proofs.YtcpbalnbgmjhjaaDoor.G
open Go.RowKit Go.Proofs.YtcpbalnbgmjhjaaDoor.Mi Go.Proofs.YtcpbalnbgmjhjaaDoorW.PrintWords Go.Proofs.YtcpbalnbgmjhjaaDoorW.PrintLast Go.Proofs.YtcpbalnbgmjhjaaDoorW.PrintMore
attribute [local go_sem] min2_int min_two min_three   -- for this text's walks alone
set_option linter.unusedVariables false
set_option linter.unusedSimpArgs false
/-! ### siglumref03_drop: function 72 -/
def siglumref03_drop.l0 : Nat → List Int → Int → List Int → Int → Option (List Int)
 | 0, _, _, _, _ => none
 | k + 1, x0, x1, x5, x6 => if x6 < (x0.length : Int) then (if 0 ≤ x6 then ((siglumref02_Of.f k (rd x0 x6)).bind fun t72102 => (if t72102 = x1 then (siglumref03_drop.l0 k x0 x1 x5 (wrap64 (x6 + 1))) else (if x5.length < 35184372088832 then (siglumref03_drop.l0 k x0 x1 (x5 ++ [rd x0 x6]) (wrap64 (x6 + 1))) else (none)))) else (none)) else (some x5)
def siglumref03_drop.f (k : Nat) (l0 : List Int) (a1 : Int) : Option (List Int) := siglumref03_drop.l0 k l0 a1 ([] : List Int) 0
set_option maxHeartbeats 8000000 in
set_option maxRecDepth 100000 in
theorem siglumref03_drop.calls (k : Nat) (A0 : Option Addr) (c0 : Nat) (l0 : List Int) (a1 : Int) (r : List Int) (w : World) (hr0 : Kd.C (Kd.int .i32) w A0 l0.length l0) (hc0 : l0.length ≤ c0) (h : siglumref03_drop.f k l0 a1 = some r) :
 Calls Tryd.prog 72 #[.slice A0 l0.length c0, .int .i64 a1] w fun e w' => ∃ v0_ : Value, e = .returned (v0_) ∧ Kd.R (Kd.int .i32) 21 w' w.heap.size (fun _ => True) v0_ r ∧ Below w.heap.size w w' := by
 have HR0 := Aside0.mk hr0; have HC0 := Aside0.mk hc0; clear hr0 hc0; have HB := Aside0.mk (Below.refl w.heap.size w); have H : (siglumref03_drop.l0 k l0 a1 ([] : List Int) 0) = some r := h; clear h; have H' := Aside0.mk H; clear H
 go_enter Tryd.func72, Tryd.ntmps72
 go_wp2
 go_loopg [5, 6] k (fun kq v5 v6 w' => ∃ (x5_1 : List Int) (x6_1 : Int), v6 = .int .i64 x6_1 ∧ Aside0 (siglumref03_drop.l0 kq l0 a1 x5_1 x6_1 = some r) ∧ Aside0 (kq ≤ k) ∧ Aside0 (Kd.R (Kd.int .i32) 21 w' w.heap.size (fun _ => True) v5 x5_1) ∧ Aside0 (Below w.heap.size w w'))
 case atStart => exact ⟨(([] : List Int)), (0), (by first | rfl | (simp; done) | (simp [*]; done)), H', ⟨Nat.le_refl _⟩, ⟨by first | exact Kd.R_nil _ _ _ _ _ | exact Kd.N_nil _ _ _ _ _ | exact Kd.V_nil _ _ _ _ _ | exact Kd.Q_nil _ _ _ _ _ | exact Kd.S_nil _ _ _ _ _⟩, ⟨bel⟩⟩
 case round =>
  clear H'; (try clear p2); obtain ⟨x5_1, x6_1, rfl, HA, HK1, HO_5, HB⟩ := hrel
  cases gk with
  | zero => exact absurd HA.out (by simp [siglumref03_drop.l0])
  | succ k1 =>
   have H := HA.out; clear HA; simp only [siglumref03_drop.l0] at H
   by_cases c3 : x6_1 < (l0.length : Int)
   ·
    rw [if_pos c3] at H; have c3b0 : decide (x6_1 < (l0.length : Int)) = true := decide_eq_true c3; clear c3
    by_cases c4 : 0 ≤ x6_1
    rotate_left
    · rw [if_neg c4] at H; exact absurd H (by simp)
    rw [if_pos c4] at H; have c4b0 : decide (0 ≤ x6_1) = true := decide_eq_true c4; clear c4; replace H := Option.bind_eq_some_iff.mp H; obtain ⟨t72102, A50, H⟩ := H; (try dsimp only at H); have A5 := Aside0.mk A50; clear A50
    by_cases c6 : t72102 = a1
    ·
     rw [if_pos c6] at H; have c6b0 : (t72102 == a1) = true := beq_iff_eq.mpr c6; have c6b1 : (t72102 != a1) = false := bne_eq_false_iff_eq.mpr c6; clear c6; have H' := Aside0.mk H; clear H; have p72101 : 0 ≤ (x6_1 : Int) := oda; have q72101 : x6_1 < (l0.length : Int) := oda; obtain ⟨ad72101, e72101, hx72101_0⟩ := Kd.at_int HR0.out x6_1 p72101 q72101; cases e72101; replace hx72101_0 := (HB.out.cell (World.block_lt_of_cell? w _ hx72101_0)).trans hx72101_0; replace p72101 := eq_true p72101; replace q72101 := eq_true q72101
     go_wp2_with (first | ((with_reducible refine gate_callee (f := 86) rfl ?_); refine goesL_ (some 17) rfl rfl Tryd.func86 (by kernel_rfl) rfl #[.int .i32 (rd l0 x6_1)] rfl (by (try simp only [List.map_toArray, List.map_cons, List.map_nil]); first | done | rfl | (simp only [List.length_drop, List.length_take]; rfl)) ?_; (with_reducible refine (siglumref02_Of.calls k1 (rd l0 x6_1) t72102 _ A5.out).mono ?_); rintro e w7 ⟨rfl, hb⟩; refine ⟨_, rfl, ?_⟩; replace HO_5 := Aside0.mk (Kd.R_below (rl HO_5) hb); replace HB := Aside0.mk (below_step bel hb); (try clear hb); (try clear hb2); (try clear hk); (try clear hi)))
     go_roundg k1
     case measure => have := HK1.out; omega
     case rel => exact ⟨(x5_1), (wrap64 (x6_1 + 1)), (by first | rfl | (simp; done) | (simp [*]; done)), H', ⟨by have := HK1.out; omega⟩, ⟨rl HO_5⟩, ⟨bel⟩⟩
    ·
     rw [if_neg c6] at H; have c6b0 : (t72102 == a1) = false := beq_eq_false_iff_ne.mpr c6; have c6b1 : (t72102 != a1) = true := bne_iff_ne.mpr c6
     by_cases c8 : x5_1.length < 35184372088832
     rotate_left
     · rw [if_neg c8] at H; exact absurd H (by simp)
     rw [if_pos c8] at H; have LMc8 := Aside0.mk c8; clear c8
     obtain ⟨y72104, hy72104⟩ : ∃ y_ : List Int, y_ = (x5_1 ++ [rd l0 x6_1]) := ⟨_, rfl⟩
     (try rw [← hy72104] at H); (try rw [Option.bind_some] at H); (try dsimp only at H); have Ny72104 := Aside0.mk hy72104; clear hy72104; have H' := Aside0.mk H; clear H; have p72101 : 0 ≤ (x6_1 : Int) := oda; have q72101 : x6_1 < (l0.length : Int) := oda; obtain ⟨ad72101, e72101, hx72101_0⟩ := Kd.at_int HR0.out x6_1 p72101 q72101; cases e72101; replace hx72101_0 := (HB.out.cell (World.block_lt_of_cell? w _ hx72101_0)).trans hx72101_0; replace p72101 := eq_true p72101; replace q72101 := eq_true q72101
     go_wp2_with (first | ((with_reducible refine gate_callee (f := 86) rfl ?_); refine goesL_ (some 17) rfl rfl Tryd.func86 (by kernel_rfl) rfl #[.int .i32 (rd l0 x6_1)] rfl (by (try simp only [List.map_toArray, List.map_cons, List.map_nil]); first | done | rfl | (simp only [List.length_drop, List.length_take]; rfl)) ?_; (with_reducible refine (siglumref02_Of.calls k1 (rd l0 x6_1) t72102 _ A5.out).mono ?_); rintro e w9 ⟨rfl, hb⟩; refine ⟨_, rfl, ?_⟩; replace HO_5 := Aside0.mk (Kd.R_below (rl HO_5) hb); replace HB := Aside0.mk (below_step bel hb); (try clear hb); (try clear hb2); (try clear hk); (try clear hi); have p72103 : 0 ≤ (x6_1 : Int) := oda; have q72103 : x6_1 < (l0.length : Int) := oda; obtain ⟨ad72103, e72103, hx72103_0⟩ := Kd.at_int HR0.out x6_1 p72103 q72103; obtain rfl : ad72101 = ad72103 := (by injection e72103); replace hx72103_0 := (HB.out.cell (World.block_lt_of_cell? w _ hx72103_0)).trans hx72103_0; replace p72103 := eq_true p72103; replace q72103 := eq_true q72103) | ((with_reducible refine gate_builtin (b := .append) (xs := #[.tmp 20, .tmp 25]) rfl ?_); at_builtin; refine Kd.R_append (Kd.int .i32) (w0 := w) w.heap.size rfl (.tmp 20) (.tmp 25) 111 21 (.int .i32 0) 4 rfl Tryd.underlying111 info21 rfl (by decide) (by omega) u5 x5_1 (rd l0 x6_1) [.int .i32 (rd l0 x6_1)] (fun _ => True) (fun _ => False) rfl rfl ?aP (fun _ hk => hk.elim) ?aF ?aO ?aB ?aS ?aL ?_; (case aP => exact rfl); (case aB => exact bel); (case aF => exact (fun _ _ => trivial)); (case aO => exact (rl HO_5)); (case aS => exact (below_size bel)); (case aL => have := LMc8.out; omega); intro v72105 w10 ho hb hg hat; rw [← Ny72104.out] at ho; replace HB := Aside0.mk (hb); have HO72106 := Aside0.mk (ho); clear HO_5; clear ho hb hg hat))
     go_roundg k1
     case measure => have := HK1.out; omega
     case rel => exact ⟨(y72104), (wrap64 (x6_1 + 1)), (by first | rfl | (simp; done) | (simp [*]; done)), H', ⟨by have := HK1.out; omega⟩, ⟨rl HO72106⟩, ⟨bel⟩⟩
   ·
    rw [if_neg c3] at H; have c3b0 : decide (x6_1 < (l0.length : Int)) = false := decide_eq_false c3; clear c3; obtain rfl := Option.some.inj H; go_wp2; go_ret; exact ⟨_, by first | rfl | (simp [errW_none, errW_some] <;> rfl) | (simp [*, errW_none, errW_some] <;> rfl), by (with_reducible repeat (first | apply Kd.R_alloc | apply Kd.R_drewN | apply Kd.R_drew)); exact HO_5.out, by exact bel⟩
end Go.Proofs.YtcpbalnbgmjhjaaDoor.G
