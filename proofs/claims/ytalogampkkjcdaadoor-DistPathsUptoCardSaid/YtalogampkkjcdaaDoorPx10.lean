-- Printed by hprint.py (this session's program over the kit's print) out of the translation; the parts 'by hand' are the session's own.
import Derived.Test.YtalogampkkjcdaaDoorPx0
import Derived.Test.YtalogampkkjcdaaDoorPx7
import Derived.Test.YtalogampkkjcdaaDoorPx8
import Derived.Test.YtalogampkkjcdaaDoorPx9
namespace Go.Proofs.YtalogampkkjcdaaDoor.P
open Go.RowKit Go.Proofs.YtalogampkkjcdaaDoorW.PrintWords Go.Proofs.YtalogampkkjcdaaDoorW.PrintLast Go.Proofs.YtalogampkkjcdaaDoorW.PrintMore
attribute [local go_sem] max2_int min2_int max_two min_two max_three min_three max_four min_four   -- for this text's walks alone
set_option linter.unusedVariables false
set_option linter.unusedSimpArgs false

/-! ### siglumref08_Path: function 17 -/
mutual
def siglumref08_Path.l0 : Nat → ByteArray → ByteArray → List (S75) → List (S75) → List (List Int) → List (S30) → Int → Int → Option ((List (S30)) × Int)
 | 0, _, _, _, _, _, _, _, _ => none
 | k + 1, x0, x1, x6, x7, x9, x10, x11, x12 => if x11 < (x6.length : Int) then (siglumref08_Path.j1 k x0 x1 x6 x7 x9 x10 x11 x12 true) else (siglumref08_Path.j1 k x0 x1 x6 x7 x9 x10 x11 x12 (decide (x12 < (x7.length : Int))))
def siglumref08_Path.j1 : Nat → ByteArray → ByteArray → List (S75) → List (S75) → List (List Int) → List (S30) → Int → Int → Bool → Option ((List (S30)) × Int)
 | 0, _, _, _, _, _, _, _, _, _ => none
 | k + 1, x0, x1, x6, x7, x9, x10, x11, x12, x35 => if x35 = true then (if x11 < (x6.length : Int) then (siglumref08_Path.j2 k x0 x1 x6 x7 x9 x10 x11 x12 (decide (x12 < (x7.length : Int)))) else (siglumref08_Path.j2 k x0 x1 x6 x7 x9 x10 x11 x12 false)) else (some (x10, 0))
def siglumref08_Path.j2 : Nat → ByteArray → ByteArray → List (S75) → List (S75) → List (List Int) → List (S30) → Int → Int → Bool → Option ((List (S30)) × Int)
 | 0, _, _, _, _, _, _, _, _, _ => none
 | k + 1, x0, x1, x6, x7, x9, x10, x11, x12, x13 => if x13 = true then (if 0 ≤ x11 then (if x11 < (x6.length : Int) then (if 0 ≤ x12 then (if x12 < (x7.length : Int) then ((siglumref08_Same.f ((rd_T75 x6 x11).f0) ((rd_T75 x6 x11).f1) ((rd_T75 x6 x11).f2) ((rd_T75 x6 x11).f3) ((rd_T75 x6 x11).f4) ((rd_T75 x7 x12).f0) ((rd_T75 x7 x12).f1) ((rd_T75 x7 x12).f2) ((rd_T75 x7 x12).f3) ((rd_T75 x7 x12).f4)).bind fun t231 => (if t231 = true then (if 0 ≤ (wrap64 (x11 + 1)) then (if (wrap64 (x11 + 1)) < (x9.length : Int) then (if 0 ≤ (wrap64 (x12 + 1)) then (if (wrap64 (x12 + 1)) < ((rd_L7 x9 (wrap64 (x11 + 1))).length : Int) then (if x11 < (x9.length : Int) then (if x12 < ((rd_L7 x9 x11).length : Int) then (siglumref08_Path.j3 k x0 x1 x6 x7 x9 x10 x11 x12 x13 ((rd (rd_L7 x9 (wrap64 (x11 + 1))) (wrap64 (x12 + 1))) == (rd (rd_L7 x9 x11) x12))) else (none)) else (none)) else (none)) else (none)) else (none)) else (none)) else (siglumref08_Path.j3 k x0 x1 x6 x7 x9 x10 x11 x12 x13 false))) else (none)) else (none)) else (none)) else (none)) else (siglumref08_Path.j3 k x0 x1 x6 x7 x9 x10 x11 x12 x13 false)
def siglumref08_Path.j3 : Nat → ByteArray → ByteArray → List (S75) → List (S75) → List (List Int) → List (S30) → Int → Int → Bool → Bool → Option ((List (S30)) × Int)
 | 0, _, _, _, _, _, _, _, _, _, _ => none
 | k + 1, x0, x1, x6, x7, x9, x10, x11, x12, x13, x58 => if x58 = true then (if 0 ≤ x11 then (if x11 < (x6.length : Int) then ((siglumref08_bytes.f x0 ((rd_T75 x6 x11).f0) ((rd_T75 x6 x11).f1) ((rd_T75 x6 x11).f2) ((rd_T75 x6 x11).f3) ((rd_T75 x6 x11).f4)).bind fun t237 => (if x10.length < 5864062014805 then (siglumref08_Path.l0 k x0 x1 x6 x7 x9 (x10 ++ [(⟨1, t237⟩ : S30)]) (wrap64 (x11 + 1)) (wrap64 (x12 + 1))) else (none))) else (none)) else (none)) else (if x13 = true then (if 0 ≤ x11 then (if x11 < (x6.length : Int) then (if 0 ≤ x12 then (if x12 < (x7.length : Int) then ((siglumref08_Same.f ((rd_T75 x6 x11).f0) ((rd_T75 x6 x11).f1) ((rd_T75 x6 x11).f2) ((rd_T75 x6 x11).f3) ((rd_T75 x6 x11).f4) ((rd_T75 x7 x12).f0) ((rd_T75 x7 x12).f1) ((rd_T75 x7 x12).f2) ((rd_T75 x7 x12).f3) ((rd_T75 x7 x12).f4)).bind fun t243 => (if t243 = true then (siglumref08_Path.j4 k x0 x1 x6 x7 x9 x10 x11 x12 false) else (if 0 ≤ (wrap64 (x11 + 1)) then (if (wrap64 (x11 + 1)) < (x9.length : Int) then (if 0 ≤ (wrap64 (x12 + 1)) then (if (wrap64 (x12 + 1)) < ((rd_L7 x9 (wrap64 (x11 + 1))).length : Int) then (if x11 < (x9.length : Int) then (if x12 < ((rd_L7 x9 x11).length : Int) then (siglumref08_Path.j4 k x0 x1 x6 x7 x9 x10 x11 x12 ((wrap64 ((rd (rd_L7 x9 (wrap64 (x11 + 1))) (wrap64 (x12 + 1))) + 1)) == (rd (rd_L7 x9 x11) x12))) else (none)) else (none)) else (none)) else (none)) else (none)) else (none)))) else (none)) else (none)) else (none)) else (none)) else (siglumref08_Path.j4 k x0 x1 x6 x7 x9 x10 x11 x12 false))
def siglumref08_Path.j4 : Nat → ByteArray → ByteArray → List (S75) → List (S75) → List (List Int) → List (S30) → Int → Int → Bool → Option ((List (S30)) × Int)
 | 0, _, _, _, _, _, _, _, _, _ => none
 | k + 1, x0, x1, x6, x7, x9, x10, x11, x12, x104 => if x104 = true then (if 0 ≤ x12 then (if x12 < (x7.length : Int) then ((siglumref08_bytes.f x1 ((rd_T75 x7 x12).f0) ((rd_T75 x7 x12).f1) ((rd_T75 x7 x12).f2) ((rd_T75 x7 x12).f3) ((rd_T75 x7 x12).f4)).bind fun t249 => (if x10.length < 5864062014805 then (siglumref08_Path.l0 k x0 x1 x6 x7 x9 (x10 ++ [(⟨2, t249⟩ : S30)]) (wrap64 (x11 + 1)) (wrap64 (x12 + 1))) else (none))) else (none)) else (none)) else (if x11 < (x6.length : Int) then (if 0 ≤ (wrap64 (x11 + 1)) then (if (wrap64 (x11 + 1)) < (x9.length : Int) then (if 0 ≤ x12 then (if x12 < ((rd_L7 x9 (wrap64 (x11 + 1))).length : Int) then (if 0 ≤ x11 then (if x11 < (x9.length : Int) then (if x12 < ((rd_L7 x9 x11).length : Int) then (siglumref08_Path.j5 k x0 x1 x6 x7 x9 x10 x11 x12 ((wrap64 ((rd (rd_L7 x9 (wrap64 (x11 + 1))) x12) + 1)) == (rd (rd_L7 x9 x11) x12))) else (none)) else (none)) else (none)) else (none)) else (none)) else (none)) else (none)) else (siglumref08_Path.j5 k x0 x1 x6 x7 x9 x10 x11 x12 false))
def siglumref08_Path.j5 : Nat → ByteArray → ByteArray → List (S75) → List (S75) → List (List Int) → List (S30) → Int → Int → Bool → Option ((List (S30)) × Int)
 | 0, _, _, _, _, _, _, _, _, _ => none
 | k + 1, x0, x1, x6, x7, x9, x10, x11, x12, x152 => if x152 = true then (if 0 ≤ x11 then (if x11 < (x6.length : Int) then ((siglumref08_bytes.f x0 ((rd_T75 x6 x11).f0) ((rd_T75 x6 x11).f1) ((rd_T75 x6 x11).f2) ((rd_T75 x6 x11).f3) ((rd_T75 x6 x11).f4)).bind fun t258 => (if x10.length < 5864062014805 then (siglumref08_Path.l0 k x0 x1 x6 x7 x9 (x10 ++ [(⟨3, t258⟩ : S30)]) (wrap64 (x11 + 1)) x12) else (none))) else (none)) else (none)) else (if 0 ≤ x12 then (if x12 < (x7.length : Int) then ((siglumref08_bytes.f x1 ((rd_T75 x7 x12).f0) ((rd_T75 x7 x12).f1) ((rd_T75 x7 x12).f2) ((rd_T75 x7 x12).f3) ((rd_T75 x7 x12).f4)).bind fun t263 => (if x10.length < 5864062014805 then (siglumref08_Path.l0 k x0 x1 x6 x7 x9 (x10 ++ [(⟨4, t263⟩ : S30)]) x11 (wrap64 (x12 + 1))) else (none))) else (none)) else (none))
end
def siglumref08_Path.f (k : Nat) (a0 : ByteArray) (a1 : ByteArray) : Option ((List (S30)) × Int) := (siglumref08_cells.f k a0 a1).bind fun bt219 => (if bt219.2.2 = true then ((siglumref08_rests.f k bt219.1 bt219.2.1).bind fun t226 => (siglumref08_Path.l0 k a0 a1 bt219.1 bt219.2.1 t226 ([] : List (S30)) 0 0)) else (some (([] : List (S30)), 1)))
theorem siglumref08_Path.mono_l : ∀ k, (∀ y0 y1 y2 y3 y4 y5 y6 y7, LeO (siglumref08_Path.l0 k y0 y1 y2 y3 y4 y5 y6 y7) (siglumref08_Path.l0 (k + 1) y0 y1 y2 y3 y4 y5 y6 y7)) ∧ (∀ y0 y1 y2 y3 y4 y5 y6 y7 y8, LeO (siglumref08_Path.j1 k y0 y1 y2 y3 y4 y5 y6 y7 y8) (siglumref08_Path.j1 (k + 1) y0 y1 y2 y3 y4 y5 y6 y7 y8)) ∧ (∀ y0 y1 y2 y3 y4 y5 y6 y7 y8, LeO (siglumref08_Path.j2 k y0 y1 y2 y3 y4 y5 y6 y7 y8) (siglumref08_Path.j2 (k + 1) y0 y1 y2 y3 y4 y5 y6 y7 y8)) ∧ (∀ y0 y1 y2 y3 y4 y5 y6 y7 y8 y9, LeO (siglumref08_Path.j3 k y0 y1 y2 y3 y4 y5 y6 y7 y8 y9) (siglumref08_Path.j3 (k + 1) y0 y1 y2 y3 y4 y5 y6 y7 y8 y9)) ∧ (∀ y0 y1 y2 y3 y4 y5 y6 y7 y8, LeO (siglumref08_Path.j4 k y0 y1 y2 y3 y4 y5 y6 y7 y8) (siglumref08_Path.j4 (k + 1) y0 y1 y2 y3 y4 y5 y6 y7 y8)) ∧ (∀ y0 y1 y2 y3 y4 y5 y6 y7 y8, LeO (siglumref08_Path.j5 k y0 y1 y2 y3 y4 y5 y6 y7 y8) (siglumref08_Path.j5 (k + 1) y0 y1 y2 y3 y4 y5 y6 y7 y8))
 | 0 => ⟨fun _ _ _ _ _ _ _ _ r h => by simp [siglumref08_Path.l0] at h, fun _ _ _ _ _ _ _ _ _ r h => by simp [siglumref08_Path.j1] at h, fun _ _ _ _ _ _ _ _ _ r h => by simp [siglumref08_Path.j2] at h, fun _ _ _ _ _ _ _ _ _ _ r h => by simp [siglumref08_Path.j3] at h, fun _ _ _ _ _ _ _ _ _ r h => by simp [siglumref08_Path.j4] at h, fun _ _ _ _ _ _ _ _ _ r h => by simp [siglumref08_Path.j5] at h⟩
 | k + 1 => by
  obtain ⟨ih0, ih1, ih2, ih3, ih4, ih5⟩ := siglumref08_Path.mono_l k
  refine ⟨?_, ?_, ?_, ?_, ?_, ?_⟩
  ·
   intro y0 y1 y2 y3 y4 y5 y6 y7
   unfold siglumref08_Path.l0
   repeat' first
   | (with_reducible exact ih0 _ _ _ _ _ _ _ _)
   | (with_reducible exact ih1 _ _ _ _ _ _ _ _ _)
   | (with_reducible exact ih2 _ _ _ _ _ _ _ _ _)
   | (with_reducible exact ih3 _ _ _ _ _ _ _ _ _ _)
   | (with_reducible exact ih4 _ _ _ _ _ _ _ _ _)
   | (with_reducible exact ih5 _ _ _ _ _ _ _ _ _)
   | (with_reducible exact siglumref08_cells.mono _ _ _)
   | (with_reducible exact siglumref08_rests.mono _ _ _)
   | (with_reducible exact LeO.refl _)
   | (with_reducible exact LeO.none _)
   | (with_reducible refine LeO.ite ?_ ?_)
   | (with_reducible refine LeO.bind ?_ (fun _ => ?_))
   | exact ih0 _ _ _ _ _ _ _ _
   | exact ih1 _ _ _ _ _ _ _ _ _
   | exact ih2 _ _ _ _ _ _ _ _ _
   | exact ih3 _ _ _ _ _ _ _ _ _ _
   | exact ih4 _ _ _ _ _ _ _ _ _
   | exact ih5 _ _ _ _ _ _ _ _ _
   | exact siglumref08_cells.mono _ _ _
   | exact siglumref08_rests.mono _ _ _
   | exact LeO.none _
   | refine LeO.ite ?_ ?_
   | refine LeO.bind ?_ (fun _ => ?_)
  ·
   intro y0 y1 y2 y3 y4 y5 y6 y7 y8
   unfold siglumref08_Path.j1
   repeat' first
   | (with_reducible exact ih0 _ _ _ _ _ _ _ _)
   | (with_reducible exact ih1 _ _ _ _ _ _ _ _ _)
   | (with_reducible exact ih2 _ _ _ _ _ _ _ _ _)
   | (with_reducible exact ih3 _ _ _ _ _ _ _ _ _ _)
   | (with_reducible exact ih4 _ _ _ _ _ _ _ _ _)
   | (with_reducible exact ih5 _ _ _ _ _ _ _ _ _)
   | (with_reducible exact siglumref08_cells.mono _ _ _)
   | (with_reducible exact siglumref08_rests.mono _ _ _)
   | (with_reducible exact LeO.refl _)
   | (with_reducible exact LeO.none _)
   | (with_reducible refine LeO.ite ?_ ?_)
   | (with_reducible refine LeO.bind ?_ (fun _ => ?_))
   | exact ih0 _ _ _ _ _ _ _ _
   | exact ih1 _ _ _ _ _ _ _ _ _
   | exact ih2 _ _ _ _ _ _ _ _ _
   | exact ih3 _ _ _ _ _ _ _ _ _ _
   | exact ih4 _ _ _ _ _ _ _ _ _
   | exact ih5 _ _ _ _ _ _ _ _ _
   | exact siglumref08_cells.mono _ _ _
   | exact siglumref08_rests.mono _ _ _
   | exact LeO.none _
   | refine LeO.ite ?_ ?_
   | refine LeO.bind ?_ (fun _ => ?_)
  ·
   intro y0 y1 y2 y3 y4 y5 y6 y7 y8
   unfold siglumref08_Path.j2
   repeat' first
   | (with_reducible exact ih0 _ _ _ _ _ _ _ _)
   | (with_reducible exact ih1 _ _ _ _ _ _ _ _ _)
   | (with_reducible exact ih2 _ _ _ _ _ _ _ _ _)
   | (with_reducible exact ih3 _ _ _ _ _ _ _ _ _ _)
   | (with_reducible exact ih4 _ _ _ _ _ _ _ _ _)
   | (with_reducible exact ih5 _ _ _ _ _ _ _ _ _)
   | (with_reducible exact siglumref08_cells.mono _ _ _)
   | (with_reducible exact siglumref08_rests.mono _ _ _)
   | (with_reducible exact LeO.refl _)
   | (with_reducible exact LeO.none _)
   | (with_reducible refine LeO.ite ?_ ?_)
   | (with_reducible refine LeO.bind ?_ (fun _ => ?_))
   | exact ih0 _ _ _ _ _ _ _ _
   | exact ih1 _ _ _ _ _ _ _ _ _
   | exact ih2 _ _ _ _ _ _ _ _ _
   | exact ih3 _ _ _ _ _ _ _ _ _ _
   | exact ih4 _ _ _ _ _ _ _ _ _
   | exact ih5 _ _ _ _ _ _ _ _ _
   | exact siglumref08_cells.mono _ _ _
   | exact siglumref08_rests.mono _ _ _
   | exact LeO.none _
   | refine LeO.ite ?_ ?_
   | refine LeO.bind ?_ (fun _ => ?_)
  ·
   intro y0 y1 y2 y3 y4 y5 y6 y7 y8 y9
   unfold siglumref08_Path.j3
   repeat' first
   | (with_reducible exact ih0 _ _ _ _ _ _ _ _)
   | (with_reducible exact ih1 _ _ _ _ _ _ _ _ _)
   | (with_reducible exact ih2 _ _ _ _ _ _ _ _ _)
   | (with_reducible exact ih3 _ _ _ _ _ _ _ _ _ _)
   | (with_reducible exact ih4 _ _ _ _ _ _ _ _ _)
   | (with_reducible exact ih5 _ _ _ _ _ _ _ _ _)
   | (with_reducible exact siglumref08_cells.mono _ _ _)
   | (with_reducible exact siglumref08_rests.mono _ _ _)
   | (with_reducible exact LeO.refl _)
   | (with_reducible exact LeO.none _)
   | (with_reducible refine LeO.ite ?_ ?_)
   | (with_reducible refine LeO.bind ?_ (fun _ => ?_))
   | exact ih0 _ _ _ _ _ _ _ _
   | exact ih1 _ _ _ _ _ _ _ _ _
   | exact ih2 _ _ _ _ _ _ _ _ _
   | exact ih3 _ _ _ _ _ _ _ _ _ _
   | exact ih4 _ _ _ _ _ _ _ _ _
   | exact ih5 _ _ _ _ _ _ _ _ _
   | exact siglumref08_cells.mono _ _ _
   | exact siglumref08_rests.mono _ _ _
   | exact LeO.none _
   | refine LeO.ite ?_ ?_
   | refine LeO.bind ?_ (fun _ => ?_)
  ·
   intro y0 y1 y2 y3 y4 y5 y6 y7 y8
   unfold siglumref08_Path.j4
   repeat' first
   | (with_reducible exact ih0 _ _ _ _ _ _ _ _)
   | (with_reducible exact ih1 _ _ _ _ _ _ _ _ _)
   | (with_reducible exact ih2 _ _ _ _ _ _ _ _ _)
   | (with_reducible exact ih3 _ _ _ _ _ _ _ _ _ _)
   | (with_reducible exact ih4 _ _ _ _ _ _ _ _ _)
   | (with_reducible exact ih5 _ _ _ _ _ _ _ _ _)
   | (with_reducible exact siglumref08_cells.mono _ _ _)
   | (with_reducible exact siglumref08_rests.mono _ _ _)
   | (with_reducible exact LeO.refl _)
   | (with_reducible exact LeO.none _)
   | (with_reducible refine LeO.ite ?_ ?_)
   | (with_reducible refine LeO.bind ?_ (fun _ => ?_))
   | exact ih0 _ _ _ _ _ _ _ _
   | exact ih1 _ _ _ _ _ _ _ _ _
   | exact ih2 _ _ _ _ _ _ _ _ _
   | exact ih3 _ _ _ _ _ _ _ _ _ _
   | exact ih4 _ _ _ _ _ _ _ _ _
   | exact ih5 _ _ _ _ _ _ _ _ _
   | exact siglumref08_cells.mono _ _ _
   | exact siglumref08_rests.mono _ _ _
   | exact LeO.none _
   | refine LeO.ite ?_ ?_
   | refine LeO.bind ?_ (fun _ => ?_)
  ·
   intro y0 y1 y2 y3 y4 y5 y6 y7 y8
   unfold siglumref08_Path.j5
   repeat' first
   | (with_reducible exact ih0 _ _ _ _ _ _ _ _)
   | (with_reducible exact ih1 _ _ _ _ _ _ _ _ _)
   | (with_reducible exact ih2 _ _ _ _ _ _ _ _ _)
   | (with_reducible exact ih3 _ _ _ _ _ _ _ _ _ _)
   | (with_reducible exact ih4 _ _ _ _ _ _ _ _ _)
   | (with_reducible exact ih5 _ _ _ _ _ _ _ _ _)
   | (with_reducible exact siglumref08_cells.mono _ _ _)
   | (with_reducible exact siglumref08_rests.mono _ _ _)
   | (with_reducible exact LeO.refl _)
   | (with_reducible exact LeO.none _)
   | (with_reducible refine LeO.ite ?_ ?_)
   | (with_reducible refine LeO.bind ?_ (fun _ => ?_))
   | exact ih0 _ _ _ _ _ _ _ _
   | exact ih1 _ _ _ _ _ _ _ _ _
   | exact ih2 _ _ _ _ _ _ _ _ _
   | exact ih3 _ _ _ _ _ _ _ _ _ _
   | exact ih4 _ _ _ _ _ _ _ _ _
   | exact ih5 _ _ _ _ _ _ _ _ _
   | exact siglumref08_cells.mono _ _ _
   | exact siglumref08_rests.mono _ _ _
   | exact LeO.none _
   | refine LeO.ite ?_ ?_
   | refine LeO.bind ?_ (fun _ => ?_)
theorem siglumref08_Path.mono : ∀ a0 a1 k, LeO (siglumref08_Path.f k a0 a1) (siglumref08_Path.f (k + 1) a0 a1) := by
 intro a0 a1 k
 obtain ⟨ih0, ih1, ih2, ih3, ih4, ih5⟩ := siglumref08_Path.mono_l k
 unfold siglumref08_Path.f
 repeat' first
  | (with_reducible exact ih0 _ _ _ _ _ _ _ _)
  | (with_reducible exact ih1 _ _ _ _ _ _ _ _ _)
  | (with_reducible exact ih2 _ _ _ _ _ _ _ _ _)
  | (with_reducible exact ih3 _ _ _ _ _ _ _ _ _ _)
  | (with_reducible exact ih4 _ _ _ _ _ _ _ _ _)
  | (with_reducible exact ih5 _ _ _ _ _ _ _ _ _)
  | (with_reducible exact siglumref08_cells.mono _ _ _)
  | (with_reducible exact siglumref08_rests.mono _ _ _)
  | (with_reducible exact LeO.refl _)
  | (with_reducible exact LeO.none _)
  | (with_reducible refine LeO.ite ?_ ?_)
  | (with_reducible refine LeO.bind ?_ (fun _ => ?_))
  | exact ih0 _ _ _ _ _ _ _ _
  | exact ih1 _ _ _ _ _ _ _ _ _
  | exact ih2 _ _ _ _ _ _ _ _ _
  | exact ih3 _ _ _ _ _ _ _ _ _ _
  | exact ih4 _ _ _ _ _ _ _ _ _
  | exact ih5 _ _ _ _ _ _ _ _ _
  | exact siglumref08_cells.mono _ _ _
  | exact siglumref08_rests.mono _ _ _
  | exact LeO.none _
  | refine LeO.ite ?_ ?_
  | refine LeO.bind ?_ (fun _ => ?_)
def siglumref08_Path.T12 : Bool × List (List Nat × List Nat) := (true, [([], []), ([0], [0]), ([1], [1]), ([1], [1]), ([2, 3, 1], [1, 2, 3]), ([4, 1], [1, 4]), ([1], [1]), ([1], [1]), ([6, 7, 1], [1, 6, 7]), ([8, 1], [1, 8]), ([5, 9, 1, 1], [1, 5, 9]), ([1, 10], [1, 10]), ([11, 10], [11]), ([12], [12]), ([12], [12]), ([14, 12], [12, 14]), ([13, 15, 12], [12, 13, 15]), ([16, 12], [12, 16]), ([12], [12]), ([18, 12], [12, 18]), ([17, 19, 12], [12, 17, 19]), ([20, 12], [12, 20]), ([12], [12]), ([12], [12]), ([22, 23, 12], [12, 22, 23]), ([24, 12], [12, 24]), ([12], [12]), ([25, 26, 12], [12, 25, 26]), ([27, 12], [12, 27]), ([21, 28, 12], [12, 21, 28]), ([12, 29], [12, 29]), ([30, 12], [30])])
def siglumref08_Path.B12 : List Nat := [0, 1, 3, 3, 15, 31, 3, 3, 195, 451, 1023, 2047, 4095, 8191, 8191, 24575, 65535, 131071, 8191, 270335, 1048575, 2097151, 8191, 8191, 12591103, 29368319, 8191, 130031615, 264249343, 536870911, 1073741823, 2147483647]
theorem siglumref08_Path.tab12 : rtab .any (opsOf Tryd.f17 12) = siglumref08_Path.T12 := by kernel_rfl
theorem siglumref08_Path.bits12 : waitsOk siglumref08_Path.T12.2 siglumref08_Path.B12 = true := by kernel_rfl
def siglumref08_Path.T16 : Bool × List (List Nat × List Nat) := (true, [([], []), ([0], [0]), ([1], [1]), ([1], [1]), ([2, 3, 1], [1, 2, 3]), ([4, 1], [1, 4]), ([1], [1]), ([1], [1]), ([6, 7, 1], [1, 6, 7]), ([8, 1], [1, 8]), ([5, 9, 1, 1], [1, 5, 9]), ([10, 1], [1, 10]), ([1, 11], [1, 11]), ([12, 10], [12]), ([13], [13]), ([13], [13]), ([15, 13], [13, 15]), ([14, 16, 13], [13, 14, 16]), ([17, 13], [13, 17]), ([13], [13]), ([19, 13], [13, 19]), ([18, 20, 13], [13, 18, 20]), ([21, 13], [13, 21]), ([22, 13], [13, 22]), ([13], [13]), ([13], [13]), ([24, 25, 13], [13, 24, 25]), ([26, 13], [13, 26]), ([13], [13]), ([27, 28, 13], [13, 27, 28]), ([29, 13], [13, 29]), ([23, 30, 13], [13, 23, 30]), ([13, 31], [13, 31]), ([32, 13], [32])])
def siglumref08_Path.B16 : List Nat := [0, 1, 3, 3, 15, 31, 3, 3, 195, 451, 1023, 2047, 4095, 8191, 16383, 16383, 49151, 131071, 262143, 16383, 540671, 2097151, 4194303, 8388607, 16383, 16383, 50348031, 117456895, 16383, 520110079, 1056980991, 2147483647, 4294967295, 8589934591]
theorem siglumref08_Path.tab16 : rtab .any (opsOf Tryd.f17 16) = siglumref08_Path.T16 := by kernel_rfl
theorem siglumref08_Path.bits16 : waitsOk siglumref08_Path.T16.2 siglumref08_Path.B16 = true := by kernel_rfl
def siglumref08_Path.T20 : Bool × List (List Nat × List Nat) := (true, [([], []), ([], []), ([1], [1]), ([0, 2], [0, 2]), ([3], [3]), ([4], [4]), ([4], [4]), ([6, 4], [4, 6]), ([5, 7, 4], [4, 5, 7]), ([8, 4], [4, 8]), ([4], [4]), ([9, 10, 4], [4, 9, 10]), ([11, 4], [4, 11]), ([12, 4], [4, 12]), ([4], [4]), ([4], [4]), ([14, 15, 4], [4, 14, 15]), ([16, 4], [4, 16]), ([4], [4]), ([17, 18, 4], [4, 17, 18]), ([19, 4], [4, 19]), ([13, 20, 4], [4, 13, 20]), ([4, 21], [4, 21]), ([22, 4], [22])])
def siglumref08_Path.B20 : List Nat := [0, 0, 2, 7, 15, 31, 31, 95, 255, 511, 31, 2047, 4095, 8191, 31, 31, 49183, 114719, 31, 507935, 1032223, 2097151, 4194303, 8388607]
theorem siglumref08_Path.tab20 : rtab .any (opsOf Tryd.f17 20) = siglumref08_Path.T20 := by kernel_rfl
theorem siglumref08_Path.bits20 : waitsOk siglumref08_Path.T20.2 siglumref08_Path.B20 = true := by kernel_rfl
set_option maxHeartbeats 8000000 in
set_option maxRecDepth 100000 in
theorem siglumref08_Path.calls (k : Nat) (a0 : ByteArray) (a1 : ByteArray) (r1 : List (S30)) (r2 : Int) (w : World) (h : siglumref08_Path.f k a0 a1 = some (r1, r2)) :
 Calls Tryd.prog 17 #[.string a0, .string a1] w fun e w' => ∃ v0_ : Value, e = .returned (.tuple #[v0_, .int .i64 r2]) ∧ Kd.R k30 30 w' w.heap.size (fun _ => True) v0_ r1 ∧ Below w.heap.size w w' := by
 have hu75 := Tryd.underlying75
 have hu30 := Tryd.underlying30
 have HB := Aside0.mk (Below.refl w.heap.size w)
 have H : ((siglumref08_cells.f k a0 a1).bind fun bt219 => (if bt219.2.2 = true then ((siglumref08_rests.f k bt219.1 bt219.2.1).bind fun t226 => (siglumref08_Path.l0 k a0 a1 bt219.1 bt219.2.1 t226 ([] : List (S30)) 0 0)) else (some (([] : List (S30)), 1)))) = some (r1, r2) := h
 clear h
 replace H := Option.bind_eq_some_iff.mp H
 obtain ⟨⟨t219, t220, t221⟩, A30, H⟩ := H
 replace H : (if t221 = true then ((siglumref08_rests.f k t219 t220).bind fun t226 => (siglumref08_Path.l0 k a0 a1 t219 t220 t226 ([] : List (S30)) 0 0)) else (some (([] : List (S30)), 1))) = some (r1, r2) := H
 have A3 := Aside0.mk A30
 clear A30
 by_cases c4 : t221 = true
 ·
  subst c4
  have H1 : ((siglumref08_rests.f k t219 t220).bind fun t226 => (siglumref08_Path.l0 k a0 a1 t219 t220 t226 ([] : List (S30)) 0 0)) = some (r1, r2) := by rw [if_pos rfl] at H; exact H
  clear H
  have H := H1
  clear H1
  replace H := Option.bind_eq_some_iff.mp H
  obtain ⟨t226, A50, H⟩ := H
  replace H : (siglumref08_Path.l0 k a0 a1 t219 t220 t226 ([] : List (S30)) 0 0) = some (r1, r2) := H
  have A5 := Aside0.mk A50
  clear A50
  have H' := Aside0.mk H
  clear H
  go_enter Tryd.func17, Tryd.ntmps17
  go_wp2_with (first | ((with_reducible refine gate_callee (f := 35) rfl ?_); refine goesL_ (some 17) rfl rfl Tryd.func35 (by kernel_rfl) rfl #[.string a0, .string a1] rfl (by (try simp only [List.map_toArray, List.map_cons, List.map_nil]); first | done | rfl | (simp only [List.length_drop, List.length_take]; rfl)) ?_; (with_reducible refine (siglumref08_cells.calls k a0 a1 t219 t220 true _ A3.out).mono ?_); rintro e w6 ⟨v222, v224, rfl, ho0, ho1, hb⟩; refine ⟨_, rfl, ?_⟩; have n0_ := Aside0.mk (Kd.R_lower ho0 (below_size (by repeat (first | (with_reducible first | exact HB.out | apply below_alloc | apply pw_below_drewN | apply below_drew1) | exact HB.out)))); have n1_ := Aside0.mk (Kd.R_lower ho1 (below_size (by repeat (first | (with_reducible first | exact HB.out | apply below_alloc | apply pw_below_drewN | apply below_drew1) | exact HB.out)))); have n2_ := Aside0.mk (below_step (by repeat (first | (with_reducible first | exact HB.out | apply below_alloc | apply pw_below_drewN | apply below_drew1) | exact HB.out)) hb); clear HB; have HO223 := n0_; have HO225 := n1_; have HB := n2_; clear n0_ n1_ n2_; (try clear hb); (try clear hb2); (try clear hk); (try clear hi); (try clear ho0); (try clear ho1); obtain ⟨Ao7, co7, eo7⟩ := Kd.R_slice HO223.out; subst eo7; obtain ⟨Ao8, co8, eo8⟩ := Kd.R_slice HO225.out; subst eo8) | ((with_reducible refine gate_callee (f := 36) rfl ?_); refine goesL_ (some 25) rfl rfl Tryd.func36 (by kernel_rfl) rfl #[.slice Ao7 t219.length co7, .slice Ao8 t220.length co8] rfl (by (try simp only [List.map_toArray, List.map_cons, List.map_nil]); first | done | rfl | (simp only [List.length_drop, List.length_take]; rfl)) ?_; (with_reducible refine (siglumref08_rests.calls k _ _ t219 _ _ t220 t226 _ ?side1 ?side2 ?side3 ?side4 A5.out).mono ?_); (case side1 => repeat (first | exact (Kd.R_reads' HO223.out).2.2 | (with_reducible refine Kd.C_alloc ?_ _) | (with_reducible refine Kd.C_drewN ?_ _) | (with_reducible refine Kd.C_drew ?_))); (case side2 => exact (Kd.R_reads' HO223.out).2.1); (case side3 => repeat (first | exact (Kd.R_reads' HO225.out).2.2 | (with_reducible refine Kd.C_alloc ?_ _) | (with_reducible refine Kd.C_drewN ?_ _) | (with_reducible refine Kd.C_drew ?_))); (case side4 => exact (Kd.R_reads' HO225.out).2.1); rintro e w9 ⟨v227, rfl, ho0, hb⟩; refine ⟨_, rfl, ?_⟩; have n0_ := Aside0.mk (Kd.R_below (by (with_reducible repeat (first | apply Kd.R_alloc | apply Kd.R_drewN | apply Kd.R_drew)); exact HO223.out) hb); have n1_ := Aside0.mk (Kd.R_below (by (with_reducible repeat (first | apply Kd.R_alloc | apply Kd.R_drewN | apply Kd.R_drew)); exact HO225.out) hb); have n2_ := Aside0.mk (Kd.S_lower ho0 (below_size (by repeat (first | (with_reducible first | exact HB.out | apply below_alloc | apply pw_below_drewN | apply below_drew1) | exact HB.out)))); have n3_ := Aside0.mk (below_step (by repeat (first | (with_reducible first | exact HB.out | apply below_alloc | apply pw_below_drewN | apply below_drew1) | exact HB.out)) hb); clear HO223; clear HO225; clear HB; have HO223 := n0_; have HO225 := n1_; have HO228 := n2_; have HB := n3_; clear n0_ n1_ n2_ n3_; (try clear hb); (try clear hb2); (try clear hk); (try clear hi); (try clear ho0)))
  go_loopg [10, 11, 12] k (fun kq v10 v11 v12 w' => ∃ (x10_1 : List (S30)) (x11_1 : Int) (x12_1 : Int), v11 = .int .i64 x11_1 ∧ v12 = .int .i64 x12_1 ∧ Aside0 (siglumref08_Path.l0 kq a0 a1 t219 t220 t226 x10_1 x11_1 x12_1 = some (r1, r2)) ∧ Aside0 (kq ≤ k) ∧ Aside0 (Kd.R k75 75 w' w.heap.size (fun k_ => some k_ ≠ ((.slice Ao8 t220.length co8) : Value).ownBlock) (.slice Ao7 t219.length co7) t219) ∧ Aside0 (Kd.R k75 75 w' w.heap.size (fun k_ => some k_ ≠ ((.slice Ao7 t219.length co7) : Value).ownBlock) (.slice Ao8 t220.length co8) t220) ∧ Aside0 (Kd.S (Kd.slice 3 (Kd.int .i64)) 68 w' w.heap.size (fun _ => True) v227 t226) ∧ Aside0 (Kd.R k30 30 w' w.heap.size (fun _ => True) v10 x10_1) ∧ Aside0 (Below w.heap.size w w'))
  case atStart => exact ⟨(([] : List (S30))), (0), (0), (by first | rfl | (simp; done) | (simp [*]; done)), (by first | rfl | (simp; done) | (simp [*]; done)), H', ⟨Nat.le_refl _⟩, ⟨by (with_reducible repeat (first | apply Kd.R_alloc | apply Kd.R_drewN | apply Kd.R_drew)); exact HO223.out⟩, ⟨by (with_reducible repeat (first | apply Kd.R_alloc | apply Kd.R_drewN | apply Kd.R_drew)); exact HO225.out⟩, ⟨by (with_reducible repeat (first | apply Kd.S_alloc | apply Kd.S_drewN | apply Kd.S_drew)); exact HO228.out⟩, ⟨by first | exact Kd.R_nil _ _ _ _ _ | exact Kd.N_nil _ _ _ _ _ | exact Kd.V_nil _ _ _ _ _ | exact Kd.Q_nil _ _ _ _ _ | exact Kd.S_nil _ _ _ _ _⟩, ⟨by repeat (first | (with_reducible first | exact HB.out | apply below_alloc | apply pw_below_drewN | apply below_drew1) | exact HB.out)⟩⟩
  case round =>
   clear H'
   (try clear c1); (try clear p2); (try clear c3); (try clear c4)
   obtain ⟨x10_1, x11_1, x12_1, rfl, rfl, HA, HK1, HO_6, HO_7, HO_9, HO_10, HB⟩ := hrel
   cases gk with
   | zero => exact absurd HA.out (by simp [siglumref08_Path.l0])
   | succ k1 =>
    have H := HA.out
    clear HA
    simp only [siglumref08_Path.l0] at H
    have HC10 := Aside0.mk H
    clear H
    go_upto_region 8 with (fail)
    go_cut [35] (fun v35 wc => ∃ (kq : Nat) (x35_9 : Bool), v35 = .bool x35_9 ∧ Aside0 (siglumref08_Path.j1 kq a0 a1 t219 t220 t226 x10_1 x11_1 x12_1 x35_9 = some (r1, r2)) ∧ Aside0 (kq ≤ k1) ∧ Aside0 (Kd.R k75 75 wc w.heap.size (fun k_ => some k_ ≠ ((.slice Ao8 t220.length co8) : Value).ownBlock) (.slice Ao7 t219.length co7) t219) ∧ Aside0 (Kd.R k75 75 wc w.heap.size (fun k_ => some k_ ≠ ((.slice Ao7 t219.length co7) : Value).ownBlock) (.slice Ao8 t220.length co8) t220) ∧ Aside0 (Kd.S (Kd.slice 3 (Kd.int .i64)) 68 wc w.heap.size (fun _ => True) v227 t226) ∧ Aside0 (Kd.R k30 30 wc w.heap.size (fun _ => True) u10 x10_1) ∧ Aside0 (Below w.heap.size w wc))
    case first => as_aux_lemma =>
     have H := HC10.out
     clear HC10
     by_cases c11 : x11_1 < (t219.length : Int)
     ·
      rw [if_pos c11] at H
      have c11b0 : decide (x11_1 < (t219.length : Int)) = true := decide_eq_true c11
      clear c11
      (first | rw [c11b0] | (simp only [i64_w, i32_w]; rw [c11b0]) | skip)
      have H' := Aside0.mk H
      clear H
      go_wp2
      go_meet
      case rel => exact ⟨_, (true), (by first | rfl | (simp; done) | (simp [*]; done)), H', ⟨by have := HK1.out; first | omega | exact Nat.le_refl _⟩, ⟨by (with_reducible repeat (first | apply Kd.R_alloc | apply Kd.R_drewN | apply Kd.R_drew)); exact HO_6.out⟩, ⟨by (with_reducible repeat (first | apply Kd.R_alloc | apply Kd.R_drewN | apply Kd.R_drew)); exact HO_7.out⟩, ⟨by (with_reducible repeat (first | apply Kd.S_alloc | apply Kd.S_drewN | apply Kd.S_drew)); exact HO_9.out⟩, ⟨by (with_reducible repeat (first | apply Kd.R_alloc | apply Kd.R_drewN | apply Kd.R_drew)); exact HO_10.out⟩, ⟨by repeat (first | (with_reducible first | exact HB.out | apply below_alloc | apply pw_below_drewN | apply below_drew1) | exact HB.out)⟩⟩
     ·
      rw [if_neg c11] at H
      have c11b0 : decide (x11_1 < (t219.length : Int)) = false := decide_eq_false c11
      clear c11
      (first | rw [c11b0] | (simp only [i64_w, i32_w]; rw [c11b0]) | skip)
      have H' := Aside0.mk H
      clear H
      go_wp2
      go_meet
      case rel => exact ⟨_, (decide (x12_1 < (t220.length : Int))), (by first | rfl | (simp; done) | (simp [*]; done)), H', ⟨by have := HK1.out; first | omega | exact Nat.le_refl _⟩, ⟨by (with_reducible repeat (first | apply Kd.R_alloc | apply Kd.R_drewN | apply Kd.R_drew)); exact HO_6.out⟩, ⟨by (with_reducible repeat (first | apply Kd.R_alloc | apply Kd.R_drewN | apply Kd.R_drew)); exact HO_7.out⟩, ⟨by (with_reducible repeat (first | apply Kd.S_alloc | apply Kd.S_drewN | apply Kd.S_drew)); exact HO_9.out⟩, ⟨by (with_reducible repeat (first | apply Kd.R_alloc | apply Kd.R_drewN | apply Kd.R_drew)); exact HO_10.out⟩, ⟨by repeat (first | (with_reducible first | exact HB.out | apply below_alloc | apply pw_below_drewN | apply below_drew1) | exact HB.out)⟩⟩
    case rest =>
     clear HC10
     (try clear c1); (try clear p2); (try clear c3); (try clear c4); (try clear c11); (try clear c11b0)
     obtain ⟨kq, x35_9, rfl, HA, HJ9, HO_6, HO_7, HO_9, HO_10, HB⟩ := hcut
     cases kq with
     | zero => exact absurd HA.out (by simp [siglumref08_Path.j1])
     | succ kj9 =>
      have H := HA.out
      clear HA
      simp only [siglumref08_Path.j1] at H
      by_cases c12 : x35_9 = true
      ·
       subst c12
       have H1 : (if x11_1 < (t219.length : Int) then (siglumref08_Path.j2 kj9 a0 a1 t219 t220 t226 x10_1 x11_1 x12_1 (decide (x12_1 < (t220.length : Int)))) else (siglumref08_Path.j2 kj9 a0 a1 t219 t220 t226 x10_1 x11_1 x12_1 false)) = some (r1, r2) := by rw [if_pos rfl] at H; exact H
       clear H
       have H := H1
       clear H1
       have HC13 := Aside0.mk H
       clear H
       go_upto_region 9 with (fail)
       go_cut [13] (fun v13 wc => ∃ (kq : Nat) (x13_12 : Bool), v13 = .bool x13_12 ∧ Aside0 (siglumref08_Path.j2 kq a0 a1 t219 t220 t226 x10_1 x11_1 x12_1 x13_12 = some (r1, r2)) ∧ Aside0 (kq ≤ kj9) ∧ Aside0 (Kd.R k75 75 wc w.heap.size (fun k_ => some k_ ≠ ((.slice Ao8 t220.length co8) : Value).ownBlock) (.slice Ao7 t219.length co7) t219) ∧ Aside0 (Kd.R k75 75 wc w.heap.size (fun k_ => some k_ ≠ ((.slice Ao7 t219.length co7) : Value).ownBlock) (.slice Ao8 t220.length co8) t220) ∧ Aside0 (Kd.S (Kd.slice 3 (Kd.int .i64)) 68 wc w.heap.size (fun _ => True) v227 t226) ∧ Aside0 (Kd.R k30 30 wc w.heap.size (fun _ => True) u10 x10_1) ∧ Aside0 (Below w.heap.size w wc))
       case first => as_aux_lemma =>
        have H := HC13.out
        clear HC13
        by_cases c14 : x11_1 < (t219.length : Int)
        ·
         rw [if_pos c14] at H
         have c14b0 : decide (x11_1 < (t219.length : Int)) = true := decide_eq_true c14
         clear c14
         (first | rw [c14b0] | (simp only [i64_w, i32_w]; rw [c14b0]) | skip)
         have H' := Aside0.mk H
         clear H
         go_wp2
         go_meet
         case rel => exact ⟨_, (decide (x12_1 < (t220.length : Int))), (by first | rfl | (simp; done) | (simp [*]; done)), H', ⟨by have := HK1.out; have := HJ9.out; first | omega | exact Nat.le_refl _⟩, ⟨by (with_reducible repeat (first | apply Kd.R_alloc | apply Kd.R_drewN | apply Kd.R_drew)); exact HO_6.out⟩, ⟨by (with_reducible repeat (first | apply Kd.R_alloc | apply Kd.R_drewN | apply Kd.R_drew)); exact HO_7.out⟩, ⟨by (with_reducible repeat (first | apply Kd.S_alloc | apply Kd.S_drewN | apply Kd.S_drew)); exact HO_9.out⟩, ⟨by (with_reducible repeat (first | apply Kd.R_alloc | apply Kd.R_drewN | apply Kd.R_drew)); exact HO_10.out⟩, ⟨by repeat (first | (with_reducible first | exact HB.out | apply below_alloc | apply pw_below_drewN | apply below_drew1) | exact HB.out)⟩⟩
        ·
         rw [if_neg c14] at H
         have c14b0 : decide (x11_1 < (t219.length : Int)) = false := decide_eq_false c14
         clear c14
         (first | rw [c14b0] | (simp only [i64_w, i32_w]; rw [c14b0]) | skip)
         have H' := Aside0.mk H
         clear H
         go_wp2
         go_meet
         case rel => exact ⟨_, (false), (by first | rfl | (simp; done) | (simp [*]; done)), H', ⟨by have := HK1.out; have := HJ9.out; first | omega | exact Nat.le_refl _⟩, ⟨by (with_reducible repeat (first | apply Kd.R_alloc | apply Kd.R_drewN | apply Kd.R_drew)); exact HO_6.out⟩, ⟨by (with_reducible repeat (first | apply Kd.R_alloc | apply Kd.R_drewN | apply Kd.R_drew)); exact HO_7.out⟩, ⟨by (with_reducible repeat (first | apply Kd.S_alloc | apply Kd.S_drewN | apply Kd.S_drew)); exact HO_9.out⟩, ⟨by (with_reducible repeat (first | apply Kd.R_alloc | apply Kd.R_drewN | apply Kd.R_drew)); exact HO_10.out⟩, ⟨by repeat (first | (with_reducible first | exact HB.out | apply below_alloc | apply pw_below_drewN | apply below_drew1) | exact HB.out)⟩⟩
       case rest =>
        clear HC13
        (try clear c1); (try clear p2); (try clear c3); (try clear c4); (try clear c11); (try clear c11b0); (try clear c12); (try clear c14); (try clear c14b0)
        obtain ⟨kq, x13_12, rfl, HA, HJ12, HO_6, HO_7, HO_9, HO_10, HB⟩ := hcut
        cases kq with
        | zero => exact absurd HA.out (by simp [siglumref08_Path.j2])
        | succ kj12 =>
         have H := HA.out
         clear HA
         simp only [siglumref08_Path.j2] at H
         have HC15 := Aside0.mk H
         clear H
         go_upto_region 12 with (fail)
         go_cut [58] (fun v58 wc => ∃ (kq : Nat) (x58_14 : Bool), v58 = .bool x58_14 ∧ Aside0 (siglumref08_Path.j3 kq a0 a1 t219 t220 t226 x10_1 x11_1 x12_1 x13_12 x58_14 = some (r1, r2)) ∧ Aside0 (kq ≤ kj12) ∧ Aside0 (Kd.R k75 75 wc w.heap.size (fun k_ => some k_ ≠ ((.slice Ao8 t220.length co8) : Value).ownBlock) (.slice Ao7 t219.length co7) t219) ∧ Aside0 (Kd.R k75 75 wc w.heap.size (fun k_ => some k_ ≠ ((.slice Ao7 t219.length co7) : Value).ownBlock) (.slice Ao8 t220.length co8) t220) ∧ Aside0 (Kd.S (Kd.slice 3 (Kd.int .i64)) 68 wc w.heap.size (fun _ => True) v227 t226) ∧ Aside0 (Kd.R k30 30 wc w.heap.size (fun _ => True) u10 x10_1) ∧ Aside0 (Below w.heap.size w wc))
         case first => as_aux_lemma =>
          have H := HC15.out
          clear HC15
          by_cases c16 : x13_12 = true
          ·
           subst c16
           have H1 : (if 0 ≤ x11_1 then (if x11_1 < (t219.length : Int) then (if 0 ≤ x12_1 then (if x12_1 < (t220.length : Int) then ((siglumref08_Same.f ((rd_T75 t219 x11_1).f0) ((rd_T75 t219 x11_1).f1) ((rd_T75 t219 x11_1).f2) ((rd_T75 t219 x11_1).f3) ((rd_T75 t219 x11_1).f4) ((rd_T75 t220 x12_1).f0) ((rd_T75 t220 x12_1).f1) ((rd_T75 t220 x12_1).f2) ((rd_T75 t220 x12_1).f3) ((rd_T75 t220 x12_1).f4)).bind fun t231 => (if t231 = true then (if 0 ≤ (wrap64 (x11_1 + 1)) then (if (wrap64 (x11_1 + 1)) < (t226.length : Int) then (if 0 ≤ (wrap64 (x12_1 + 1)) then (if (wrap64 (x12_1 + 1)) < ((rd_L7 t226 (wrap64 (x11_1 + 1))).length : Int) then (if x11_1 < (t226.length : Int) then (if x12_1 < ((rd_L7 t226 x11_1).length : Int) then (siglumref08_Path.j3 kj12 a0 a1 t219 t220 t226 x10_1 x11_1 x12_1 true ((rd (rd_L7 t226 (wrap64 (x11_1 + 1))) (wrap64 (x12_1 + 1))) == (rd (rd_L7 t226 x11_1) x12_1))) else (none)) else (none)) else (none)) else (none)) else (none)) else (none)) else (siglumref08_Path.j3 kj12 a0 a1 t219 t220 t226 x10_1 x11_1 x12_1 true false))) else (none)) else (none)) else (none)) else (none)) = some (r1, r2) := by rw [if_pos rfl] at H; exact H
           clear H
           have H := H1
           clear H1
           by_cases c17 : 0 ≤ x11_1
           rotate_left
           · rw [if_neg c17] at H; exact absurd H (by simp)
           rw [if_pos c17] at H
           have c17b0 : decide (0 ≤ x11_1) = true := decide_eq_true c17
           clear c17
           (first | rw [c17b0] | (simp only [i64_w, i32_w]; rw [c17b0]) | skip)
           by_cases c18 : x11_1 < (t219.length : Int)
           rotate_left
           · rw [if_neg c18] at H; exact absurd H (by simp)
           rw [if_pos c18] at H
           have c18b0 : decide (x11_1 < (t219.length : Int)) = true := decide_eq_true c18
           clear c18
           by_cases c19 : 0 ≤ x12_1
           rotate_left
           · rw [if_neg c19] at H; exact absurd H (by simp)
           rw [if_pos c19] at H
           have c19b0 : decide (0 ≤ x12_1) = true := decide_eq_true c19
           clear c19
           by_cases c20 : x12_1 < (t220.length : Int)
           rotate_left
           · rw [if_neg c20] at H; exact absurd H (by simp)
           rw [if_pos c20] at H
           have c20b0 : decide (x12_1 < (t220.length : Int)) = true := decide_eq_true c20
           clear c20
           replace H := Option.bind_eq_some_iff.mp H
           obtain ⟨t231, A210, H⟩ := H
           replace H : (if t231 = true then (if 0 ≤ (wrap64 (x11_1 + 1)) then (if (wrap64 (x11_1 + 1)) < (t226.length : Int) then (if 0 ≤ (wrap64 (x12_1 + 1)) then (if (wrap64 (x12_1 + 1)) < ((rd_L7 t226 (wrap64 (x11_1 + 1))).length : Int) then (if x11_1 < (t226.length : Int) then (if x12_1 < ((rd_L7 t226 x11_1).length : Int) then (siglumref08_Path.j3 kj12 a0 a1 t219 t220 t226 x10_1 x11_1 x12_1 true ((rd (rd_L7 t226 (wrap64 (x11_1 + 1))) (wrap64 (x12_1 + 1))) == (rd (rd_L7 t226 x11_1) x12_1))) else (none)) else (none)) else (none)) else (none)) else (none)) else (none)) else (siglumref08_Path.j3 kj12 a0 a1 t219 t220 t226 x10_1 x11_1 x12_1 true false)) = some (r1, r2) := H
           have A21 := Aside0.mk A210
           clear A210
           by_cases c22 : t231 = true
           ·
            subst c22
            have H1 : (if 0 ≤ (wrap64 (x11_1 + 1)) then (if (wrap64 (x11_1 + 1)) < (t226.length : Int) then (if 0 ≤ (wrap64 (x12_1 + 1)) then (if (wrap64 (x12_1 + 1)) < ((rd_L7 t226 (wrap64 (x11_1 + 1))).length : Int) then (if x11_1 < (t226.length : Int) then (if x12_1 < ((rd_L7 t226 x11_1).length : Int) then (siglumref08_Path.j3 kj12 a0 a1 t219 t220 t226 x10_1 x11_1 x12_1 true ((rd (rd_L7 t226 (wrap64 (x11_1 + 1))) (wrap64 (x12_1 + 1))) == (rd (rd_L7 t226 x11_1) x12_1))) else (none)) else (none)) else (none)) else (none)) else (none)) else (none)) = some (r1, r2) := by rw [if_pos rfl] at H; exact H
            clear H
            have H := H1
            clear H1
            obtain ⟨ji23, hji23⟩ : ∃ j_ : Int, (wrap64 (x11_1 + 1)) = j_ := ⟨_, rfl⟩
            replace H : (if 0 ≤ (ji23) then (if (ji23) < (t226.length : Int) then (if 0 ≤ (wrap64 (x12_1 + 1)) then (if (wrap64 (x12_1 + 1)) < ((rd_L7 t226 (ji23)).length : Int) then (if x11_1 < (t226.length : Int) then (if x12_1 < ((rd_L7 t226 x11_1).length : Int) then (siglumref08_Path.j3 kj12 a0 a1 t219 t220 t226 x10_1 x11_1 x12_1 true ((rd (rd_L7 t226 (ji23)) (wrap64 (x12_1 + 1))) == (rd (rd_L7 t226 x11_1) x12_1))) else (none)) else (none)) else (none)) else (none)) else (none)) else (none)) = some (r1, r2) := by first | (rw [hji23] at H; exact H) | (simp only [hji23] at H ⊢; exact H)
            (try rw [hji23] at A21)
            have hji23w : (IntKind.i64.wrap (x11_1 + 1)) = ji23 := (i64_w _).trans hji23
            by_cases c24 : 0 ≤ (ji23)
            rotate_left
            · rw [if_neg c24] at H; exact absurd H (by simp)
            rw [if_pos c24] at H
            have c24b0 : decide (0 ≤ (ji23)) = true := decide_eq_true c24
            clear c24
            by_cases c25 : (ji23) < (t226.length : Int)
            rotate_left
            · rw [if_neg c25] at H; exact absurd H (by simp)
            rw [if_pos c25] at H
            have c25b0 : decide ((ji23) < (t226.length : Int)) = true := decide_eq_true c25
            clear c25
            obtain ⟨ji26, hji26⟩ : ∃ j_ : Int, (wrap64 (x12_1 + 1)) = j_ := ⟨_, rfl⟩
            replace H : (if 0 ≤ (ji26) then (if (ji26) < ((rd_L7 t226 (ji23)).length : Int) then (if x11_1 < (t226.length : Int) then (if x12_1 < ((rd_L7 t226 x11_1).length : Int) then (siglumref08_Path.j3 kj12 a0 a1 t219 t220 t226 x10_1 x11_1 x12_1 true ((rd (rd_L7 t226 (ji23)) (ji26)) == (rd (rd_L7 t226 x11_1) x12_1))) else (none)) else (none)) else (none)) else (none)) = some (r1, r2) := by first | (rw [hji26] at H; exact H) | (simp only [hji26] at H ⊢; exact H)
            (try rw [hji26] at A21)
            have hji26w : (IntKind.i64.wrap (x12_1 + 1)) = ji26 := (i64_w _).trans hji26
            by_cases c27 : 0 ≤ (ji26)
            rotate_left
            · rw [if_neg c27] at H; exact absurd H (by simp)
            rw [if_pos c27] at H
            have c27b0 : decide (0 ≤ (ji26)) = true := decide_eq_true c27
            clear c27
            by_cases c28 : (ji26) < ((rd_L7 t226 (ji23)).length : Int)
            rotate_left
            · rw [if_neg c28] at H; exact absurd H (by simp)
            rw [if_pos c28] at H
            have c28b0 : decide ((ji26) < ((rd_L7 t226 (ji23)).length : Int)) = true := decide_eq_true c28
            clear c28
            by_cases c29 : x11_1 < (t226.length : Int)
            rotate_left
            · rw [if_neg c29] at H; exact absurd H (by simp)
            rw [if_pos c29] at H
            have c29b0 : decide (x11_1 < (t226.length : Int)) = true := decide_eq_true c29
            clear c29
            by_cases c30 : x12_1 < ((rd_L7 t226 x11_1).length : Int)
            rotate_left
            · rw [if_neg c30] at H; exact absurd H (by simp)
            rw [if_pos c30] at H
            have c30b0 : decide (x12_1 < ((rd_L7 t226 x11_1).length : Int)) = true := decide_eq_true c30
            clear c30
            have H' := Aside0.mk H
            clear H
            try go_wp2
            have n0_ := Aside0.mk (Kd.R_drew HO_6.out)
            have n1_ := Aside0.mk (Kd.R_drew HO_7.out)
            have n2_ := Aside0.mk (Kd.S_drew HO_9.out)
            have n3_ := Aside0.mk (Kd.R_drew HO_10.out)
            have n4_ := Aside0.mk (below_drew1 HB.out)
            clear HO_6
            clear HO_7
            clear HO_9
            clear HO_10
            clear HB
            have HO_6 := n0_
            have HO_7 := n1_
            have HO_9 := n2_
            have HO_10 := n3_
            have HB := n4_
            clear n0_ n1_ n2_ n3_ n4_
            have p229 : 0 ≤ (x11_1 : Int) := of_decide_eq_true (by assumption)
            have q229 : x11_1 < (t219.length : Int) := of_decide_eq_true (by assumption)
            obtain ⟨ad229, e229, hx229_0, hx229_1, hx229_2, hx229_3, hx229_4⟩ := at_T75 (Kd.R_reads' HO_6.out).2.2 x11_1 p229 q229
            cases e229
            replace p229 := eq_true p229
            replace q229 := eq_true q229
            have p230 : 0 ≤ (x12_1 : Int) := of_decide_eq_true (by assumption)
            have q230 : x12_1 < (t220.length : Int) := of_decide_eq_true (by assumption)
            obtain ⟨ad230, e230, hx230_0, hx230_1, hx230_2, hx230_3, hx230_4⟩ := at_T75 (Kd.R_reads' HO_7.out).2.2 x12_1 p230 q230
            cases e230
            replace p230 := eq_true p230
            replace q230 := eq_true q230
            have p232 : 0 ≤ ((ji23) : Int) := of_decide_eq_true (by assumption)
            have q232 : (ji23) < (t226.length : Int) := of_decide_eq_true (by assumption)
            obtain ⟨Aq232, cq232, eq232⟩ := Kd.S_slice HO_9.out
            (first | subst eq232 | (injection eq232 with f1_ f2_ f3_; have f4_ := f1_.symm; have f5_ := f3_.symm; clear f1_ f2_ f3_; subst f4_; subst f5_))
            obtain ⟨ad232, A232_0, c232_0, e232, hx232_0, hl232_0, hi232_0⟩ := at_L7 (Kd.S_reads' HO_9.out).2.2 (ji23) p232 q232
            cases e232
            obtain ⟨ce232, hce232, hMe232, hcc232⟩ := Kd.S_get HO_9.out [] (ji23) p232 (by first | exact q232 | exact of_decide_eq_true (by assumption) | (have e_ := (Kd.S_reads' HO_9.out).1; omega))
            obtain ⟨ve232_0, rfl, ge232_0⟩ := hMe232
            have hv232_0 := hcc232 0 _ rfl
            rw [Nat.add_zero, show ((Kd.slice 3 (Kd.int .i64))).sz = 1 from rfl, Nat.mul_one] at hv232_0
            replace hv232_0 := Option.some.inj (hv232_0.symm.trans hx232_0)
            rw [hv232_0] at ge232_0
            have HL232_0 := Aside0.mk (show Kd.R (Kd.int .i64) 3 _ _ _ _ (rd_L7 t226 (ji23)) from ge232_0)
            clear hv232_0 ge232_0
            clear hcc232 hce232
            have HR232_0 := Aside0.mk hi232_0
            have HC232_0 := Aside0.mk hl232_0
            clear hi232_0 hl232_0
            replace p232 := eq_true p232
            replace q232 := eq_true q232
            have p234 : 0 ≤ (x11_1 : Int) := of_decide_eq_true (by assumption)
            have q234 : x11_1 < (t226.length : Int) := of_decide_eq_true (by assumption)
            obtain ⟨ad234, A234_0, c234_0, e234, hx234_0, hl234_0, hi234_0⟩ := at_L7 (Kd.S_reads' HO_9.out).2.2 x11_1 p234 q234
            obtain rfl : ad232 = ad234 := (by injection e234)
            obtain ⟨ce234, hce234, hMe234, hcc234⟩ := Kd.S_get HO_9.out [] x11_1 p234 (by first | exact q234 | exact of_decide_eq_true (by assumption) | (have e_ := (Kd.S_reads' HO_9.out).1; omega))
            obtain ⟨ve234_0, rfl, ge234_0⟩ := hMe234
            have hv234_0 := hcc234 0 _ rfl
            rw [Nat.add_zero, show ((Kd.slice 3 (Kd.int .i64))).sz = 1 from rfl, Nat.mul_one] at hv234_0
            replace hv234_0 := Option.some.inj (hv234_0.symm.trans hx234_0)
            rw [hv234_0] at ge234_0
            have HL234_0 := Aside0.mk (show Kd.R (Kd.int .i64) 3 _ _ _ _ (rd_L7 t226 x11_1) from ge234_0)
            clear hv234_0 ge234_0
            clear hcc234 hce234
            have HR234_0 := Aside0.mk hi234_0
            have HC234_0 := Aside0.mk hl234_0
            clear hi234_0 hl234_0
            replace p234 := eq_true p234
            replace q234 := eq_true q234
            have p233 : 0 ≤ ((ji26) : Int) := of_decide_eq_true (by assumption)
            have q233 : (ji26) < ((rd_L7 t226 (ji23)).length : Int) := of_decide_eq_true (by assumption)
            obtain ⟨ad233, e233, hx233_0⟩ := Kd.at_int (by repeat (first | (with_reducible exact HR232_0.out) | (with_reducible refine Kd.C_alloc ?_ _) | (with_reducible refine Kd.C_drewN ?_ _) | (with_reducible refine Kd.C_drew ?_) | exact HR232_0.out)) (ji26) p233 q233
            cases e233
            replace p233 := eq_true p233
            replace q233 := eq_true q233
            have p235 : 0 ≤ (x12_1 : Int) := of_decide_eq_true (by assumption)
            have q235 : x12_1 < ((rd_L7 t226 x11_1).length : Int) := of_decide_eq_true (by assumption)
            obtain ⟨ad235, e235, hx235_0⟩ := Kd.at_int (by repeat (first | (with_reducible exact HR234_0.out) | (with_reducible refine Kd.C_alloc ?_ _) | (with_reducible refine Kd.C_drewN ?_ _) | (with_reducible refine Kd.C_drew ?_) | exact HR234_0.out)) x12_1 p235 q235
            cases e235
            replace p235 := eq_true p235
            replace q235 := eq_true q235
            refine start_ (n := 32) (S := fun w' => w'.cell? (ad229.add ((x11_1).toNat * 5)) = some (.int .i64 ((rd_T75 t219 x11_1).f0)) ∧ w'.cell? ⟨(ad229.add ((x11_1).toNat * 5)).block, (ad229.add ((x11_1).toNat * 5)).off + 1, none⟩ = some (.int .i64 ((rd_T75 t219 x11_1).f1)) ∧ w'.cell? ⟨(ad229.add ((x11_1).toNat * 5)).block, (ad229.add ((x11_1).toNat * 5)).off + 2, none⟩ = some (.int .i32 ((rd_T75 t219 x11_1).f2)) ∧ w'.cell? ⟨(ad229.add ((x11_1).toNat * 5)).block, (ad229.add ((x11_1).toNat * 5)).off + 3, none⟩ = some (.bool ((rd_T75 t219 x11_1).f3)) ∧ w'.cell? ⟨(ad229.add ((x11_1).toNat * 5)).block, (ad229.add ((x11_1).toNat * 5)).off + 4, none⟩ = some (.int .u8 ((rd_T75 t219 x11_1).f4)) ∧ w'.cell? (ad230.add ((x12_1).toNat * 5)) = some (.int .i64 ((rd_T75 t220 x12_1).f0)) ∧ w'.cell? ⟨(ad230.add ((x12_1).toNat * 5)).block, (ad230.add ((x12_1).toNat * 5)).off + 1, none⟩ = some (.int .i64 ((rd_T75 t220 x12_1).f1)) ∧ w'.cell? ⟨(ad230.add ((x12_1).toNat * 5)).block, (ad230.add ((x12_1).toNat * 5)).off + 2, none⟩ = some (.int .i32 ((rd_T75 t220 x12_1).f2)) ∧ w'.cell? ⟨(ad230.add ((x12_1).toNat * 5)).block, (ad230.add ((x12_1).toNat * 5)).off + 3, none⟩ = some (.bool ((rd_T75 t220 x12_1).f3)) ∧ w'.cell? ⟨(ad230.add ((x12_1).toNat * 5)).block, (ad230.add ((x12_1).toNat * 5)).off + 4, none⟩ = some (.int .u8 ((rd_T75 t220 x12_1).f4)) ∧ w'.cell? (ad232.add ((ji23)).toNat) = some (.slice (some ad233) (rd_L7 t226 (ji23)).length c232_0) ∧ w'.cell? (ad233.add ((ji26)).toNat) = some (.int .i64 (rd (rd_L7 t226 (ji23)) (ji26))) ∧ w'.cell? (ad232.add (x11_1).toNat) = some (.slice (some ad235) (rd_L7 t226 x11_1).length c234_0) ∧ w'.cell? (ad235.add (x12_1).toNat) = some (.int .i64 (rd (rd_L7 t226 x11_1) x12_1))) (ds := []) #[false,false,false,false,false,false,false,false,false,false,false,false,false,false,false,false,false,false,false,false,false,false,false,false,false,false,false,false,false,false,false,false] (by kernel_rfl) rfl rfl ⟨hx229_0, hx229_1, hx229_2, hx229_3, hx229_4, hx230_0, hx230_1, hx230_2, hx230_3, hx230_4, hx232_0, hx233_0, hx234_0, hx235_0⟩ (fun hHeld => ?_); refine with_tabW siglumref08_Path.tab12 siglumref08_Path.bits12 (fun HT_ HW_ => ?_)
            generalize wc.drew = w31 at HO_6 HO_7 HO_9 HO_10 HB HL232_0 HL234_0 HR232_0 HR234_0 hx229_0 hx229_1 hx229_2 hx229_3 hx229_4 hx230_0 hx230_1 hx230_2 hx230_3 hx230_4 hx232_0 hx234_0 hHeld ⊢
            refine pure_ (i := 0) (N := some 59) (v := ?_) (a' := ?_) #[true,false,false,false,false,false,false,false,false,false,false,false,false,false,false,false,false,false,false,false,false,false,false,false,false,false,false,false,false,false,false,false] rfl rfl (any_of HT_.out (by kernel_rfl)) (fun _ _ _ h => h) (Or.inl ⟨by rfl, ?_⟩) ?_ ?_; rotate_left; (· intro w'; go_simp; with_reducible rfl); rotate_left; (· simp only [Act.put,List.setIfInBounds_toArray,List.set_cons_zero,List.set_cons_succ,i64_w,i32_w]; rfl)
            refine pure_ (i := 1) (N := some 60) (v := ?_) (a' := ?_) #[true,true,false,false,false,false,false,false,false,false,false,false,false,false,false,false,false,false,false,false,false,false,false,false,false,false,false,false,false,false,false,false] rfl rfl (any_of HT_.out (by kernel_rfl)) (fun _ _ _ h => h) (Or.inl ⟨by rfl, ?_⟩) ?_ ?_; rotate_left; (· intro w'; go_simp; with_reducible rfl); rotate_left; (· simp only [Act.put,List.setIfInBounds_toArray,List.set_cons_zero,List.set_cons_succ,i64_w,i32_w]; rfl)
            refine pure_ (i := 2) (N := some 61) (v := ?_) (a' := ?_) #[true,true,true,false,false,false,false,false,false,false,false,false,false,false,false,false,false,false,false,false,false,false,false,false,false,false,false,false,false,false,false,false] rfl rfl (any_of HT_.out (by kernel_rfl)) (fun _ _ _ h => h) (Or.inl ⟨by rfl, ?_⟩) ?_ ?_; rotate_left; (· intro w'; go_simp; with_reducible rfl); rotate_left; (· simp only [Act.put,List.setIfInBounds_toArray,List.set_cons_zero,List.set_cons_succ,i64_w,i32_w]; rfl)
            refine pure_ (i := 3) (N := some 62) (v := ?_) (a' := ?_) #[true,true,true,true,false,false,false,false,false,false,false,false,false,false,false,false,false,false,false,false,false,false,false,false,false,false,false,false,false,false,false,false] rfl rfl (any_of HT_.out (by kernel_rfl)) (fun _ _ _ h => h) (Or.inl ⟨by rfl, ?_⟩) ?_ ?_; rotate_left; (· intro w'; go_simp; with_reducible rfl); rotate_left; (· simp only [Act.put,List.setIfInBounds_toArray,List.set_cons_zero,List.set_cons_succ,i64_w,i32_w]; rfl)
            refine pure_ (i := 4) (N := some 63) (v := ?_) (a' := ?_) #[true,true,true,true,true,false,false,false,false,false,false,false,false,false,false,false,false,false,false,false,false,false,false,false,false,false,false,false,false,false,false,false] rfl rfl (any_of HT_.out (by kernel_rfl)) (fun _ _ _ h => h) (Or.inl ⟨by rfl, ?_⟩) ?_ ?_; rotate_left; (· intro w'; go_simp; with_reducible rfl); rotate_left; (· simp only [Act.put,List.setIfInBounds_toArray,List.set_cons_zero,List.set_cons_succ,i64_w,i32_w]; rfl)
            refine pure_ (i := 6) (N := some 65) (v := ?_) (a' := ?_) #[true,true,true,true,true,false,true,false,false,false,false,false,false,false,false,false,false,false,false,false,false,false,false,false,false,false,false,false,false,false,false,false] rfl rfl (any_of HT_.out (by kernel_rfl)) (fun _ _ _ h => h) (Or.inl ⟨by rfl, ?_⟩) ?_ ?_; rotate_left; (· intro w'; go_simp; with_reducible rfl); rotate_left; (· simp only [Act.put,List.setIfInBounds_toArray,List.set_cons_zero,List.set_cons_succ,i64_w,i32_w]; rfl)
            refine pure_ (i := 7) (N := some 66) (v := ?_) (a' := ?_) #[true,true,true,true,true,false,true,true,false,false,false,false,false,false,false,false,false,false,false,false,false,false,false,false,false,false,false,false,false,false,false,false] rfl rfl (any_of HT_.out (by kernel_rfl)) (fun _ _ _ h => h) (Or.inl ⟨by rfl, ?_⟩) ?_ ?_; rotate_left; (· intro w'; go_simp; with_reducible rfl); rotate_left; (· simp only [Act.put,List.setIfInBounds_toArray,List.set_cons_zero,List.set_cons_succ,i64_w,i32_w]; rfl)
            refine pure_ (i := 8) (N := some 67) (v := ?_) (a' := ?_) #[true,true,true,true,true,false,true,true,true,false,false,false,false,false,false,false,false,false,false,false,false,false,false,false,false,false,false,false,false,false,false,false] rfl rfl (any_of HT_.out (by kernel_rfl)) (fun _ _ _ h => h) (Or.inl ⟨by rfl, ?_⟩) ?_ ?_; rotate_left; (· intro w'; go_simp; with_reducible rfl); rotate_left; (· simp only [Act.put,List.setIfInBounds_toArray,List.set_cons_zero,List.set_cons_succ,i64_w,i32_w]; rfl)
            refine take_ (i := 5) (N := some 64) (v := ?_) (a' := ?_) #[true,true,true,true,true,true,true,true,true,false,false,false,false,false,false,false,false,false,false,false,false,false,false,false,false,false,false,false,false,false,false,false] rfl rfl (take_ofW HT_.out HW_.out (by kernel_rfl)) (fun _ _ _ h => h) (Or.inl ⟨by rfl, ?_⟩) hHeld ?_ ?_; rotate_left; (· rintro w' ⟨s0, s1, s2, s3, s4, s5, s6, s7, s8, s9, s10, s11, s12, s13⟩; go_simp; with_reducible rfl); rotate_left; (· simp only [Act.put,List.setIfInBounds_toArray,List.set_cons_zero,List.set_cons_succ,i64_w,i32_w]; rfl)
            refine take_ (i := 9) (N := some 68) (v := ?_) (a' := ?_) #[true,true,true,true,true,true,true,true,true,true,false,false,false,false,false,false,false,false,false,false,false,false,false,false,false,false,false,false,false,false,false,false] rfl rfl (take_ofW HT_.out HW_.out (by kernel_rfl)) (fun _ _ _ h => h) (Or.inl ⟨by rfl, ?_⟩) hHeld ?_ ?_; rotate_left; (· rintro w' ⟨s0, s1, s2, s3, s4, s5, s6, s7, s8, s9, s10, s11, s12, s13⟩; go_simp; with_reducible rfl); rotate_left; (· simp only [Act.put,List.setIfInBounds_toArray,List.set_cons_zero,List.set_cons_succ,i64_w,i32_w]; rfl)
            refine one_ (i := 10) (N := some 69) #[true,true,true,true,true,true,true,true,true,true,true,false,false,false,false,false,false,false,false,false,false,false,false,false,false,false,false,false,false,false,false,false] rfl rfl (one_of HT_.out (by kernel_rfl)) (by decide) (fun K hK => ?_)
            refine goes_ Tryd.func37 (by kernel_rfl) rfl #[.agg #[.int .i64 ((rd_T75 t219 x11_1).f0), .int .i64 ((rd_T75 t219 x11_1).f1), .int .i32 ((rd_T75 t219 x11_1).f2), .bool ((rd_T75 t219 x11_1).f3), .int .u8 ((rd_T75 t219 x11_1).f4)], .agg #[.int .i64 ((rd_T75 t220 x12_1).f0), .int .i64 ((rd_T75 t220 x12_1).f1), .int .i32 ((rd_T75 t220 x12_1).f2), .bool ((rd_T75 t220 x12_1).f3), .int .u8 ((rd_T75 t220 x12_1).f4)]] (by rfl) rfl rfl (by (try simp only [List.map_toArray, List.map_cons, List.map_nil]); first | done | rfl | (simp only [List.length_drop, List.length_take]; rfl)) ?_
            with_reducible refine (siglumref08_Same.calls ((rd_T75 t219 x11_1).f0) ((rd_T75 t219 x11_1).f1) ((rd_T75 t219 x11_1).f2) ((rd_T75 t219 x11_1).f3) ((rd_T75 t219 x11_1).f4) ((rd_T75 t220 x12_1).f0) ((rd_T75 t220 x12_1).f1) ((rd_T75 t220 x12_1).f2) ((rd_T75 t220 x12_1).f3) ((rd_T75 t220 x12_1).f4) true _ A21.out).mono ?_
            rintro e w32 ⟨rfl, hb⟩
            have HS0_ := (hb.cell (World.block_lt_of_cell? _ _ (hHeld.1))).trans (hHeld.1)
            have HS1_ := (hb.cell (World.block_lt_of_cell? _ _ (hHeld.2.1))).trans (hHeld.2.1)
            have HS2_ := (hb.cell (World.block_lt_of_cell? _ _ (hHeld.2.2.1))).trans (hHeld.2.2.1)
            have HS3_ := (hb.cell (World.block_lt_of_cell? _ _ (hHeld.2.2.2.1))).trans (hHeld.2.2.2.1)
            have HS4_ := (hb.cell (World.block_lt_of_cell? _ _ (hHeld.2.2.2.2.1))).trans (hHeld.2.2.2.2.1)
            have HS5_ := (hb.cell (World.block_lt_of_cell? _ _ (hHeld.2.2.2.2.2.1))).trans (hHeld.2.2.2.2.2.1)
            have HS6_ := (hb.cell (World.block_lt_of_cell? _ _ (hHeld.2.2.2.2.2.2.1))).trans (hHeld.2.2.2.2.2.2.1)
            have HS7_ := (hb.cell (World.block_lt_of_cell? _ _ (hHeld.2.2.2.2.2.2.2.1))).trans (hHeld.2.2.2.2.2.2.2.1)
            have HS8_ := (hb.cell (World.block_lt_of_cell? _ _ (hHeld.2.2.2.2.2.2.2.2.1))).trans (hHeld.2.2.2.2.2.2.2.2.1)
            have HS9_ := (hb.cell (World.block_lt_of_cell? _ _ (hHeld.2.2.2.2.2.2.2.2.2.1))).trans (hHeld.2.2.2.2.2.2.2.2.2.1)
            have HS10_ := (hb.cell (World.block_lt_of_cell? _ _ (hHeld.2.2.2.2.2.2.2.2.2.2.1))).trans (hHeld.2.2.2.2.2.2.2.2.2.2.1)
            have HS11_ := (hb.cell (World.block_lt_of_cell? _ _ (hHeld.2.2.2.2.2.2.2.2.2.2.2.1))).trans (hHeld.2.2.2.2.2.2.2.2.2.2.2.1)
            have HS12_ := (hb.cell (World.block_lt_of_cell? _ _ (hHeld.2.2.2.2.2.2.2.2.2.2.2.2.1))).trans (hHeld.2.2.2.2.2.2.2.2.2.2.2.2.1)
            have HS13_ := (hb.cell (World.block_lt_of_cell? _ _ (hHeld.2.2.2.2.2.2.2.2.2.2.2.2.2))).trans (hHeld.2.2.2.2.2.2.2.2.2.2.2.2.2)
            refine ⟨_, rfl, ?_⟩
            have n0_ := Aside0.mk (Kd.R_below (by (with_reducible repeat (first | apply Kd.R_alloc | apply Kd.R_drewN | apply Kd.R_drew)); exact HO_6.out) hb)
            have n1_ := Aside0.mk (Kd.R_below (by (with_reducible repeat (first | apply Kd.R_alloc | apply Kd.R_drewN | apply Kd.R_drew)); exact HO_7.out) hb)
            have n2_ := Aside0.mk (Kd.S_below (by (with_reducible repeat (first | apply Kd.S_alloc | apply Kd.S_drewN | apply Kd.S_drew)); exact HO_9.out) hb)
            have n3_ := Aside0.mk (Kd.R_below (by (with_reducible repeat (first | apply Kd.R_alloc | apply Kd.R_drewN | apply Kd.R_drew)); exact HO_10.out) hb)
            have n4_ := Aside0.mk (below_step (by repeat (first | (with_reducible first | exact HB.out | apply below_alloc | apply pw_below_drewN | apply below_drew1) | exact HB.out)) hb)
            clear HO_6
            clear HO_7
            clear HO_9
            clear HO_10
            clear HB
            have HO_6 := n0_
            have HO_7 := n1_
            have HO_9 := n2_
            have HO_10 := n3_
            have HB := n4_
            clear n0_ n1_ n2_ n3_ n4_
            (try clear hb); (try clear hb2); (try clear hk); (try clear hi)
            obtain ⟨Ao33, co33, eo33⟩ := Kd.S_slice HO_9.out
            (first | subst eo33 | (injection eo33 with f1_ f2_ f3_; have f4_ := f1_.symm; have f5_ := f3_.symm; clear f1_ f2_ f3_; subst f4_; subst f5_))
            refine hK.out _ _ ⟨HS0_, HS1_, HS2_, HS3_, HS4_, HS5_, HS6_, HS7_, HS8_, HS9_, HS10_, HS11_, HS12_, HS13_⟩ (fun hHeld => ?_)
            clear hK K
            refine norm_ (a' := ?_) ?_ ?_
            rotate_left
            ·
             show Act.put _ (some 69) _ = _
             simp only [Act.put,List.setIfInBounds_toArray,List.set_cons_zero,List.set_cons_succ,i64_w,i32_w]
             rfl
            refine pure_ (i := 11) (N := some 70) (v := ?_) (a' := ?_) #[true,true,true,true,true,true,true,true,true,true,true,true,false,false,false,false,false,false,false,false,false,false,false,false,false,false,false,false,false,false,false,false] rfl rfl (any_of HT_.out (by kernel_rfl)) (fun _ _ _ h => h) (Or.inl ⟨by rfl, ?_⟩) ?_ ?_; rotate_left; (· intro w'; go_simp; with_reducible rfl); rotate_left; (· simp only [Act.put,List.setIfInBounds_toArray,List.set_cons_zero,List.set_cons_succ,i64_w,i32_w]; rfl)
            refine pure_ (i := 12) (N := some 71) (v := ?_) (a' := ?_) #[true,true,true,true,true,true,true,true,true,true,true,true,true,false,false,false,false,false,false,false,false,false,false,false,false,false,false,false,false,false,false,false] rfl rfl (any_of HT_.out (by kernel_rfl)) (fun _ _ _ h => h) (Or.inl ⟨by rfl, ?_⟩) ?_ ?_; rotate_left; (· intro w'; go_simp; with_reducible rfl); rotate_left; (· simp only [Act.put,List.setIfInBounds_toArray,List.set_cons_zero,List.set_cons_succ,i64_w,i32_w]; rfl)
            refine pure_ (i := 13) (N := some 72) (v := ?_) (a' := ?_) #[true,true,true,true,true,true,true,true,true,true,true,true,true,true,false,false,false,false,false,false,false,false,false,false,false,false,false,false,false,false,false,false] rfl rfl (any_of HT_.out (by kernel_rfl)) (fun _ _ _ h => h) (Or.inl ⟨by rfl, ?_⟩) ?_ ?_; rotate_left; (· intro w'; go_simp; with_reducible rfl); rotate_left; (· simp only [Act.put,List.setIfInBounds_toArray,List.set_cons_zero,List.set_cons_succ,i64_w,i32_w]; rfl)
            refine pure_ (i := 14) (N := some 73) (v := ?_) (a' := ?_) #[true,true,true,true,true,true,true,true,true,true,true,true,true,true,true,false,false,false,false,false,false,false,false,false,false,false,false,false,false,false,false,false] rfl rfl (any_of HT_.out (by kernel_rfl)) (fun _ _ _ h => h) (Or.inl ⟨by rfl, ?_⟩) ?_ ?_; rotate_left; (· intro w'; go_simp; with_reducible rfl); rotate_left; (· simp only [Act.put,List.setIfInBounds_toArray,List.set_cons_zero,List.set_cons_succ,i64_w,i32_w]; rfl)
            refine pure_ (i := 15) (N := some 74) (v := ?_) (a' := ?_) #[true,true,true,true,true,true,true,true,true,true,true,true,true,true,true,true,false,false,false,false,false,false,false,false,false,false,false,false,false,false,false,false] rfl rfl (any_of HT_.out (by kernel_rfl)) (fun _ _ _ h => h) (Or.inl ⟨by rfl, ?_⟩) ?_ ?_; rotate_left; (· intro w'; go_simp; with_reducible rfl); rotate_left; (· simp only [Act.put,List.setIfInBounds_toArray,List.set_cons_zero,List.set_cons_succ,i64_w,i32_w]; rfl)
            refine pure_ (i := 16) (N := some 75) (v := ?_) (a' := ?_) #[true,true,true,true,true,true,true,true,true,true,true,true,true,true,true,true,true,false,false,false,false,false,false,false,false,false,false,false,false,false,false,false] rfl rfl (any_of HT_.out (by kernel_rfl)) (fun _ _ _ h => h) (Or.inl ⟨by rfl, ?_⟩) ?_ ?_; rotate_left; (· intro w'; go_simp; with_reducible rfl); rotate_left; (· simp only [Act.put,List.setIfInBounds_toArray,List.set_cons_zero,List.set_cons_succ,i64_w,i32_w]; rfl)
            refine pure_ (i := 18) (N := some 77) (v := ?_) (a' := ?_) #[true,true,true,true,true,true,true,true,true,true,true,true,true,true,true,true,true,false,true,false,false,false,false,false,false,false,false,false,false,false,false,false] rfl rfl (any_of HT_.out (by kernel_rfl)) (fun _ _ _ h => h) (Or.inl ⟨by rfl, ?_⟩) ?_ ?_; rotate_left; (· intro w'; go_simp; with_reducible rfl); rotate_left; (· simp only [Act.put,List.setIfInBounds_toArray,List.set_cons_zero,List.set_cons_succ,i64_w,i32_w]; rfl)
            refine pure_ (i := 19) (N := some 78) (v := ?_) (a' := ?_) #[true,true,true,true,true,true,true,true,true,true,true,true,true,true,true,true,true,false,true,true,false,false,false,false,false,false,false,false,false,false,false,false] rfl rfl (any_of HT_.out (by kernel_rfl)) (fun _ _ _ h => h) (Or.inl ⟨by rfl, ?_⟩) ?_ ?_; rotate_left; (· intro w'; go_simp; with_reducible rfl); rotate_left; (· simp only [Act.put,List.setIfInBounds_toArray,List.set_cons_zero,List.set_cons_succ,i64_w,i32_w]; rfl)
            refine pure_ (i := 22) (N := some 81) (v := ?_) (a' := ?_) #[true,true,true,true,true,true,true,true,true,true,true,true,true,true,true,true,true,false,true,true,false,false,true,false,false,false,false,false,false,false,false,false] rfl rfl (any_of HT_.out (by kernel_rfl)) (fun _ _ _ h => h) (Or.inl ⟨by rfl, ?_⟩) ?_ ?_; rotate_left; (· intro w'; go_simp; with_reducible rfl); rotate_left; (· simp only [Act.put,List.setIfInBounds_toArray,List.set_cons_zero,List.set_cons_succ,i64_w,i32_w]; rfl)
            refine pure_ (i := 23) (N := some 82) (v := ?_) (a' := ?_) #[true,true,true,true,true,true,true,true,true,true,true,true,true,true,true,true,true,false,true,true,false,false,true,true,false,false,false,false,false,false,false,false] rfl rfl (any_of HT_.out (by kernel_rfl)) (fun _ _ _ h => h) (Or.inl ⟨by rfl, ?_⟩) ?_ ?_; rotate_left; (· intro w'; go_simp; with_reducible rfl); rotate_left; (· simp only [Act.put,List.setIfInBounds_toArray,List.set_cons_zero,List.set_cons_succ,i64_w,i32_w]; rfl)
            refine pure_ (i := 24) (N := some 83) (v := ?_) (a' := ?_) #[true,true,true,true,true,true,true,true,true,true,true,true,true,true,true,true,true,false,true,true,false,false,true,true,true,false,false,false,false,false,false,false] rfl rfl (any_of HT_.out (by kernel_rfl)) (fun _ _ _ h => h) (Or.inl ⟨by rfl, ?_⟩) ?_ ?_; rotate_left; (· intro w'; go_simp; with_reducible rfl); rotate_left; (· simp only [Act.put,List.setIfInBounds_toArray,List.set_cons_zero,List.set_cons_succ,i64_w,i32_w]; rfl)
            refine pure_ (i := 26) (N := some 85) (v := ?_) (a' := ?_) #[true,true,true,true,true,true,true,true,true,true,true,true,true,true,true,true,true,false,true,true,false,false,true,true,true,false,true,false,false,false,false,false] rfl rfl (any_of HT_.out (by kernel_rfl)) (fun _ _ _ h => h) (Or.inl ⟨by rfl, ?_⟩) ?_ ?_; rotate_left; (· intro w'; go_simp; with_reducible rfl); rotate_left; (· simp only [Act.put,List.setIfInBounds_toArray,List.set_cons_zero,List.set_cons_succ,i64_w,i32_w]; rfl)
            refine take_ (i := 17) (N := some 76) (v := ?_) (a' := ?_) #[true,true,true,true,true,true,true,true,true,true,true,true,true,true,true,true,true,true,true,true,false,false,true,true,true,false,true,false,false,false,false,false] rfl rfl (take_ofW HT_.out HW_.out (by kernel_rfl)) (fun _ _ _ h => h) (Or.inl ⟨by rfl, ?_⟩) hHeld ?_ ?_; rotate_left; (· rintro w' ⟨s0, s1, s2, s3, s4, s5, s6, s7, s8, s9, s10, s11, s12, s13⟩; go_simp; with_reducible rfl); rotate_left; (· simp only [Act.put,List.setIfInBounds_toArray,List.set_cons_zero,List.set_cons_succ,i64_w,i32_w]; rfl)
            refine pure_ (i := 20) (N := some 79) (v := ?_) (a' := ?_) #[true,true,true,true,true,true,true,true,true,true,true,true,true,true,true,true,true,true,true,true,true,false,true,true,true,false,true,false,false,false,false,false] rfl rfl (any_of HT_.out (by kernel_rfl)) (fun _ _ _ h => h) (Or.inl ⟨by rfl, ?_⟩) ?_ ?_; rotate_left; (· intro w'; go_simp; with_reducible rfl); rotate_left; (· simp only [Act.put,List.setIfInBounds_toArray,List.set_cons_zero,List.set_cons_succ,i64_w,i32_w]; rfl)
            refine take_ (i := 21) (N := some 80) (v := ?_) (a' := ?_) #[true,true,true,true,true,true,true,true,true,true,true,true,true,true,true,true,true,true,true,true,true,true,true,true,true,false,true,false,false,false,false,false] rfl rfl (take_ofW HT_.out HW_.out (by kernel_rfl)) (fun _ _ _ h => h) (Or.inl ⟨by rfl, ?_⟩) hHeld ?_ ?_; rotate_left; (· rintro w' ⟨s0, s1, s2, s3, s4, s5, s6, s7, s8, s9, s10, s11, s12, s13⟩; go_simp; with_reducible rfl); rotate_left; (· simp only [Act.put,List.setIfInBounds_toArray,List.set_cons_zero,List.set_cons_succ,i64_w,i32_w]; rfl)
            refine take_ (i := 25) (N := some 84) (v := ?_) (a' := ?_) #[true,true,true,true,true,true,true,true,true,true,true,true,true,true,true,true,true,true,true,true,true,true,true,true,true,true,true,false,false,false,false,false] rfl rfl (take_ofW HT_.out HW_.out (by kernel_rfl)) (fun _ _ _ h => h) (Or.inl ⟨by rfl, ?_⟩) hHeld ?_ ?_; rotate_left; (· rintro w' ⟨s0, s1, s2, s3, s4, s5, s6, s7, s8, s9, s10, s11, s12, s13⟩; go_simp; with_reducible rfl); rotate_left; (· simp only [Act.put,List.setIfInBounds_toArray,List.set_cons_zero,List.set_cons_succ,i64_w,i32_w]; rfl)
            refine pure_ (i := 27) (N := some 86) (v := ?_) (a' := ?_) #[true,true,true,true,true,true,true,true,true,true,true,true,true,true,true,true,true,true,true,true,true,true,true,true,true,true,true,true,false,false,false,false] rfl rfl (any_of HT_.out (by kernel_rfl)) (fun _ _ _ h => h) (Or.inl ⟨by rfl, ?_⟩) ?_ ?_; rotate_left; (· intro w'; go_simp; with_reducible rfl); rotate_left; (· simp only [Act.put,List.setIfInBounds_toArray,List.set_cons_zero,List.set_cons_succ,i64_w,i32_w]; rfl)
            refine take_ (i := 28) (N := some 87) (v := ?_) (a' := ?_) #[true,true,true,true,true,true,true,true,true,true,true,true,true,true,true,true,true,true,true,true,true,true,true,true,true,true,true,true,true,false,false,false] rfl rfl (take_ofW HT_.out HW_.out (by kernel_rfl)) (fun _ _ _ h => h) (Or.inl ⟨by rfl, ?_⟩) hHeld ?_ ?_; rotate_left; (· rintro w' ⟨s0, s1, s2, s3, s4, s5, s6, s7, s8, s9, s10, s11, s12, s13⟩; go_simp; with_reducible rfl); rotate_left; (· simp only [Act.put,List.setIfInBounds_toArray,List.set_cons_zero,List.set_cons_succ,i64_w,i32_w]; rfl)
            refine pure_ (i := 29) (N := some 88) (v := ?_) (a' := ?_) #[true,true,true,true,true,true,true,true,true,true,true,true,true,true,true,true,true,true,true,true,true,true,true,true,true,true,true,true,true,true,false,false] rfl rfl (any_of HT_.out (by kernel_rfl)) (fun _ _ _ h => h) (Or.inl ⟨by rfl, ?_⟩) ?_ ?_; rotate_left; (· intro w'; go_simp; with_reducible rfl); rotate_left; (· simp only [Act.put,List.setIfInBounds_toArray,List.set_cons_zero,List.set_cons_succ,i64_w,i32_w]; rfl)
            refine pure_ (i := 30) (N := some 89) (v := ?_) (a' := ?_) #[true,true,true,true,true,true,true,true,true,true,true,true,true,true,true,true,true,true,true,true,true,true,true,true,true,true,true,true,true,true,true,false] rfl rfl (any_of HT_.out (by kernel_rfl)) (fun _ _ _ h => h) (Or.inl ⟨by rfl, ?_⟩) ?_ ?_; rotate_left; (· intro w'; go_simp; with_reducible rfl); rotate_left; (· simp only [Act.put,List.setIfInBounds_toArray,List.set_cons_zero,List.set_cons_succ,i64_w,i32_w]; rfl)
            refine pure_ (i := 31) (N := some 58) (v := ?_) (a' := ?_) #[true,true,true,true,true,true,true,true,true,true,true,true,true,true,true,true,true,true,true,true,true,true,true,true,true,true,true,true,true,true,true,true] rfl rfl (any_of HT_.out (by kernel_rfl)) (fun _ _ _ h => h) (Or.inl ⟨by rfl, ?_⟩) ?_ ?_; rotate_left; (· intro w'; go_simp; with_reducible rfl); rotate_left; (· simp only [Act.put,List.setIfInBounds_toArray,List.set_cons_zero,List.set_cons_succ,i64_w,i32_w]; rfl)
            refine done_ (done_of HT_.out (by kernel_rfl)) ?_
            try go_wp2
            (try simp only [← hji23, ← hji26])
            (try (have H2_ := H'.out; simp only [← hji23, ← hji26] at H2_; clear H'; have H' := Aside0.mk H2_; clear H2_))
            go_meet
            case rel => exact ⟨_, (((rd (rd_L7 t226 (ji23)) (ji26)) == (rd (rd_L7 t226 x11_1) x12_1))), (by first | rfl | (simp; done) | (simp only [← hji23, ← hji26] <;> (first | rfl | simp)) | (simp [*]; done)), (by first | exact H' | (refine ⟨?_⟩; simp only [← hji23, ← hji26]; exact H'.out)), ⟨by have := HK1.out; have := HJ9.out; have := HJ12.out; first | omega | exact Nat.le_refl _⟩, ⟨by (with_reducible repeat (first | apply Kd.R_alloc | apply Kd.R_drewN | apply Kd.R_drew)); exact HO_6.out⟩, ⟨by (with_reducible repeat (first | apply Kd.R_alloc | apply Kd.R_drewN | apply Kd.R_drew)); exact HO_7.out⟩, ⟨by (with_reducible repeat (first | apply Kd.S_alloc | apply Kd.S_drewN | apply Kd.S_drew)); exact HO_9.out⟩, ⟨by (with_reducible repeat (first | apply Kd.R_alloc | apply Kd.R_drewN | apply Kd.R_drew)); exact HO_10.out⟩, ⟨by repeat (first | (with_reducible first | exact HB.out | apply below_alloc | apply pw_below_drewN | apply below_drew1) | exact HB.out)⟩⟩
           ·
            replace c22 := Bool.eq_false_iff.mpr c22
            subst c22
            have H1 : (siglumref08_Path.j3 kj12 a0 a1 t219 t220 t226 x10_1 x11_1 x12_1 true false) = some (r1, r2) := by rw [if_neg (show ¬ (false = true) by decide)] at H; exact H
            clear H
            have H := H1
            clear H1
            have H' := Aside0.mk H
            clear H
            try go_wp2
            have n0_ := Aside0.mk (Kd.R_drew HO_6.out)
            have n1_ := Aside0.mk (Kd.R_drew HO_7.out)
            have n2_ := Aside0.mk (Kd.S_drew HO_9.out)
            have n3_ := Aside0.mk (Kd.R_drew HO_10.out)
            have n4_ := Aside0.mk (below_drew1 HB.out)
            clear HO_6
            clear HO_7
            clear HO_9
            clear HO_10
            clear HB
            have HO_6 := n0_
            have HO_7 := n1_
            have HO_9 := n2_
            have HO_10 := n3_
            have HB := n4_
            clear n0_ n1_ n2_ n3_ n4_
            have p229 : 0 ≤ (x11_1 : Int) := of_decide_eq_true (by assumption)
            have q229 : x11_1 < (t219.length : Int) := of_decide_eq_true (by assumption)
            obtain ⟨ad229, e229, hx229_0, hx229_1, hx229_2, hx229_3, hx229_4⟩ := at_T75 (Kd.R_reads' HO_6.out).2.2 x11_1 p229 q229
            cases e229
            replace p229 := eq_true p229
            replace q229 := eq_true q229
            have p230 : 0 ≤ (x12_1 : Int) := of_decide_eq_true (by assumption)
            have q230 : x12_1 < (t220.length : Int) := of_decide_eq_true (by assumption)
            obtain ⟨ad230, e230, hx230_0, hx230_1, hx230_2, hx230_3, hx230_4⟩ := at_T75 (Kd.R_reads' HO_7.out).2.2 x12_1 p230 q230
            cases e230
            replace p230 := eq_true p230
            replace q230 := eq_true q230
            refine start_ (n := 32) (S := fun w' => w'.cell? (ad229.add ((x11_1).toNat * 5)) = some (.int .i64 ((rd_T75 t219 x11_1).f0)) ∧ w'.cell? ⟨(ad229.add ((x11_1).toNat * 5)).block, (ad229.add ((x11_1).toNat * 5)).off + 1, none⟩ = some (.int .i64 ((rd_T75 t219 x11_1).f1)) ∧ w'.cell? ⟨(ad229.add ((x11_1).toNat * 5)).block, (ad229.add ((x11_1).toNat * 5)).off + 2, none⟩ = some (.int .i32 ((rd_T75 t219 x11_1).f2)) ∧ w'.cell? ⟨(ad229.add ((x11_1).toNat * 5)).block, (ad229.add ((x11_1).toNat * 5)).off + 3, none⟩ = some (.bool ((rd_T75 t219 x11_1).f3)) ∧ w'.cell? ⟨(ad229.add ((x11_1).toNat * 5)).block, (ad229.add ((x11_1).toNat * 5)).off + 4, none⟩ = some (.int .u8 ((rd_T75 t219 x11_1).f4)) ∧ w'.cell? (ad230.add ((x12_1).toNat * 5)) = some (.int .i64 ((rd_T75 t220 x12_1).f0)) ∧ w'.cell? ⟨(ad230.add ((x12_1).toNat * 5)).block, (ad230.add ((x12_1).toNat * 5)).off + 1, none⟩ = some (.int .i64 ((rd_T75 t220 x12_1).f1)) ∧ w'.cell? ⟨(ad230.add ((x12_1).toNat * 5)).block, (ad230.add ((x12_1).toNat * 5)).off + 2, none⟩ = some (.int .i32 ((rd_T75 t220 x12_1).f2)) ∧ w'.cell? ⟨(ad230.add ((x12_1).toNat * 5)).block, (ad230.add ((x12_1).toNat * 5)).off + 3, none⟩ = some (.bool ((rd_T75 t220 x12_1).f3)) ∧ w'.cell? ⟨(ad230.add ((x12_1).toNat * 5)).block, (ad230.add ((x12_1).toNat * 5)).off + 4, none⟩ = some (.int .u8 ((rd_T75 t220 x12_1).f4))) (ds := []) #[false,false,false,false,false,false,false,false,false,false,false,false,false,false,false,false,false,false,false,false,false,false,false,false,false,false,false,false,false,false,false,false] (by kernel_rfl) rfl rfl ⟨hx229_0, hx229_1, hx229_2, hx229_3, hx229_4, hx230_0, hx230_1, hx230_2, hx230_3, hx230_4⟩ (fun hHeld => ?_); refine with_tabW siglumref08_Path.tab12 siglumref08_Path.bits12 (fun HT_ HW_ => ?_)
            generalize wc.drew = w34 at HO_6 HO_7 HO_9 HO_10 HB hx229_0 hx229_1 hx229_2 hx229_3 hx229_4 hx230_0 hx230_1 hx230_2 hx230_3 hx230_4 hHeld ⊢
            refine pure_ (i := 0) (N := some 59) (v := ?_) (a' := ?_) #[true,false,false,false,false,false,false,false,false,false,false,false,false,false,false,false,false,false,false,false,false,false,false,false,false,false,false,false,false,false,false,false] rfl rfl (any_of HT_.out (by kernel_rfl)) (fun _ _ _ h => h) (Or.inl ⟨by rfl, ?_⟩) ?_ ?_; rotate_left; (· intro w'; go_simp; with_reducible rfl); rotate_left; (· simp only [Act.put,List.setIfInBounds_toArray,List.set_cons_zero,List.set_cons_succ,i64_w,i32_w]; rfl)
            refine pure_ (i := 1) (N := some 60) (v := ?_) (a' := ?_) #[true,true,false,false,false,false,false,false,false,false,false,false,false,false,false,false,false,false,false,false,false,false,false,false,false,false,false,false,false,false,false,false] rfl rfl (any_of HT_.out (by kernel_rfl)) (fun _ _ _ h => h) (Or.inl ⟨by rfl, ?_⟩) ?_ ?_; rotate_left; (· intro w'; go_simp; with_reducible rfl); rotate_left; (· simp only [Act.put,List.setIfInBounds_toArray,List.set_cons_zero,List.set_cons_succ,i64_w,i32_w]; rfl)
            refine pure_ (i := 2) (N := some 61) (v := ?_) (a' := ?_) #[true,true,true,false,false,false,false,false,false,false,false,false,false,false,false,false,false,false,false,false,false,false,false,false,false,false,false,false,false,false,false,false] rfl rfl (any_of HT_.out (by kernel_rfl)) (fun _ _ _ h => h) (Or.inl ⟨by rfl, ?_⟩) ?_ ?_; rotate_left; (· intro w'; go_simp; with_reducible rfl); rotate_left; (· simp only [Act.put,List.setIfInBounds_toArray,List.set_cons_zero,List.set_cons_succ,i64_w,i32_w]; rfl)
            refine pure_ (i := 3) (N := some 62) (v := ?_) (a' := ?_) #[true,true,true,true,false,false,false,false,false,false,false,false,false,false,false,false,false,false,false,false,false,false,false,false,false,false,false,false,false,false,false,false] rfl rfl (any_of HT_.out (by kernel_rfl)) (fun _ _ _ h => h) (Or.inl ⟨by rfl, ?_⟩) ?_ ?_; rotate_left; (· intro w'; go_simp; with_reducible rfl); rotate_left; (· simp only [Act.put,List.setIfInBounds_toArray,List.set_cons_zero,List.set_cons_succ,i64_w,i32_w]; rfl)
            refine pure_ (i := 4) (N := some 63) (v := ?_) (a' := ?_) #[true,true,true,true,true,false,false,false,false,false,false,false,false,false,false,false,false,false,false,false,false,false,false,false,false,false,false,false,false,false,false,false] rfl rfl (any_of HT_.out (by kernel_rfl)) (fun _ _ _ h => h) (Or.inl ⟨by rfl, ?_⟩) ?_ ?_; rotate_left; (· intro w'; go_simp; with_reducible rfl); rotate_left; (· simp only [Act.put,List.setIfInBounds_toArray,List.set_cons_zero,List.set_cons_succ,i64_w,i32_w]; rfl)
            refine pure_ (i := 6) (N := some 65) (v := ?_) (a' := ?_) #[true,true,true,true,true,false,true,false,false,false,false,false,false,false,false,false,false,false,false,false,false,false,false,false,false,false,false,false,false,false,false,false] rfl rfl (any_of HT_.out (by kernel_rfl)) (fun _ _ _ h => h) (Or.inl ⟨by rfl, ?_⟩) ?_ ?_; rotate_left; (· intro w'; go_simp; with_reducible rfl); rotate_left; (· simp only [Act.put,List.setIfInBounds_toArray,List.set_cons_zero,List.set_cons_succ,i64_w,i32_w]; rfl)
            refine pure_ (i := 7) (N := some 66) (v := ?_) (a' := ?_) #[true,true,true,true,true,false,true,true,false,false,false,false,false,false,false,false,false,false,false,false,false,false,false,false,false,false,false,false,false,false,false,false] rfl rfl (any_of HT_.out (by kernel_rfl)) (fun _ _ _ h => h) (Or.inl ⟨by rfl, ?_⟩) ?_ ?_; rotate_left; (· intro w'; go_simp; with_reducible rfl); rotate_left; (· simp only [Act.put,List.setIfInBounds_toArray,List.set_cons_zero,List.set_cons_succ,i64_w,i32_w]; rfl)
            refine pure_ (i := 8) (N := some 67) (v := ?_) (a' := ?_) #[true,true,true,true,true,false,true,true,true,false,false,false,false,false,false,false,false,false,false,false,false,false,false,false,false,false,false,false,false,false,false,false] rfl rfl (any_of HT_.out (by kernel_rfl)) (fun _ _ _ h => h) (Or.inl ⟨by rfl, ?_⟩) ?_ ?_; rotate_left; (· intro w'; go_simp; with_reducible rfl); rotate_left; (· simp only [Act.put,List.setIfInBounds_toArray,List.set_cons_zero,List.set_cons_succ,i64_w,i32_w]; rfl)
            refine take_ (i := 5) (N := some 64) (v := ?_) (a' := ?_) #[true,true,true,true,true,true,true,true,true,false,false,false,false,false,false,false,false,false,false,false,false,false,false,false,false,false,false,false,false,false,false,false] rfl rfl (take_ofW HT_.out HW_.out (by kernel_rfl)) (fun _ _ _ h => h) (Or.inl ⟨by rfl, ?_⟩) hHeld ?_ ?_; rotate_left; (· rintro w' ⟨s0, s1, s2, s3, s4, s5, s6, s7, s8, s9⟩; go_simp; with_reducible rfl); rotate_left; (· simp only [Act.put,List.setIfInBounds_toArray,List.set_cons_zero,List.set_cons_succ,i64_w,i32_w]; rfl)
            refine take_ (i := 9) (N := some 68) (v := ?_) (a' := ?_) #[true,true,true,true,true,true,true,true,true,true,false,false,false,false,false,false,false,false,false,false,false,false,false,false,false,false,false,false,false,false,false,false] rfl rfl (take_ofW HT_.out HW_.out (by kernel_rfl)) (fun _ _ _ h => h) (Or.inl ⟨by rfl, ?_⟩) hHeld ?_ ?_; rotate_left; (· rintro w' ⟨s0, s1, s2, s3, s4, s5, s6, s7, s8, s9⟩; go_simp; with_reducible rfl); rotate_left; (· simp only [Act.put,List.setIfInBounds_toArray,List.set_cons_zero,List.set_cons_succ,i64_w,i32_w]; rfl)
            refine one_ (i := 10) (N := some 69) #[true,true,true,true,true,true,true,true,true,true,true,false,false,false,false,false,false,false,false,false,false,false,false,false,false,false,false,false,false,false,false,false] rfl rfl (one_of HT_.out (by kernel_rfl)) (by decide) (fun K hK => ?_)
            refine goes_ Tryd.func37 (by kernel_rfl) rfl #[.agg #[.int .i64 ((rd_T75 t219 x11_1).f0), .int .i64 ((rd_T75 t219 x11_1).f1), .int .i32 ((rd_T75 t219 x11_1).f2), .bool ((rd_T75 t219 x11_1).f3), .int .u8 ((rd_T75 t219 x11_1).f4)], .agg #[.int .i64 ((rd_T75 t220 x12_1).f0), .int .i64 ((rd_T75 t220 x12_1).f1), .int .i32 ((rd_T75 t220 x12_1).f2), .bool ((rd_T75 t220 x12_1).f3), .int .u8 ((rd_T75 t220 x12_1).f4)]] (by rfl) rfl rfl (by (try simp only [List.map_toArray, List.map_cons, List.map_nil]); first | done | rfl | (simp only [List.length_drop, List.length_take]; rfl)) ?_
            with_reducible refine (siglumref08_Same.calls ((rd_T75 t219 x11_1).f0) ((rd_T75 t219 x11_1).f1) ((rd_T75 t219 x11_1).f2) ((rd_T75 t219 x11_1).f3) ((rd_T75 t219 x11_1).f4) ((rd_T75 t220 x12_1).f0) ((rd_T75 t220 x12_1).f1) ((rd_T75 t220 x12_1).f2) ((rd_T75 t220 x12_1).f3) ((rd_T75 t220 x12_1).f4) false _ A21.out).mono ?_
            rintro e w35 ⟨rfl, hb⟩
            have HS0_ := (hb.cell (World.block_lt_of_cell? _ _ (hHeld.1))).trans (hHeld.1)
            have HS1_ := (hb.cell (World.block_lt_of_cell? _ _ (hHeld.2.1))).trans (hHeld.2.1)
            have HS2_ := (hb.cell (World.block_lt_of_cell? _ _ (hHeld.2.2.1))).trans (hHeld.2.2.1)
            have HS3_ := (hb.cell (World.block_lt_of_cell? _ _ (hHeld.2.2.2.1))).trans (hHeld.2.2.2.1)
            have HS4_ := (hb.cell (World.block_lt_of_cell? _ _ (hHeld.2.2.2.2.1))).trans (hHeld.2.2.2.2.1)
            have HS5_ := (hb.cell (World.block_lt_of_cell? _ _ (hHeld.2.2.2.2.2.1))).trans (hHeld.2.2.2.2.2.1)
            have HS6_ := (hb.cell (World.block_lt_of_cell? _ _ (hHeld.2.2.2.2.2.2.1))).trans (hHeld.2.2.2.2.2.2.1)
            have HS7_ := (hb.cell (World.block_lt_of_cell? _ _ (hHeld.2.2.2.2.2.2.2.1))).trans (hHeld.2.2.2.2.2.2.2.1)
            have HS8_ := (hb.cell (World.block_lt_of_cell? _ _ (hHeld.2.2.2.2.2.2.2.2.1))).trans (hHeld.2.2.2.2.2.2.2.2.1)
            have HS9_ := (hb.cell (World.block_lt_of_cell? _ _ (hHeld.2.2.2.2.2.2.2.2.2))).trans (hHeld.2.2.2.2.2.2.2.2.2)
            refine ⟨_, rfl, ?_⟩
            have n0_ := Aside0.mk (Kd.R_below (by (with_reducible repeat (first | apply Kd.R_alloc | apply Kd.R_drewN | apply Kd.R_drew)); exact HO_6.out) hb)
            have n1_ := Aside0.mk (Kd.R_below (by (with_reducible repeat (first | apply Kd.R_alloc | apply Kd.R_drewN | apply Kd.R_drew)); exact HO_7.out) hb)
            have n2_ := Aside0.mk (Kd.S_below (by (with_reducible repeat (first | apply Kd.S_alloc | apply Kd.S_drewN | apply Kd.S_drew)); exact HO_9.out) hb)
            have n3_ := Aside0.mk (Kd.R_below (by (with_reducible repeat (first | apply Kd.R_alloc | apply Kd.R_drewN | apply Kd.R_drew)); exact HO_10.out) hb)
            have n4_ := Aside0.mk (below_step (by repeat (first | (with_reducible first | exact HB.out | apply below_alloc | apply pw_below_drewN | apply below_drew1) | exact HB.out)) hb)
            clear HO_6
            clear HO_7
            clear HO_9
            clear HO_10
            clear HB
            have HO_6 := n0_
            have HO_7 := n1_
            have HO_9 := n2_
            have HO_10 := n3_
            have HB := n4_
            clear n0_ n1_ n2_ n3_ n4_
            (try clear hb); (try clear hb2); (try clear hk); (try clear hi)
            refine hK.out _ _ ⟨HS0_, HS1_, HS2_, HS3_, HS4_, HS5_, HS6_, HS7_, HS8_, HS9_⟩ (fun hHeld => ?_)
            clear hK K
            refine norm_ (a' := ?_) ?_ ?_
            rotate_left
            ·
             show Act.put _ (some 69) _ = _
             simp only [Act.put,List.setIfInBounds_toArray,List.set_cons_zero,List.set_cons_succ,i64_w,i32_w]
             rfl
            refine pure_ (i := 11) (N := some 70) (v := ?_) (a' := ?_) #[true,true,true,true,true,true,true,true,true,true,true,true,false,false,false,false,false,false,false,false,false,false,false,false,false,false,false,false,false,false,false,false] rfl rfl (any_of HT_.out (by kernel_rfl)) (fun _ _ _ h => h) (Or.inl ⟨by rfl, ?_⟩) ?_ ?_; rotate_left; (· intro w'; go_simp; with_reducible rfl); rotate_left; (· simp only [Act.put,List.setIfInBounds_toArray,List.set_cons_zero,List.set_cons_succ,i64_w,i32_w]; rfl)
            refine pure_ (i := 12) (N := some 71) (v := ?_) (a' := ?_) #[true,true,true,true,true,true,true,true,true,true,true,true,true,false,false,false,false,false,false,false,false,false,false,false,false,false,false,false,false,false,false,false] rfl rfl (any_of HT_.out (by kernel_rfl)) (fun _ _ _ h => h) (Or.inl ⟨by rfl, ?_⟩) ?_ ?_; rotate_left; (· intro w'; go_simp; with_reducible rfl); rotate_left; (· simp only [Act.put,List.setIfInBounds_toArray,List.set_cons_zero,List.set_cons_succ,i64_w,i32_w]; rfl)
            refine pure_ (i := 13) (N := some 72) (v := undef) (a' := ?_) #[true,true,true,true,true,true,true,true,true,true,true,true,true,true,false,false,false,false,false,false,false,false,false,false,false,false,false,false,false,false,false,false] rfl rfl (any_of HT_.out (by kernel_rfl)) (fun _ _ _ h => h) (Or.inr ⟨by rfl, rfl⟩) ?_ ?_
            rotate_left
            ·
             simp only [Act.put,List.setIfInBounds_toArray,List.set_cons_zero,List.set_cons_succ,i64_w,i32_w]
             rfl
            refine pure_ (i := 14) (N := some 73) (v := undef) (a' := ?_) #[true,true,true,true,true,true,true,true,true,true,true,true,true,true,true,false,false,false,false,false,false,false,false,false,false,false,false,false,false,false,false,false] rfl rfl (any_of HT_.out (by kernel_rfl)) (fun _ _ _ h => h) (Or.inr ⟨by rfl, rfl⟩) ?_ ?_
            rotate_left
            ·
             simp only [Act.put,List.setIfInBounds_toArray,List.set_cons_zero,List.set_cons_succ,i64_w,i32_w]
             rfl
            refine pure_ (i := 15) (N := some 74) (v := undef) (a' := ?_) #[true,true,true,true,true,true,true,true,true,true,true,true,true,true,true,true,false,false,false,false,false,false,false,false,false,false,false,false,false,false,false,false] rfl rfl (any_of HT_.out (by kernel_rfl)) (fun _ _ _ h => h) (Or.inr ⟨by rfl, rfl⟩) ?_ ?_
            rotate_left
            ·
             simp only [Act.put,List.setIfInBounds_toArray,List.set_cons_zero,List.set_cons_succ,i64_w,i32_w]
             rfl
            refine pure_ (i := 16) (N := some 75) (v := undef) (a' := ?_) #[true,true,true,true,true,true,true,true,true,true,true,true,true,true,true,true,true,false,false,false,false,false,false,false,false,false,false,false,false,false,false,false] rfl rfl (any_of HT_.out (by kernel_rfl)) (fun _ _ _ h => h) (Or.inr ⟨by rfl, rfl⟩) ?_ ?_
            rotate_left
            ·
             simp only [Act.put,List.setIfInBounds_toArray,List.set_cons_zero,List.set_cons_succ,i64_w,i32_w]
             rfl
            refine pure_ (i := 17) (N := some 76) (v := undef) (a' := ?_) #[true,true,true,true,true,true,true,true,true,true,true,true,true,true,true,true,true,true,false,false,false,false,false,false,false,false,false,false,false,false,false,false] rfl rfl (any_of HT_.out (by kernel_rfl)) (fun _ _ _ h => h) (Or.inr ⟨by rfl, rfl⟩) ?_ ?_
            rotate_left
            ·
             simp only [Act.put,List.setIfInBounds_toArray,List.set_cons_zero,List.set_cons_succ,i64_w,i32_w]
             rfl
            refine pure_ (i := 18) (N := some 77) (v := undef) (a' := ?_) #[true,true,true,true,true,true,true,true,true,true,true,true,true,true,true,true,true,true,true,false,false,false,false,false,false,false,false,false,false,false,false,false] rfl rfl (any_of HT_.out (by kernel_rfl)) (fun _ _ _ h => h) (Or.inr ⟨by rfl, rfl⟩) ?_ ?_
            rotate_left
            ·
             simp only [Act.put,List.setIfInBounds_toArray,List.set_cons_zero,List.set_cons_succ,i64_w,i32_w]
             rfl
            refine pure_ (i := 19) (N := some 78) (v := undef) (a' := ?_) #[true,true,true,true,true,true,true,true,true,true,true,true,true,true,true,true,true,true,true,true,false,false,false,false,false,false,false,false,false,false,false,false] rfl rfl (any_of HT_.out (by kernel_rfl)) (fun _ _ _ h => h) (Or.inr ⟨by rfl, rfl⟩) ?_ ?_
            rotate_left
            ·
             simp only [Act.put,List.setIfInBounds_toArray,List.set_cons_zero,List.set_cons_succ,i64_w,i32_w]
             rfl
            refine pure_ (i := 20) (N := some 79) (v := undef) (a' := ?_) #[true,true,true,true,true,true,true,true,true,true,true,true,true,true,true,true,true,true,true,true,true,false,false,false,false,false,false,false,false,false,false,false] rfl rfl (any_of HT_.out (by kernel_rfl)) (fun _ _ _ h => h) (Or.inr ⟨by rfl, rfl⟩) ?_ ?_
            rotate_left
            ·
             simp only [Act.put,List.setIfInBounds_toArray,List.set_cons_zero,List.set_cons_succ,i64_w,i32_w]
             rfl
            refine pure_ (i := 21) (N := some 80) (v := undef) (a' := ?_) #[true,true,true,true,true,true,true,true,true,true,true,true,true,true,true,true,true,true,true,true,true,true,false,false,false,false,false,false,false,false,false,false] rfl rfl (any_of HT_.out (by kernel_rfl)) (fun _ _ _ h => h) (Or.inr ⟨by rfl, rfl⟩) ?_ ?_
            rotate_left
            ·
             simp only [Act.put,List.setIfInBounds_toArray,List.set_cons_zero,List.set_cons_succ,i64_w,i32_w]
             rfl
            refine pure_ (i := 22) (N := some 81) (v := undef) (a' := ?_) #[true,true,true,true,true,true,true,true,true,true,true,true,true,true,true,true,true,true,true,true,true,true,true,false,false,false,false,false,false,false,false,false] rfl rfl (any_of HT_.out (by kernel_rfl)) (fun _ _ _ h => h) (Or.inr ⟨by rfl, rfl⟩) ?_ ?_
            rotate_left
            ·
             simp only [Act.put,List.setIfInBounds_toArray,List.set_cons_zero,List.set_cons_succ,i64_w,i32_w]
             rfl
            refine pure_ (i := 23) (N := some 82) (v := undef) (a' := ?_) #[true,true,true,true,true,true,true,true,true,true,true,true,true,true,true,true,true,true,true,true,true,true,true,true,false,false,false,false,false,false,false,false] rfl rfl (any_of HT_.out (by kernel_rfl)) (fun _ _ _ h => h) (Or.inr ⟨by rfl, rfl⟩) ?_ ?_
            rotate_left
            ·
             simp only [Act.put,List.setIfInBounds_toArray,List.set_cons_zero,List.set_cons_succ,i64_w,i32_w]
             rfl
            refine pure_ (i := 24) (N := some 83) (v := undef) (a' := ?_) #[true,true,true,true,true,true,true,true,true,true,true,true,true,true,true,true,true,true,true,true,true,true,true,true,true,false,false,false,false,false,false,false] rfl rfl (any_of HT_.out (by kernel_rfl)) (fun _ _ _ h => h) (Or.inr ⟨by rfl, rfl⟩) ?_ ?_
            rotate_left
            ·
             simp only [Act.put,List.setIfInBounds_toArray,List.set_cons_zero,List.set_cons_succ,i64_w,i32_w]
             rfl
            refine pure_ (i := 25) (N := some 84) (v := undef) (a' := ?_) #[true,true,true,true,true,true,true,true,true,true,true,true,true,true,true,true,true,true,true,true,true,true,true,true,true,true,false,false,false,false,false,false] rfl rfl (any_of HT_.out (by kernel_rfl)) (fun _ _ _ h => h) (Or.inr ⟨by rfl, rfl⟩) ?_ ?_
            rotate_left
            ·
             simp only [Act.put,List.setIfInBounds_toArray,List.set_cons_zero,List.set_cons_succ,i64_w,i32_w]
             rfl
            refine pure_ (i := 26) (N := some 85) (v := undef) (a' := ?_) #[true,true,true,true,true,true,true,true,true,true,true,true,true,true,true,true,true,true,true,true,true,true,true,true,true,true,true,false,false,false,false,false] rfl rfl (any_of HT_.out (by kernel_rfl)) (fun _ _ _ h => h) (Or.inr ⟨by rfl, rfl⟩) ?_ ?_
            rotate_left
            ·
             simp only [Act.put,List.setIfInBounds_toArray,List.set_cons_zero,List.set_cons_succ,i64_w,i32_w]
             rfl
            refine pure_ (i := 27) (N := some 86) (v := undef) (a' := ?_) #[true,true,true,true,true,true,true,true,true,true,true,true,true,true,true,true,true,true,true,true,true,true,true,true,true,true,true,true,false,false,false,false] rfl rfl (any_of HT_.out (by kernel_rfl)) (fun _ _ _ h => h) (Or.inr ⟨by rfl, rfl⟩) ?_ ?_
            rotate_left
            ·
             simp only [Act.put,List.setIfInBounds_toArray,List.set_cons_zero,List.set_cons_succ,i64_w,i32_w]
             rfl
            refine pure_ (i := 28) (N := some 87) (v := undef) (a' := ?_) #[true,true,true,true,true,true,true,true,true,true,true,true,true,true,true,true,true,true,true,true,true,true,true,true,true,true,true,true,true,false,false,false] rfl rfl (any_of HT_.out (by kernel_rfl)) (fun _ _ _ h => h) (Or.inr ⟨by rfl, rfl⟩) ?_ ?_
            rotate_left
            ·
             simp only [Act.put,List.setIfInBounds_toArray,List.set_cons_zero,List.set_cons_succ,i64_w,i32_w]
             rfl
            refine pure_ (i := 29) (N := some 88) (v := undef) (a' := ?_) #[true,true,true,true,true,true,true,true,true,true,true,true,true,true,true,true,true,true,true,true,true,true,true,true,true,true,true,true,true,true,false,false] rfl rfl (any_of HT_.out (by kernel_rfl)) (fun _ _ _ h => h) (Or.inr ⟨by rfl, rfl⟩) ?_ ?_
            rotate_left
            ·
             simp only [Act.put,List.setIfInBounds_toArray,List.set_cons_zero,List.set_cons_succ,i64_w,i32_w]
             rfl
            refine pure_ (i := 30) (N := some 89) (v := ?_) (a' := ?_) #[true,true,true,true,true,true,true,true,true,true,true,true,true,true,true,true,true,true,true,true,true,true,true,true,true,true,true,true,true,true,true,false] rfl rfl (any_of HT_.out (by kernel_rfl)) (fun _ _ _ h => h) (Or.inl ⟨by rfl, ?_⟩) ?_ ?_; rotate_left; (· intro w'; go_simp; with_reducible rfl); rotate_left; (· simp only [Act.put,List.setIfInBounds_toArray,List.set_cons_zero,List.set_cons_succ,i64_w,i32_w]; rfl)
            refine pure_ (i := 31) (N := some 58) (v := ?_) (a' := ?_) #[true,true,true,true,true,true,true,true,true,true,true,true,true,true,true,true,true,true,true,true,true,true,true,true,true,true,true,true,true,true,true,true] rfl rfl (any_of HT_.out (by kernel_rfl)) (fun _ _ _ h => h) (Or.inl ⟨by rfl, ?_⟩) ?_ ?_; rotate_left; (· intro w'; go_simp; with_reducible rfl); rotate_left; (· simp only [Act.put,List.setIfInBounds_toArray,List.set_cons_zero,List.set_cons_succ,i64_w,i32_w]; rfl)
            refine done_ (done_of HT_.out (by kernel_rfl)) ?_
            try go_wp2
            go_meet
            case rel => exact ⟨_, (false), (by first | rfl | (simp; done) | (simp [*]; done)), H', ⟨by have := HK1.out; have := HJ9.out; have := HJ12.out; first | omega | exact Nat.le_refl _⟩, ⟨by (with_reducible repeat (first | apply Kd.R_alloc | apply Kd.R_drewN | apply Kd.R_drew)); exact HO_6.out⟩, ⟨by (with_reducible repeat (first | apply Kd.R_alloc | apply Kd.R_drewN | apply Kd.R_drew)); exact HO_7.out⟩, ⟨by (with_reducible repeat (first | apply Kd.S_alloc | apply Kd.S_drewN | apply Kd.S_drew)); exact HO_9.out⟩, ⟨by (with_reducible repeat (first | apply Kd.R_alloc | apply Kd.R_drewN | apply Kd.R_drew)); exact HO_10.out⟩, ⟨by repeat (first | (with_reducible first | exact HB.out | apply below_alloc | apply pw_below_drewN | apply below_drew1) | exact HB.out)⟩⟩
          ·
           replace c16 := Bool.eq_false_iff.mpr c16
           subst c16
           have H1 : (siglumref08_Path.j3 kj12 a0 a1 t219 t220 t226 x10_1 x11_1 x12_1 false false) = some (r1, r2) := by rw [if_neg (show ¬ (false = true) by decide)] at H; exact H
           clear H
           have H := H1
           clear H1
           have H' := Aside0.mk H
           clear H
           try go_wp2
           have n0_ := Aside0.mk (Kd.R_drew HO_6.out)
           have n1_ := Aside0.mk (Kd.R_drew HO_7.out)
           have n2_ := Aside0.mk (Kd.S_drew HO_9.out)
           have n3_ := Aside0.mk (Kd.R_drew HO_10.out)
           have n4_ := Aside0.mk (below_drew1 HB.out)
           clear HO_6
           clear HO_7
           clear HO_9
           clear HO_10
           clear HB
           have HO_6 := n0_
           have HO_7 := n1_
           have HO_9 := n2_
           have HO_10 := n3_
           have HB := n4_
           clear n0_ n1_ n2_ n3_ n4_
           refine start_ (n := 32) (S := fun w' => True) (ds := []) #[false,false,false,false,false,false,false,false,false,false,false,false,false,false,false,false,false,false,false,false,false,false,false,false,false,false,false,false,false,false,false,false] (by kernel_rfl) rfl rfl trivial (fun hHeld => ?_); refine with_tabW siglumref08_Path.tab12 siglumref08_Path.bits12 (fun HT_ HW_ => ?_)
           generalize wc.drew = w36 at HO_6 HO_7 HO_9 HO_10 HB hHeld ⊢
           refine pure_ (i := 0) (N := some 59) (v := ?_) (a' := ?_) #[true,false,false,false,false,false,false,false,false,false,false,false,false,false,false,false,false,false,false,false,false,false,false,false,false,false,false,false,false,false,false,false] rfl rfl (any_of HT_.out (by kernel_rfl)) (fun _ _ _ h => h) (Or.inl ⟨by rfl, ?_⟩) ?_ ?_; rotate_left; (· intro w'; go_simp; with_reducible rfl); rotate_left; (· simp only [Act.put,List.setIfInBounds_toArray,List.set_cons_zero,List.set_cons_succ,i64_w,i32_w]; rfl)
           refine pure_ (i := 1) (N := some 60) (v := ?_) (a' := ?_) #[true,true,false,false,false,false,false,false,false,false,false,false,false,false,false,false,false,false,false,false,false,false,false,false,false,false,false,false,false,false,false,false] rfl rfl (any_of HT_.out (by kernel_rfl)) (fun _ _ _ h => h) (Or.inl ⟨by rfl, ?_⟩) ?_ ?_; rotate_left; (· intro w'; go_simp; with_reducible rfl); rotate_left; (· simp only [Act.put,List.setIfInBounds_toArray,List.set_cons_zero,List.set_cons_succ,i64_w,i32_w]; rfl)
           refine pure_ (i := 2) (N := some 61) (v := undef) (a' := ?_) #[true,true,true,false,false,false,false,false,false,false,false,false,false,false,false,false,false,false,false,false,false,false,false,false,false,false,false,false,false,false,false,false] rfl rfl (any_of HT_.out (by kernel_rfl)) (fun _ _ _ h => h) (Or.inr ⟨by rfl, rfl⟩) ?_ ?_
           rotate_left
           ·
            simp only [Act.put,List.setIfInBounds_toArray,List.set_cons_zero,List.set_cons_succ,i64_w,i32_w]
            rfl
           refine pure_ (i := 3) (N := some 62) (v := undef) (a' := ?_) #[true,true,true,true,false,false,false,false,false,false,false,false,false,false,false,false,false,false,false,false,false,false,false,false,false,false,false,false,false,false,false,false] rfl rfl (any_of HT_.out (by kernel_rfl)) (fun _ _ _ h => h) (Or.inr ⟨by rfl, rfl⟩) ?_ ?_
           rotate_left
           ·
            simp only [Act.put,List.setIfInBounds_toArray,List.set_cons_zero,List.set_cons_succ,i64_w,i32_w]
            rfl
           refine pure_ (i := 4) (N := some 63) (v := undef) (a' := ?_) #[true,true,true,true,true,false,false,false,false,false,false,false,false,false,false,false,false,false,false,false,false,false,false,false,false,false,false,false,false,false,false,false] rfl rfl (any_of HT_.out (by kernel_rfl)) (fun _ _ _ h => h) (Or.inr ⟨by rfl, rfl⟩) ?_ ?_
           rotate_left
           ·
            simp only [Act.put,List.setIfInBounds_toArray,List.set_cons_zero,List.set_cons_succ,i64_w,i32_w]
            rfl
           refine pure_ (i := 5) (N := some 64) (v := undef) (a' := ?_) #[true,true,true,true,true,true,false,false,false,false,false,false,false,false,false,false,false,false,false,false,false,false,false,false,false,false,false,false,false,false,false,false] rfl rfl (any_of HT_.out (by kernel_rfl)) (fun _ _ _ h => h) (Or.inr ⟨by rfl, rfl⟩) ?_ ?_
           rotate_left
           ·
            simp only [Act.put,List.setIfInBounds_toArray,List.set_cons_zero,List.set_cons_succ,i64_w,i32_w]
            rfl
           refine pure_ (i := 6) (N := some 65) (v := undef) (a' := ?_) #[true,true,true,true,true,true,true,false,false,false,false,false,false,false,false,false,false,false,false,false,false,false,false,false,false,false,false,false,false,false,false,false] rfl rfl (any_of HT_.out (by kernel_rfl)) (fun _ _ _ h => h) (Or.inr ⟨by rfl, rfl⟩) ?_ ?_
           rotate_left
           ·
            simp only [Act.put,List.setIfInBounds_toArray,List.set_cons_zero,List.set_cons_succ,i64_w,i32_w]
            rfl
           refine pure_ (i := 7) (N := some 66) (v := undef) (a' := ?_) #[true,true,true,true,true,true,true,true,false,false,false,false,false,false,false,false,false,false,false,false,false,false,false,false,false,false,false,false,false,false,false,false] rfl rfl (any_of HT_.out (by kernel_rfl)) (fun _ _ _ h => h) (Or.inr ⟨by rfl, rfl⟩) ?_ ?_
           rotate_left
           ·
            simp only [Act.put,List.setIfInBounds_toArray,List.set_cons_zero,List.set_cons_succ,i64_w,i32_w]
            rfl
           refine pure_ (i := 8) (N := some 67) (v := undef) (a' := ?_) #[true,true,true,true,true,true,true,true,true,false,false,false,false,false,false,false,false,false,false,false,false,false,false,false,false,false,false,false,false,false,false,false] rfl rfl (any_of HT_.out (by kernel_rfl)) (fun _ _ _ h => h) (Or.inr ⟨by rfl, rfl⟩) ?_ ?_
           rotate_left
           ·
            simp only [Act.put,List.setIfInBounds_toArray,List.set_cons_zero,List.set_cons_succ,i64_w,i32_w]
            rfl
           refine pure_ (i := 9) (N := some 68) (v := undef) (a' := ?_) #[true,true,true,true,true,true,true,true,true,true,false,false,false,false,false,false,false,false,false,false,false,false,false,false,false,false,false,false,false,false,false,false] rfl rfl (any_of HT_.out (by kernel_rfl)) (fun _ _ _ h => h) (Or.inr ⟨by rfl, rfl⟩) ?_ ?_
           rotate_left
           ·
            simp only [Act.put,List.setIfInBounds_toArray,List.set_cons_zero,List.set_cons_succ,i64_w,i32_w]
            rfl
           refine pure_ (i := 10) (N := some 69) (v := undef) (a' := ?_) #[true,true,true,true,true,true,true,true,true,true,true,false,false,false,false,false,false,false,false,false,false,false,false,false,false,false,false,false,false,false,false,false] rfl rfl (any_of HT_.out (by kernel_rfl)) (fun _ _ _ h => h) (Or.inr ⟨by rfl, rfl⟩) ?_ ?_
           rotate_left
           ·
            simp only [Act.put,List.setIfInBounds_toArray,List.set_cons_zero,List.set_cons_succ,i64_w,i32_w]
            rfl
           refine pure_ (i := 11) (N := some 70) (v := ?_) (a' := ?_) #[true,true,true,true,true,true,true,true,true,true,true,true,false,false,false,false,false,false,false,false,false,false,false,false,false,false,false,false,false,false,false,false] rfl rfl (any_of HT_.out (by kernel_rfl)) (fun _ _ _ h => h) (Or.inl ⟨by rfl, ?_⟩) ?_ ?_; rotate_left; (· intro w'; go_simp; with_reducible rfl); rotate_left; (· simp only [Act.put,List.setIfInBounds_toArray,List.set_cons_zero,List.set_cons_succ,i64_w,i32_w]; rfl)
           refine pure_ (i := 12) (N := some 71) (v := ?_) (a' := ?_) #[true,true,true,true,true,true,true,true,true,true,true,true,true,false,false,false,false,false,false,false,false,false,false,false,false,false,false,false,false,false,false,false] rfl rfl (any_of HT_.out (by kernel_rfl)) (fun _ _ _ h => h) (Or.inl ⟨by rfl, ?_⟩) ?_ ?_; rotate_left; (· intro w'; go_simp; with_reducible rfl); rotate_left; (· simp only [Act.put,List.setIfInBounds_toArray,List.set_cons_zero,List.set_cons_succ,i64_w,i32_w]; rfl)
           refine pure_ (i := 13) (N := some 72) (v := undef) (a' := ?_) #[true,true,true,true,true,true,true,true,true,true,true,true,true,true,false,false,false,false,false,false,false,false,false,false,false,false,false,false,false,false,false,false] rfl rfl (any_of HT_.out (by kernel_rfl)) (fun _ _ _ h => h) (Or.inr ⟨by rfl, rfl⟩) ?_ ?_
           rotate_left
           ·
            simp only [Act.put,List.setIfInBounds_toArray,List.set_cons_zero,List.set_cons_succ,i64_w,i32_w]
            rfl
           refine pure_ (i := 14) (N := some 73) (v := undef) (a' := ?_) #[true,true,true,true,true,true,true,true,true,true,true,true,true,true,true,false,false,false,false,false,false,false,false,false,false,false,false,false,false,false,false,false] rfl rfl (any_of HT_.out (by kernel_rfl)) (fun _ _ _ h => h) (Or.inr ⟨by rfl, rfl⟩) ?_ ?_
           rotate_left
           ·
            simp only [Act.put,List.setIfInBounds_toArray,List.set_cons_zero,List.set_cons_succ,i64_w,i32_w]
            rfl
           refine pure_ (i := 15) (N := some 74) (v := undef) (a' := ?_) #[true,true,true,true,true,true,true,true,true,true,true,true,true,true,true,true,false,false,false,false,false,false,false,false,false,false,false,false,false,false,false,false] rfl rfl (any_of HT_.out (by kernel_rfl)) (fun _ _ _ h => h) (Or.inr ⟨by rfl, rfl⟩) ?_ ?_
           rotate_left
           ·
            simp only [Act.put,List.setIfInBounds_toArray,List.set_cons_zero,List.set_cons_succ,i64_w,i32_w]
            rfl
           refine pure_ (i := 16) (N := some 75) (v := undef) (a' := ?_) #[true,true,true,true,true,true,true,true,true,true,true,true,true,true,true,true,true,false,false,false,false,false,false,false,false,false,false,false,false,false,false,false] rfl rfl (any_of HT_.out (by kernel_rfl)) (fun _ _ _ h => h) (Or.inr ⟨by rfl, rfl⟩) ?_ ?_
           rotate_left
           ·
            simp only [Act.put,List.setIfInBounds_toArray,List.set_cons_zero,List.set_cons_succ,i64_w,i32_w]
            rfl
           refine pure_ (i := 17) (N := some 76) (v := undef) (a' := ?_) #[true,true,true,true,true,true,true,true,true,true,true,true,true,true,true,true,true,true,false,false,false,false,false,false,false,false,false,false,false,false,false,false] rfl rfl (any_of HT_.out (by kernel_rfl)) (fun _ _ _ h => h) (Or.inr ⟨by rfl, rfl⟩) ?_ ?_
           rotate_left
           ·
            simp only [Act.put,List.setIfInBounds_toArray,List.set_cons_zero,List.set_cons_succ,i64_w,i32_w]
            rfl
           refine pure_ (i := 18) (N := some 77) (v := undef) (a' := ?_) #[true,true,true,true,true,true,true,true,true,true,true,true,true,true,true,true,true,true,true,false,false,false,false,false,false,false,false,false,false,false,false,false] rfl rfl (any_of HT_.out (by kernel_rfl)) (fun _ _ _ h => h) (Or.inr ⟨by rfl, rfl⟩) ?_ ?_
           rotate_left
           ·
            simp only [Act.put,List.setIfInBounds_toArray,List.set_cons_zero,List.set_cons_succ,i64_w,i32_w]
            rfl
           refine pure_ (i := 19) (N := some 78) (v := undef) (a' := ?_) #[true,true,true,true,true,true,true,true,true,true,true,true,true,true,true,true,true,true,true,true,false,false,false,false,false,false,false,false,false,false,false,false] rfl rfl (any_of HT_.out (by kernel_rfl)) (fun _ _ _ h => h) (Or.inr ⟨by rfl, rfl⟩) ?_ ?_
           rotate_left
           ·
            simp only [Act.put,List.setIfInBounds_toArray,List.set_cons_zero,List.set_cons_succ,i64_w,i32_w]
            rfl
           refine pure_ (i := 20) (N := some 79) (v := undef) (a' := ?_) #[true,true,true,true,true,true,true,true,true,true,true,true,true,true,true,true,true,true,true,true,true,false,false,false,false,false,false,false,false,false,false,false] rfl rfl (any_of HT_.out (by kernel_rfl)) (fun _ _ _ h => h) (Or.inr ⟨by rfl, rfl⟩) ?_ ?_
           rotate_left
           ·
            simp only [Act.put,List.setIfInBounds_toArray,List.set_cons_zero,List.set_cons_succ,i64_w,i32_w]
            rfl
           refine pure_ (i := 21) (N := some 80) (v := undef) (a' := ?_) #[true,true,true,true,true,true,true,true,true,true,true,true,true,true,true,true,true,true,true,true,true,true,false,false,false,false,false,false,false,false,false,false] rfl rfl (any_of HT_.out (by kernel_rfl)) (fun _ _ _ h => h) (Or.inr ⟨by rfl, rfl⟩) ?_ ?_
           rotate_left
           ·
            simp only [Act.put,List.setIfInBounds_toArray,List.set_cons_zero,List.set_cons_succ,i64_w,i32_w]
            rfl
           refine pure_ (i := 22) (N := some 81) (v := undef) (a' := ?_) #[true,true,true,true,true,true,true,true,true,true,true,true,true,true,true,true,true,true,true,true,true,true,true,false,false,false,false,false,false,false,false,false] rfl rfl (any_of HT_.out (by kernel_rfl)) (fun _ _ _ h => h) (Or.inr ⟨by rfl, rfl⟩) ?_ ?_
           rotate_left
           ·
            simp only [Act.put,List.setIfInBounds_toArray,List.set_cons_zero,List.set_cons_succ,i64_w,i32_w]
            rfl
           refine pure_ (i := 23) (N := some 82) (v := undef) (a' := ?_) #[true,true,true,true,true,true,true,true,true,true,true,true,true,true,true,true,true,true,true,true,true,true,true,true,false,false,false,false,false,false,false,false] rfl rfl (any_of HT_.out (by kernel_rfl)) (fun _ _ _ h => h) (Or.inr ⟨by rfl, rfl⟩) ?_ ?_
           rotate_left
           ·
            simp only [Act.put,List.setIfInBounds_toArray,List.set_cons_zero,List.set_cons_succ,i64_w,i32_w]
            rfl
           refine pure_ (i := 24) (N := some 83) (v := undef) (a' := ?_) #[true,true,true,true,true,true,true,true,true,true,true,true,true,true,true,true,true,true,true,true,true,true,true,true,true,false,false,false,false,false,false,false] rfl rfl (any_of HT_.out (by kernel_rfl)) (fun _ _ _ h => h) (Or.inr ⟨by rfl, rfl⟩) ?_ ?_
           rotate_left
           ·
            simp only [Act.put,List.setIfInBounds_toArray,List.set_cons_zero,List.set_cons_succ,i64_w,i32_w]
            rfl
           refine pure_ (i := 25) (N := some 84) (v := undef) (a' := ?_) #[true,true,true,true,true,true,true,true,true,true,true,true,true,true,true,true,true,true,true,true,true,true,true,true,true,true,false,false,false,false,false,false] rfl rfl (any_of HT_.out (by kernel_rfl)) (fun _ _ _ h => h) (Or.inr ⟨by rfl, rfl⟩) ?_ ?_
           rotate_left
           ·
            simp only [Act.put,List.setIfInBounds_toArray,List.set_cons_zero,List.set_cons_succ,i64_w,i32_w]
            rfl
           refine pure_ (i := 26) (N := some 85) (v := undef) (a' := ?_) #[true,true,true,true,true,true,true,true,true,true,true,true,true,true,true,true,true,true,true,true,true,true,true,true,true,true,true,false,false,false,false,false] rfl rfl (any_of HT_.out (by kernel_rfl)) (fun _ _ _ h => h) (Or.inr ⟨by rfl, rfl⟩) ?_ ?_
           rotate_left
           ·
            simp only [Act.put,List.setIfInBounds_toArray,List.set_cons_zero,List.set_cons_succ,i64_w,i32_w]
            rfl
           refine pure_ (i := 27) (N := some 86) (v := undef) (a' := ?_) #[true,true,true,true,true,true,true,true,true,true,true,true,true,true,true,true,true,true,true,true,true,true,true,true,true,true,true,true,false,false,false,false] rfl rfl (any_of HT_.out (by kernel_rfl)) (fun _ _ _ h => h) (Or.inr ⟨by rfl, rfl⟩) ?_ ?_
           rotate_left
           ·
            simp only [Act.put,List.setIfInBounds_toArray,List.set_cons_zero,List.set_cons_succ,i64_w,i32_w]
            rfl
           refine pure_ (i := 28) (N := some 87) (v := undef) (a' := ?_) #[true,true,true,true,true,true,true,true,true,true,true,true,true,true,true,true,true,true,true,true,true,true,true,true,true,true,true,true,true,false,false,false] rfl rfl (any_of HT_.out (by kernel_rfl)) (fun _ _ _ h => h) (Or.inr ⟨by rfl, rfl⟩) ?_ ?_
           rotate_left
           ·
            simp only [Act.put,List.setIfInBounds_toArray,List.set_cons_zero,List.set_cons_succ,i64_w,i32_w]
            rfl
           refine pure_ (i := 29) (N := some 88) (v := undef) (a' := ?_) #[true,true,true,true,true,true,true,true,true,true,true,true,true,true,true,true,true,true,true,true,true,true,true,true,true,true,true,true,true,true,false,false] rfl rfl (any_of HT_.out (by kernel_rfl)) (fun _ _ _ h => h) (Or.inr ⟨by rfl, rfl⟩) ?_ ?_
           rotate_left
           ·
            simp only [Act.put,List.setIfInBounds_toArray,List.set_cons_zero,List.set_cons_succ,i64_w,i32_w]
            rfl
           refine pure_ (i := 30) (N := some 89) (v := ?_) (a' := ?_) #[true,true,true,true,true,true,true,true,true,true,true,true,true,true,true,true,true,true,true,true,true,true,true,true,true,true,true,true,true,true,true,false] rfl rfl (any_of HT_.out (by kernel_rfl)) (fun _ _ _ h => h) (Or.inl ⟨by rfl, ?_⟩) ?_ ?_; rotate_left; (· intro w'; go_simp; with_reducible rfl); rotate_left; (· simp only [Act.put,List.setIfInBounds_toArray,List.set_cons_zero,List.set_cons_succ,i64_w,i32_w]; rfl)
           refine pure_ (i := 31) (N := some 58) (v := ?_) (a' := ?_) #[true,true,true,true,true,true,true,true,true,true,true,true,true,true,true,true,true,true,true,true,true,true,true,true,true,true,true,true,true,true,true,true] rfl rfl (any_of HT_.out (by kernel_rfl)) (fun _ _ _ h => h) (Or.inl ⟨by rfl, ?_⟩) ?_ ?_; rotate_left; (· intro w'; go_simp; with_reducible rfl); rotate_left; (· simp only [Act.put,List.setIfInBounds_toArray,List.set_cons_zero,List.set_cons_succ,i64_w,i32_w]; rfl)
           refine done_ (done_of HT_.out (by kernel_rfl)) ?_
           try go_wp2
           go_meet
           case rel => exact ⟨_, (false), (by first | rfl | (simp; done) | (simp [*]; done)), H', ⟨by have := HK1.out; have := HJ9.out; have := HJ12.out; first | omega | exact Nat.le_refl _⟩, ⟨by (with_reducible repeat (first | apply Kd.R_alloc | apply Kd.R_drewN | apply Kd.R_drew)); exact HO_6.out⟩, ⟨by (with_reducible repeat (first | apply Kd.R_alloc | apply Kd.R_drewN | apply Kd.R_drew)); exact HO_7.out⟩, ⟨by (with_reducible repeat (first | apply Kd.S_alloc | apply Kd.S_drewN | apply Kd.S_drew)); exact HO_9.out⟩, ⟨by (with_reducible repeat (first | apply Kd.R_alloc | apply Kd.R_drewN | apply Kd.R_drew)); exact HO_10.out⟩, ⟨by repeat (first | (with_reducible first | exact HB.out | apply below_alloc | apply pw_below_drewN | apply below_drew1) | exact HB.out)⟩⟩
         case rest =>
          clear HC15
          (try clear c1); (try clear c2); (try clear p2); (try clear q2); (try clear hx2); (try clear c3); (try clear c16); (try clear c17); (try clear c18); (try clear c19); (try clear c20); (try clear c22); (try clear p22); (try clear q22); (try clear hx22); (try clear p23); (try clear q23); (try clear hx23); (try clear c24); (try clear c25); (try clear c27); (try clear c28); (try clear c29); (try clear c30); (try clear hx229_0); (try clear hx229_1); (try clear hx229_2); (try clear hx229_3); (try clear hx229_4); (try clear hx230_0); (try clear hx230_1); (try clear hx230_2); (try clear hx230_3); (try clear hx230_4); (try clear p229); (try clear p230); (try clear q229); (try clear q230)
          obtain ⟨kq, x58_14, rfl, HA, HJ14, HO_6, HO_7, HO_9, HO_10, HB⟩ := hcut
          cases kq with
          | zero => exact absurd HA.out (by simp [siglumref08_Path.j3])
          | succ kj14 =>
           have H := HA.out
           clear HA
           simp only [siglumref08_Path.j3] at H
           by_cases c37 : x58_14 = true
           ·
            subst c37
            have H1 : (if 0 ≤ x11_1 then (if x11_1 < (t219.length : Int) then ((siglumref08_bytes.f a0 ((rd_T75 t219 x11_1).f0) ((rd_T75 t219 x11_1).f1) ((rd_T75 t219 x11_1).f2) ((rd_T75 t219 x11_1).f3) ((rd_T75 t219 x11_1).f4)).bind fun t237 => (if x10_1.length < 5864062014805 then (siglumref08_Path.l0 kj14 a0 a1 t219 t220 t226 (x10_1 ++ [(⟨1, t237⟩ : S30)]) (wrap64 (x11_1 + 1)) (wrap64 (x12_1 + 1))) else (none))) else (none)) else (none)) = some (r1, r2) := by rw [if_pos rfl] at H; exact H
            clear H
            have H := H1
            clear H1
            by_cases c38 : 0 ≤ x11_1
            rotate_left
            · rw [if_neg c38] at H; exact absurd H (by simp)
            rw [if_pos c38] at H
            have c38b0 : decide (0 ≤ x11_1) = true := decide_eq_true c38
            clear c38
            by_cases c39 : x11_1 < (t219.length : Int)
            rotate_left
            · rw [if_neg c39] at H; exact absurd H (by simp)
            rw [if_pos c39] at H
            have c39b0 : decide (x11_1 < (t219.length : Int)) = true := decide_eq_true c39
            clear c39
            replace H := Option.bind_eq_some_iff.mp H
            obtain ⟨t237, A400, H⟩ := H
            replace H : (if x10_1.length < 5864062014805 then (siglumref08_Path.l0 kj14 a0 a1 t219 t220 t226 (x10_1 ++ [(⟨1, t237⟩ : S30)]) (wrap64 (x11_1 + 1)) (wrap64 (x12_1 + 1))) else (none)) = some (r1, r2) := H
            have A40 := Aside0.mk A400
            clear A400
            by_cases c41 : x10_1.length < 5864062014805
            rotate_left
            · rw [if_neg c41] at H; exact absurd H (by simp)
            rw [if_pos c41] at H
            have LMc41 := Aside0.mk c41
            clear c41
            obtain ⟨y238, hy238⟩ : ∃ y_ : List (S30), y_ = (x10_1 ++ [(⟨1, t237⟩ : S30)]) := ⟨_, rfl⟩
            replace H : (siglumref08_Path.l0 kj14 a0 a1 t219 t220 t226 y238 (wrap64 (x11_1 + 1)) (wrap64 (x12_1 + 1))) = some (r1, r2) := by first | (rw [hy238]; with_reducible exact H) | (have H2_ := (Option.bind_some _ _).symm.trans H; rw [hy238]; with_reducible exact H2_) | (have H2_ := (Option.bind_some _ _).symm.trans H; with_reducible exact H2_) | with_reducible exact H | (rw [hy238]; exact H) | exact H
            have Ny238 := Aside0.mk hy238
            clear hy238
            have H' := Aside0.mk H
            clear H
            have p236 : 0 ≤ (x11_1 : Int) := of_decide_eq_true (by assumption)
            have q236 : x11_1 < (t219.length : Int) := of_decide_eq_true (by assumption)
            obtain ⟨ad236, e236, hx236_0, hx236_1, hx236_2, hx236_3, hx236_4⟩ := at_T75 (Kd.R_reads' HO_6.out).2.2 x11_1 p236 q236
            cases e236
            replace p236 := eq_true p236
            replace q236 := eq_true q236
            go_wp2_with (first | ((with_reducible refine gate_callee (f := 38) rfl ?_); refine goesL_ (some 96) rfl rfl Tryd.func38 (by kernel_rfl) rfl #[.string a0, .agg #[.int .i64 ((rd_T75 t219 x11_1).f0), .int .i64 ((rd_T75 t219 x11_1).f1), .int .i32 ((rd_T75 t219 x11_1).f2), .bool ((rd_T75 t219 x11_1).f3), .int .u8 ((rd_T75 t219 x11_1).f4)]] rfl (by (try simp only [List.map_toArray, List.map_cons, List.map_nil]); first | done | rfl | (simp only [List.length_drop, List.length_take]; rfl)) ?_; (with_reducible refine (siglumref08_bytes.calls a0 ((rd_T75 t219 x11_1).f0) ((rd_T75 t219 x11_1).f1) ((rd_T75 t219 x11_1).f2) ((rd_T75 t219 x11_1).f3) ((rd_T75 t219 x11_1).f4) t237 _ A40.out).mono ?_); rintro e w42 ⟨rfl, hb⟩; refine ⟨_, rfl, ?_⟩; have n0_ := Aside0.mk (Kd.R_below (by (with_reducible repeat (first | apply Kd.R_alloc | apply Kd.R_drewN | apply Kd.R_drew)); exact HO_6.out) hb); have n1_ := Aside0.mk (Kd.R_below (by (with_reducible repeat (first | apply Kd.R_alloc | apply Kd.R_drewN | apply Kd.R_drew)); exact HO_7.out) hb); have n2_ := Aside0.mk (Kd.S_below (by (with_reducible repeat (first | apply Kd.S_alloc | apply Kd.S_drewN | apply Kd.S_drew)); exact HO_9.out) hb); have n3_ := Aside0.mk (Kd.R_below (by (with_reducible repeat (first | apply Kd.R_alloc | apply Kd.R_drewN | apply Kd.R_drew)); exact HO_10.out) hb); have n4_ := Aside0.mk (below_step (by repeat (first | (with_reducible first | exact HB.out | apply below_alloc | apply pw_below_drewN | apply below_drew1) | exact HB.out)) hb); clear HO_6; clear HO_7; clear HO_9; clear HO_10; clear HB; have HO_6 := n0_; have HO_7 := n1_; have HO_9 := n2_; have HO_10 := n3_; have HB := n4_; clear n0_ n1_ n2_ n3_ n4_; (try clear hb); (try clear hb2); (try clear hk); (try clear hi)) | ((with_reducible refine gate_builtin (b := .append) (xs := #[.tmp 90, .tmp 98]) rfl ?_); (try (refine gate_guard (by rfl) ?_; dsimp only)); at_builtin; refine Kd.R_append k30 (w0 := w) w.heap.size rfl (.tmp 90) (.tmp 98) 23 30 (.agg #[(.int .i64 0), (.string ⟨#[]⟩)]) 24 rfl Tryd.underlying23 info30 rfl (by decide) (by omega) u10 x10_1 (⟨1, t237⟩ : S30) [.int .i64 1, .string t237] (fun _ => True) (fun _ => False) rfl rfl ?aP (fun _ hk => hk.elim) ?aF ?aO ?aB ?aS ?aL ?_; (case aP => exact k30_mkM _ _ _ (⟨1, t237⟩ : S30)); (case aB => exact (by repeat (first | (with_reducible first | exact HB.out | apply below_alloc | apply pw_below_drewN | apply below_drew1) | exact HB.out))); (case aF => exact (fun _ _ => trivial)); (case aO => exact (by (with_reducible repeat (first | apply Kd.R_alloc | apply Kd.R_drewN | apply Kd.R_drew)); exact HO_10.out)); (case aS => exact (below_size (by repeat (first | (with_reducible first | exact HB.out | apply below_alloc | apply pw_below_drewN | apply below_drew1) | exact HB.out)))); (case aL => have := LMc41.out; omega); intro v239 w43 ho hb hg hat; rw [← Ny238.out] at ho; have n0_ := Aside0.mk (Kd.R_over' (by (with_reducible repeat (first | apply Kd.R_alloc | apply Kd.R_drewN | apply Kd.R_drew)); exact HO_6.out) (Kd.R_typed (by (with_reducible repeat (first | apply Kd.R_alloc | apply Kd.R_drewN | apply Kd.R_drew)); exact HO_10.out)) (by decide) hg); have n1_ := Aside0.mk (Kd.R_over' (by (with_reducible repeat (first | apply Kd.R_alloc | apply Kd.R_drewN | apply Kd.R_drew)); exact HO_7.out) (Kd.R_typed (by (with_reducible repeat (first | apply Kd.R_alloc | apply Kd.R_drewN | apply Kd.R_drew)); exact HO_10.out)) (by decide) hg); have n2_ := Aside0.mk (Kd.S_over' (by (with_reducible repeat (first | apply Kd.S_alloc | apply Kd.S_drewN | apply Kd.S_drew)); exact HO_9.out) (Kd.R_typed (by (with_reducible repeat (first | apply Kd.R_alloc | apply Kd.R_drewN | apply Kd.R_drew)); exact HO_10.out)) (by decide) hg); have n3_ := Aside0.mk (hb); have n4_ := Aside0.mk (ho); clear HO_6; clear HO_7; clear HO_9; clear HB; clear HO_10; have HO_6 := n0_; have HO_7 := n1_; have HO_9 := n2_; have HB := n3_; have HO240 := n4_; clear n0_ n1_ n2_ n3_ n4_; clear ho hb hg hat))
            go_roundg kj14
            case measure => have := HK1.out; have := HJ9.out; have := HJ12.out; have := HJ14.out; omega
            case rel => exact ⟨(y238), (wrap64 (x11_1 + 1)), (wrap64 (x12_1 + 1)), (by first | rfl | (simp; done) | (simp [*]; done)), (by first | rfl | (simp; done) | (simp [*]; done)), H', ⟨by have := HK1.out; have := HJ9.out; have := HJ12.out; have := HJ14.out; omega⟩, ⟨by (with_reducible repeat (first | apply Kd.R_alloc | apply Kd.R_drewN | apply Kd.R_drew)); exact HO_6.out⟩, ⟨by (with_reducible repeat (first | apply Kd.R_alloc | apply Kd.R_drewN | apply Kd.R_drew)); exact HO_7.out⟩, ⟨by (with_reducible repeat (first | apply Kd.S_alloc | apply Kd.S_drewN | apply Kd.S_drew)); exact HO_9.out⟩, ⟨by (with_reducible repeat (first | apply Kd.R_alloc | apply Kd.R_drewN | apply Kd.R_drew)); exact HO240.out⟩, ⟨by repeat (first | (with_reducible first | exact HB.out | apply below_alloc | apply pw_below_drewN | apply below_drew1) | exact HB.out)⟩⟩
           ·
            replace c37 := Bool.eq_false_iff.mpr c37
            subst c37
            have H1 : (if x13_12 = true then (if 0 ≤ x11_1 then (if x11_1 < (t219.length : Int) then (if 0 ≤ x12_1 then (if x12_1 < (t220.length : Int) then ((siglumref08_Same.f ((rd_T75 t219 x11_1).f0) ((rd_T75 t219 x11_1).f1) ((rd_T75 t219 x11_1).f2) ((rd_T75 t219 x11_1).f3) ((rd_T75 t219 x11_1).f4) ((rd_T75 t220 x12_1).f0) ((rd_T75 t220 x12_1).f1) ((rd_T75 t220 x12_1).f2) ((rd_T75 t220 x12_1).f3) ((rd_T75 t220 x12_1).f4)).bind fun t243 => (if t243 = true then (siglumref08_Path.j4 kj14 a0 a1 t219 t220 t226 x10_1 x11_1 x12_1 false) else (if 0 ≤ (wrap64 (x11_1 + 1)) then (if (wrap64 (x11_1 + 1)) < (t226.length : Int) then (if 0 ≤ (wrap64 (x12_1 + 1)) then (if (wrap64 (x12_1 + 1)) < ((rd_L7 t226 (wrap64 (x11_1 + 1))).length : Int) then (if x11_1 < (t226.length : Int) then (if x12_1 < ((rd_L7 t226 x11_1).length : Int) then (siglumref08_Path.j4 kj14 a0 a1 t219 t220 t226 x10_1 x11_1 x12_1 ((wrap64 ((rd (rd_L7 t226 (wrap64 (x11_1 + 1))) (wrap64 (x12_1 + 1))) + 1)) == (rd (rd_L7 t226 x11_1) x12_1))) else (none)) else (none)) else (none)) else (none)) else (none)) else (none)))) else (none)) else (none)) else (none)) else (none)) else (siglumref08_Path.j4 kj14 a0 a1 t219 t220 t226 x10_1 x11_1 x12_1 false)) = some (r1, r2) := by rw [if_neg (show ¬ (false = true) by decide)] at H; exact H
            clear H
            have H := H1
            clear H1
            have HC44 := Aside0.mk H
            clear H
            go_upto_region 16 with (fail)
            go_cut [104] (fun v104 wc => ∃ (kq : Nat) (x104_43 : Bool), v104 = .bool x104_43 ∧ Aside0 (siglumref08_Path.j4 kq a0 a1 t219 t220 t226 x10_1 x11_1 x12_1 x104_43 = some (r1, r2)) ∧ Aside0 (kq ≤ kj14) ∧ Aside0 (Kd.R k75 75 wc w.heap.size (fun k_ => some k_ ≠ ((.slice Ao8 t220.length co8) : Value).ownBlock) (.slice Ao7 t219.length co7) t219) ∧ Aside0 (Kd.R k75 75 wc w.heap.size (fun k_ => some k_ ≠ ((.slice Ao7 t219.length co7) : Value).ownBlock) (.slice Ao8 t220.length co8) t220) ∧ Aside0 (Kd.S (Kd.slice 3 (Kd.int .i64)) 68 wc w.heap.size (fun _ => True) v227 t226) ∧ Aside0 (Kd.R k30 30 wc w.heap.size (fun _ => True) u10 x10_1) ∧ Aside0 (Below w.heap.size w wc))
            case first => as_aux_lemma =>
             have H := HC44.out
             clear HC44
             by_cases c45 : x13_12 = true
             ·
              subst c45
              have H1 : (if 0 ≤ x11_1 then (if x11_1 < (t219.length : Int) then (if 0 ≤ x12_1 then (if x12_1 < (t220.length : Int) then ((siglumref08_Same.f ((rd_T75 t219 x11_1).f0) ((rd_T75 t219 x11_1).f1) ((rd_T75 t219 x11_1).f2) ((rd_T75 t219 x11_1).f3) ((rd_T75 t219 x11_1).f4) ((rd_T75 t220 x12_1).f0) ((rd_T75 t220 x12_1).f1) ((rd_T75 t220 x12_1).f2) ((rd_T75 t220 x12_1).f3) ((rd_T75 t220 x12_1).f4)).bind fun t243 => (if t243 = true then (siglumref08_Path.j4 kj14 a0 a1 t219 t220 t226 x10_1 x11_1 x12_1 false) else (if 0 ≤ (wrap64 (x11_1 + 1)) then (if (wrap64 (x11_1 + 1)) < (t226.length : Int) then (if 0 ≤ (wrap64 (x12_1 + 1)) then (if (wrap64 (x12_1 + 1)) < ((rd_L7 t226 (wrap64 (x11_1 + 1))).length : Int) then (if x11_1 < (t226.length : Int) then (if x12_1 < ((rd_L7 t226 x11_1).length : Int) then (siglumref08_Path.j4 kj14 a0 a1 t219 t220 t226 x10_1 x11_1 x12_1 ((wrap64 ((rd (rd_L7 t226 (wrap64 (x11_1 + 1))) (wrap64 (x12_1 + 1))) + 1)) == (rd (rd_L7 t226 x11_1) x12_1))) else (none)) else (none)) else (none)) else (none)) else (none)) else (none)))) else (none)) else (none)) else (none)) else (none)) = some (r1, r2) := by rw [if_pos rfl] at H; exact H
              clear H
              have H := H1
              clear H1
              by_cases c46 : 0 ≤ x11_1
              rotate_left
              · rw [if_neg c46] at H; exact absurd H (by simp)
              rw [if_pos c46] at H
              have c46b0 : decide (0 ≤ x11_1) = true := decide_eq_true c46
              clear c46
              (first | rw [c46b0] | (simp only [i64_w, i32_w]; rw [c46b0]) | skip)
              by_cases c47 : x11_1 < (t219.length : Int)
              rotate_left
              · rw [if_neg c47] at H; exact absurd H (by simp)
              rw [if_pos c47] at H
              have c47b0 : decide (x11_1 < (t219.length : Int)) = true := decide_eq_true c47
              clear c47
              by_cases c48 : 0 ≤ x12_1
              rotate_left
              · rw [if_neg c48] at H; exact absurd H (by simp)
              rw [if_pos c48] at H
              have c48b0 : decide (0 ≤ x12_1) = true := decide_eq_true c48
              clear c48
              by_cases c49 : x12_1 < (t220.length : Int)
              rotate_left
              · rw [if_neg c49] at H; exact absurd H (by simp)
              rw [if_pos c49] at H
              have c49b0 : decide (x12_1 < (t220.length : Int)) = true := decide_eq_true c49
              clear c49
              replace H := Option.bind_eq_some_iff.mp H
              obtain ⟨t243, A500, H⟩ := H
              replace H : (if t243 = true then (siglumref08_Path.j4 kj14 a0 a1 t219 t220 t226 x10_1 x11_1 x12_1 false) else (if 0 ≤ (wrap64 (x11_1 + 1)) then (if (wrap64 (x11_1 + 1)) < (t226.length : Int) then (if 0 ≤ (wrap64 (x12_1 + 1)) then (if (wrap64 (x12_1 + 1)) < ((rd_L7 t226 (wrap64 (x11_1 + 1))).length : Int) then (if x11_1 < (t226.length : Int) then (if x12_1 < ((rd_L7 t226 x11_1).length : Int) then (siglumref08_Path.j4 kj14 a0 a1 t219 t220 t226 x10_1 x11_1 x12_1 ((wrap64 ((rd (rd_L7 t226 (wrap64 (x11_1 + 1))) (wrap64 (x12_1 + 1))) + 1)) == (rd (rd_L7 t226 x11_1) x12_1))) else (none)) else (none)) else (none)) else (none)) else (none)) else (none))) = some (r1, r2) := H
              have A50 := Aside0.mk A500
              clear A500
              by_cases c51 : t243 = true
              ·
               subst c51
               have H1 : (siglumref08_Path.j4 kj14 a0 a1 t219 t220 t226 x10_1 x11_1 x12_1 false) = some (r1, r2) := by rw [if_pos rfl] at H; exact H
               clear H
               have H := H1
               clear H1
               have H' := Aside0.mk H
               clear H
               try go_wp2
               have n0_ := Aside0.mk (Kd.R_drew HO_6.out)
               have n1_ := Aside0.mk (Kd.R_drew HO_7.out)
               have n2_ := Aside0.mk (Kd.S_drew HO_9.out)
               have n3_ := Aside0.mk (Kd.R_drew HO_10.out)
               have n4_ := Aside0.mk (below_drew1 HB.out)
               clear HO_6
               clear HO_7
               clear HO_9
               clear HO_10
               clear HB
               have HO_6 := n0_
               have HO_7 := n1_
               have HO_9 := n2_
               have HO_10 := n3_
               have HB := n4_
               clear n0_ n1_ n2_ n3_ n4_
               have p241 : 0 ≤ (x11_1 : Int) := of_decide_eq_true (by assumption)
               have q241 : x11_1 < (t219.length : Int) := of_decide_eq_true (by assumption)
               obtain ⟨ad241, e241, hx241_0, hx241_1, hx241_2, hx241_3, hx241_4⟩ := at_T75 (Kd.R_reads' HO_6.out).2.2 x11_1 p241 q241
               cases e241
               replace p241 := eq_true p241
               replace q241 := eq_true q241
               have p242 : 0 ≤ (x12_1 : Int) := of_decide_eq_true (by assumption)
               have q242 : x12_1 < (t220.length : Int) := of_decide_eq_true (by assumption)
               obtain ⟨ad242, e242, hx242_0, hx242_1, hx242_2, hx242_3, hx242_4⟩ := at_T75 (Kd.R_reads' HO_7.out).2.2 x12_1 p242 q242
               cases e242
               replace p242 := eq_true p242
               replace q242 := eq_true q242
               refine start_ (n := 34) (S := fun w' => w'.cell? (ad241.add ((x11_1).toNat * 5)) = some (.int .i64 ((rd_T75 t219 x11_1).f0)) ∧ w'.cell? ⟨(ad241.add ((x11_1).toNat * 5)).block, (ad241.add ((x11_1).toNat * 5)).off + 1, none⟩ = some (.int .i64 ((rd_T75 t219 x11_1).f1)) ∧ w'.cell? ⟨(ad241.add ((x11_1).toNat * 5)).block, (ad241.add ((x11_1).toNat * 5)).off + 2, none⟩ = some (.int .i32 ((rd_T75 t219 x11_1).f2)) ∧ w'.cell? ⟨(ad241.add ((x11_1).toNat * 5)).block, (ad241.add ((x11_1).toNat * 5)).off + 3, none⟩ = some (.bool ((rd_T75 t219 x11_1).f3)) ∧ w'.cell? ⟨(ad241.add ((x11_1).toNat * 5)).block, (ad241.add ((x11_1).toNat * 5)).off + 4, none⟩ = some (.int .u8 ((rd_T75 t219 x11_1).f4)) ∧ w'.cell? (ad242.add ((x12_1).toNat * 5)) = some (.int .i64 ((rd_T75 t220 x12_1).f0)) ∧ w'.cell? ⟨(ad242.add ((x12_1).toNat * 5)).block, (ad242.add ((x12_1).toNat * 5)).off + 1, none⟩ = some (.int .i64 ((rd_T75 t220 x12_1).f1)) ∧ w'.cell? ⟨(ad242.add ((x12_1).toNat * 5)).block, (ad242.add ((x12_1).toNat * 5)).off + 2, none⟩ = some (.int .i32 ((rd_T75 t220 x12_1).f2)) ∧ w'.cell? ⟨(ad242.add ((x12_1).toNat * 5)).block, (ad242.add ((x12_1).toNat * 5)).off + 3, none⟩ = some (.bool ((rd_T75 t220 x12_1).f3)) ∧ w'.cell? ⟨(ad242.add ((x12_1).toNat * 5)).block, (ad242.add ((x12_1).toNat * 5)).off + 4, none⟩ = some (.int .u8 ((rd_T75 t220 x12_1).f4))) (ds := []) #[false,false,false,false,false,false,false,false,false,false,false,false,false,false,false,false,false,false,false,false,false,false,false,false,false,false,false,false,false,false,false,false,false,false] (by kernel_rfl) rfl rfl ⟨hx241_0, hx241_1, hx241_2, hx241_3, hx241_4, hx242_0, hx242_1, hx242_2, hx242_3, hx242_4⟩ (fun hHeld => ?_); refine with_tabW siglumref08_Path.tab16 siglumref08_Path.bits16 (fun HT_ HW_ => ?_)
               generalize wc.drew = w52 at HO_6 HO_7 HO_9 HO_10 HB hx241_0 hx241_1 hx241_2 hx241_3 hx241_4 hx242_0 hx242_1 hx242_2 hx242_3 hx242_4 hHeld ⊢
               refine pure_ (i := 0) (N := some 105) (v := ?_) (a' := ?_) #[true,false,false,false,false,false,false,false,false,false,false,false,false,false,false,false,false,false,false,false,false,false,false,false,false,false,false,false,false,false,false,false,false,false] rfl rfl (any_of HT_.out (by kernel_rfl)) (fun _ _ _ h => h) (Or.inl ⟨by rfl, ?_⟩) ?_ ?_; rotate_left; (· intro w'; go_simp; with_reducible rfl); rotate_left; (· simp only [Act.put,List.setIfInBounds_toArray,List.set_cons_zero,List.set_cons_succ,i64_w,i32_w]; rfl)
               refine pure_ (i := 1) (N := some 106) (v := ?_) (a' := ?_) #[true,true,false,false,false,false,false,false,false,false,false,false,false,false,false,false,false,false,false,false,false,false,false,false,false,false,false,false,false,false,false,false,false,false] rfl rfl (any_of HT_.out (by kernel_rfl)) (fun _ _ _ h => h) (Or.inl ⟨by rfl, ?_⟩) ?_ ?_; rotate_left; (· intro w'; go_simp; with_reducible rfl); rotate_left; (· simp only [Act.put,List.setIfInBounds_toArray,List.set_cons_zero,List.set_cons_succ,i64_w,i32_w]; rfl)
               refine pure_ (i := 2) (N := some 107) (v := ?_) (a' := ?_) #[true,true,true,false,false,false,false,false,false,false,false,false,false,false,false,false,false,false,false,false,false,false,false,false,false,false,false,false,false,false,false,false,false,false] rfl rfl (any_of HT_.out (by kernel_rfl)) (fun _ _ _ h => h) (Or.inl ⟨by rfl, ?_⟩) ?_ ?_; rotate_left; (· intro w'; go_simp; with_reducible rfl); rotate_left; (· simp only [Act.put,List.setIfInBounds_toArray,List.set_cons_zero,List.set_cons_succ,i64_w,i32_w]; rfl)
               refine pure_ (i := 3) (N := some 108) (v := ?_) (a' := ?_) #[true,true,true,true,false,false,false,false,false,false,false,false,false,false,false,false,false,false,false,false,false,false,false,false,false,false,false,false,false,false,false,false,false,false] rfl rfl (any_of HT_.out (by kernel_rfl)) (fun _ _ _ h => h) (Or.inl ⟨by rfl, ?_⟩) ?_ ?_; rotate_left; (· intro w'; go_simp; with_reducible rfl); rotate_left; (· simp only [Act.put,List.setIfInBounds_toArray,List.set_cons_zero,List.set_cons_succ,i64_w,i32_w]; rfl)
               refine pure_ (i := 4) (N := some 109) (v := ?_) (a' := ?_) #[true,true,true,true,true,false,false,false,false,false,false,false,false,false,false,false,false,false,false,false,false,false,false,false,false,false,false,false,false,false,false,false,false,false] rfl rfl (any_of HT_.out (by kernel_rfl)) (fun _ _ _ h => h) (Or.inl ⟨by rfl, ?_⟩) ?_ ?_; rotate_left; (· intro w'; go_simp; with_reducible rfl); rotate_left; (· simp only [Act.put,List.setIfInBounds_toArray,List.set_cons_zero,List.set_cons_succ,i64_w,i32_w]; rfl)
               refine pure_ (i := 6) (N := some 111) (v := ?_) (a' := ?_) #[true,true,true,true,true,false,true,false,false,false,false,false,false,false,false,false,false,false,false,false,false,false,false,false,false,false,false,false,false,false,false,false,false,false] rfl rfl (any_of HT_.out (by kernel_rfl)) (fun _ _ _ h => h) (Or.inl ⟨by rfl, ?_⟩) ?_ ?_; rotate_left; (· intro w'; go_simp; with_reducible rfl); rotate_left; (· simp only [Act.put,List.setIfInBounds_toArray,List.set_cons_zero,List.set_cons_succ,i64_w,i32_w]; rfl)
               refine pure_ (i := 7) (N := some 112) (v := ?_) (a' := ?_) #[true,true,true,true,true,false,true,true,false,false,false,false,false,false,false,false,false,false,false,false,false,false,false,false,false,false,false,false,false,false,false,false,false,false] rfl rfl (any_of HT_.out (by kernel_rfl)) (fun _ _ _ h => h) (Or.inl ⟨by rfl, ?_⟩) ?_ ?_; rotate_left; (· intro w'; go_simp; with_reducible rfl); rotate_left; (· simp only [Act.put,List.setIfInBounds_toArray,List.set_cons_zero,List.set_cons_succ,i64_w,i32_w]; rfl)
               refine pure_ (i := 8) (N := some 113) (v := ?_) (a' := ?_) #[true,true,true,true,true,false,true,true,true,false,false,false,false,false,false,false,false,false,false,false,false,false,false,false,false,false,false,false,false,false,false,false,false,false] rfl rfl (any_of HT_.out (by kernel_rfl)) (fun _ _ _ h => h) (Or.inl ⟨by rfl, ?_⟩) ?_ ?_; rotate_left; (· intro w'; go_simp; with_reducible rfl); rotate_left; (· simp only [Act.put,List.setIfInBounds_toArray,List.set_cons_zero,List.set_cons_succ,i64_w,i32_w]; rfl)
               refine take_ (i := 5) (N := some 110) (v := ?_) (a' := ?_) #[true,true,true,true,true,true,true,true,true,false,false,false,false,false,false,false,false,false,false,false,false,false,false,false,false,false,false,false,false,false,false,false,false,false] rfl rfl (take_ofW HT_.out HW_.out (by kernel_rfl)) (fun _ _ _ h => h) (Or.inl ⟨by rfl, ?_⟩) hHeld ?_ ?_; rotate_left; (· rintro w' ⟨s0, s1, s2, s3, s4, s5, s6, s7, s8, s9⟩; go_simp; with_reducible rfl); rotate_left; (· simp only [Act.put,List.setIfInBounds_toArray,List.set_cons_zero,List.set_cons_succ,i64_w,i32_w]; rfl)
               refine take_ (i := 9) (N := some 114) (v := ?_) (a' := ?_) #[true,true,true,true,true,true,true,true,true,true,false,false,false,false,false,false,false,false,false,false,false,false,false,false,false,false,false,false,false,false,false,false,false,false] rfl rfl (take_ofW HT_.out HW_.out (by kernel_rfl)) (fun _ _ _ h => h) (Or.inl ⟨by rfl, ?_⟩) hHeld ?_ ?_; rotate_left; (· rintro w' ⟨s0, s1, s2, s3, s4, s5, s6, s7, s8, s9⟩; go_simp; with_reducible rfl); rotate_left; (· simp only [Act.put,List.setIfInBounds_toArray,List.set_cons_zero,List.set_cons_succ,i64_w,i32_w]; rfl)
               refine one_ (i := 10) (N := some 115) #[true,true,true,true,true,true,true,true,true,true,true,false,false,false,false,false,false,false,false,false,false,false,false,false,false,false,false,false,false,false,false,false,false,false] rfl rfl (one_of HT_.out (by kernel_rfl)) (by decide) (fun K hK => ?_)
               refine goes_ Tryd.func37 (by kernel_rfl) rfl #[.agg #[.int .i64 ((rd_T75 t219 x11_1).f0), .int .i64 ((rd_T75 t219 x11_1).f1), .int .i32 ((rd_T75 t219 x11_1).f2), .bool ((rd_T75 t219 x11_1).f3), .int .u8 ((rd_T75 t219 x11_1).f4)], .agg #[.int .i64 ((rd_T75 t220 x12_1).f0), .int .i64 ((rd_T75 t220 x12_1).f1), .int .i32 ((rd_T75 t220 x12_1).f2), .bool ((rd_T75 t220 x12_1).f3), .int .u8 ((rd_T75 t220 x12_1).f4)]] (by rfl) rfl rfl (by (try simp only [List.map_toArray, List.map_cons, List.map_nil]); first | done | rfl | (simp only [List.length_drop, List.length_take]; rfl)) ?_
               with_reducible refine (siglumref08_Same.calls ((rd_T75 t219 x11_1).f0) ((rd_T75 t219 x11_1).f1) ((rd_T75 t219 x11_1).f2) ((rd_T75 t219 x11_1).f3) ((rd_T75 t219 x11_1).f4) ((rd_T75 t220 x12_1).f0) ((rd_T75 t220 x12_1).f1) ((rd_T75 t220 x12_1).f2) ((rd_T75 t220 x12_1).f3) ((rd_T75 t220 x12_1).f4) true _ A50.out).mono ?_
               rintro e w53 ⟨rfl, hb⟩
               have HS0_ := (hb.cell (World.block_lt_of_cell? _ _ (hHeld.1))).trans (hHeld.1)
               have HS1_ := (hb.cell (World.block_lt_of_cell? _ _ (hHeld.2.1))).trans (hHeld.2.1)
               have HS2_ := (hb.cell (World.block_lt_of_cell? _ _ (hHeld.2.2.1))).trans (hHeld.2.2.1)
               have HS3_ := (hb.cell (World.block_lt_of_cell? _ _ (hHeld.2.2.2.1))).trans (hHeld.2.2.2.1)
               have HS4_ := (hb.cell (World.block_lt_of_cell? _ _ (hHeld.2.2.2.2.1))).trans (hHeld.2.2.2.2.1)
               have HS5_ := (hb.cell (World.block_lt_of_cell? _ _ (hHeld.2.2.2.2.2.1))).trans (hHeld.2.2.2.2.2.1)
               have HS6_ := (hb.cell (World.block_lt_of_cell? _ _ (hHeld.2.2.2.2.2.2.1))).trans (hHeld.2.2.2.2.2.2.1)
               have HS7_ := (hb.cell (World.block_lt_of_cell? _ _ (hHeld.2.2.2.2.2.2.2.1))).trans (hHeld.2.2.2.2.2.2.2.1)
               have HS8_ := (hb.cell (World.block_lt_of_cell? _ _ (hHeld.2.2.2.2.2.2.2.2.1))).trans (hHeld.2.2.2.2.2.2.2.2.1)
               have HS9_ := (hb.cell (World.block_lt_of_cell? _ _ (hHeld.2.2.2.2.2.2.2.2.2))).trans (hHeld.2.2.2.2.2.2.2.2.2)
               refine ⟨_, rfl, ?_⟩
               have n0_ := Aside0.mk (Kd.R_below (by (with_reducible repeat (first | apply Kd.R_alloc | apply Kd.R_drewN | apply Kd.R_drew)); exact HO_6.out) hb)
               have n1_ := Aside0.mk (Kd.R_below (by (with_reducible repeat (first | apply Kd.R_alloc | apply Kd.R_drewN | apply Kd.R_drew)); exact HO_7.out) hb)
               have n2_ := Aside0.mk (Kd.S_below (by (with_reducible repeat (first | apply Kd.S_alloc | apply Kd.S_drewN | apply Kd.S_drew)); exact HO_9.out) hb)
               have n3_ := Aside0.mk (Kd.R_below (by (with_reducible repeat (first | apply Kd.R_alloc | apply Kd.R_drewN | apply Kd.R_drew)); exact HO_10.out) hb)
               have n4_ := Aside0.mk (below_step (by repeat (first | (with_reducible first | exact HB.out | apply below_alloc | apply pw_below_drewN | apply below_drew1) | exact HB.out)) hb)
               clear HO_6
               clear HO_7
               clear HO_9
               clear HO_10
               clear HB
               have HO_6 := n0_
               have HO_7 := n1_
               have HO_9 := n2_
               have HO_10 := n3_
               have HB := n4_
               clear n0_ n1_ n2_ n3_ n4_
               (try clear hb); (try clear hb2); (try clear hk); (try clear hi)
               refine hK.out _ _ ⟨HS0_, HS1_, HS2_, HS3_, HS4_, HS5_, HS6_, HS7_, HS8_, HS9_⟩ (fun hHeld => ?_)
               clear hK K
               refine norm_ (a' := ?_) ?_ ?_
               rotate_left
               ·
                show Act.put _ (some 115) _ = _
                simp only [Act.put,List.setIfInBounds_toArray,List.set_cons_zero,List.set_cons_succ,i64_w,i32_w]
                rfl
               refine pure_ (i := 11) (N := some 116) (v := ?_) (a' := ?_) #[true,true,true,true,true,true,true,true,true,true,true,true,false,false,false,false,false,false,false,false,false,false,false,false,false,false,false,false,false,false,false,false,false,false] rfl rfl (any_of HT_.out (by kernel_rfl)) (fun _ _ _ h => h) (Or.inl ⟨by rfl, ?_⟩) ?_ ?_; rotate_left; (· intro w'; go_simp; with_reducible rfl); rotate_left; (· simp only [Act.put,List.setIfInBounds_toArray,List.set_cons_zero,List.set_cons_succ,i64_w,i32_w]; rfl)
               refine pure_ (i := 12) (N := some 117) (v := ?_) (a' := ?_) #[true,true,true,true,true,true,true,true,true,true,true,true,true,false,false,false,false,false,false,false,false,false,false,false,false,false,false,false,false,false,false,false,false,false] rfl rfl (any_of HT_.out (by kernel_rfl)) (fun _ _ _ h => h) (Or.inl ⟨by rfl, ?_⟩) ?_ ?_; rotate_left; (· intro w'; go_simp; with_reducible rfl); rotate_left; (· simp only [Act.put,List.setIfInBounds_toArray,List.set_cons_zero,List.set_cons_succ,i64_w,i32_w]; rfl)
               refine pure_ (i := 13) (N := some 118) (v := ?_) (a' := ?_) #[true,true,true,true,true,true,true,true,true,true,true,true,true,true,false,false,false,false,false,false,false,false,false,false,false,false,false,false,false,false,false,false,false,false] rfl rfl (any_of HT_.out (by kernel_rfl)) (fun _ _ _ h => h) (Or.inl ⟨by rfl, ?_⟩) ?_ ?_; rotate_left; (· intro w'; go_simp; with_reducible rfl); rotate_left; (· simp only [Act.put,List.setIfInBounds_toArray,List.set_cons_zero,List.set_cons_succ,i64_w,i32_w]; rfl)
               refine pure_ (i := 14) (N := some 119) (v := undef) (a' := ?_) #[true,true,true,true,true,true,true,true,true,true,true,true,true,true,true,false,false,false,false,false,false,false,false,false,false,false,false,false,false,false,false,false,false,false] rfl rfl (any_of HT_.out (by kernel_rfl)) (fun _ _ _ h => h) (Or.inr ⟨by rfl, rfl⟩) ?_ ?_
               rotate_left
               ·
                simp only [Act.put,List.setIfInBounds_toArray,List.set_cons_zero,List.set_cons_succ,i64_w,i32_w]
                rfl
               refine pure_ (i := 15) (N := some 120) (v := undef) (a' := ?_) #[true,true,true,true,true,true,true,true,true,true,true,true,true,true,true,true,false,false,false,false,false,false,false,false,false,false,false,false,false,false,false,false,false,false] rfl rfl (any_of HT_.out (by kernel_rfl)) (fun _ _ _ h => h) (Or.inr ⟨by rfl, rfl⟩) ?_ ?_
               rotate_left
               ·
                simp only [Act.put,List.setIfInBounds_toArray,List.set_cons_zero,List.set_cons_succ,i64_w,i32_w]
                rfl
               refine pure_ (i := 16) (N := some 121) (v := undef) (a' := ?_) #[true,true,true,true,true,true,true,true,true,true,true,true,true,true,true,true,true,false,false,false,false,false,false,false,false,false,false,false,false,false,false,false,false,false] rfl rfl (any_of HT_.out (by kernel_rfl)) (fun _ _ _ h => h) (Or.inr ⟨by rfl, rfl⟩) ?_ ?_
               rotate_left
               ·
                simp only [Act.put,List.setIfInBounds_toArray,List.set_cons_zero,List.set_cons_succ,i64_w,i32_w]
                rfl
               refine pure_ (i := 17) (N := some 122) (v := undef) (a' := ?_) #[true,true,true,true,true,true,true,true,true,true,true,true,true,true,true,true,true,true,false,false,false,false,false,false,false,false,false,false,false,false,false,false,false,false] rfl rfl (any_of HT_.out (by kernel_rfl)) (fun _ _ _ h => h) (Or.inr ⟨by rfl, rfl⟩) ?_ ?_
               rotate_left
               ·
                simp only [Act.put,List.setIfInBounds_toArray,List.set_cons_zero,List.set_cons_succ,i64_w,i32_w]
                rfl
               refine pure_ (i := 18) (N := some 123) (v := undef) (a' := ?_) #[true,true,true,true,true,true,true,true,true,true,true,true,true,true,true,true,true,true,true,false,false,false,false,false,false,false,false,false,false,false,false,false,false,false] rfl rfl (any_of HT_.out (by kernel_rfl)) (fun _ _ _ h => h) (Or.inr ⟨by rfl, rfl⟩) ?_ ?_
               rotate_left
               ·
                simp only [Act.put,List.setIfInBounds_toArray,List.set_cons_zero,List.set_cons_succ,i64_w,i32_w]
                rfl
               refine pure_ (i := 19) (N := some 124) (v := undef) (a' := ?_) #[true,true,true,true,true,true,true,true,true,true,true,true,true,true,true,true,true,true,true,true,false,false,false,false,false,false,false,false,false,false,false,false,false,false] rfl rfl (any_of HT_.out (by kernel_rfl)) (fun _ _ _ h => h) (Or.inr ⟨by rfl, rfl⟩) ?_ ?_
               rotate_left
               ·
                simp only [Act.put,List.setIfInBounds_toArray,List.set_cons_zero,List.set_cons_succ,i64_w,i32_w]
                rfl
               refine pure_ (i := 20) (N := some 125) (v := undef) (a' := ?_) #[true,true,true,true,true,true,true,true,true,true,true,true,true,true,true,true,true,true,true,true,true,false,false,false,false,false,false,false,false,false,false,false,false,false] rfl rfl (any_of HT_.out (by kernel_rfl)) (fun _ _ _ h => h) (Or.inr ⟨by rfl, rfl⟩) ?_ ?_
               rotate_left
               ·
                simp only [Act.put,List.setIfInBounds_toArray,List.set_cons_zero,List.set_cons_succ,i64_w,i32_w]
                rfl
               refine pure_ (i := 21) (N := some 126) (v := undef) (a' := ?_) #[true,true,true,true,true,true,true,true,true,true,true,true,true,true,true,true,true,true,true,true,true,true,false,false,false,false,false,false,false,false,false,false,false,false] rfl rfl (any_of HT_.out (by kernel_rfl)) (fun _ _ _ h => h) (Or.inr ⟨by rfl, rfl⟩) ?_ ?_
               rotate_left
               ·
                simp only [Act.put,List.setIfInBounds_toArray,List.set_cons_zero,List.set_cons_succ,i64_w,i32_w]
                rfl
               refine pure_ (i := 22) (N := some 127) (v := undef) (a' := ?_) #[true,true,true,true,true,true,true,true,true,true,true,true,true,true,true,true,true,true,true,true,true,true,true,false,false,false,false,false,false,false,false,false,false,false] rfl rfl (any_of HT_.out (by kernel_rfl)) (fun _ _ _ h => h) (Or.inr ⟨by rfl, rfl⟩) ?_ ?_
               rotate_left
               ·
                simp only [Act.put,List.setIfInBounds_toArray,List.set_cons_zero,List.set_cons_succ,i64_w,i32_w]
                rfl
               refine pure_ (i := 23) (N := some 128) (v := undef) (a' := ?_) #[true,true,true,true,true,true,true,true,true,true,true,true,true,true,true,true,true,true,true,true,true,true,true,true,false,false,false,false,false,false,false,false,false,false] rfl rfl (any_of HT_.out (by kernel_rfl)) (fun _ _ _ h => h) (Or.inr ⟨by rfl, rfl⟩) ?_ ?_
               rotate_left
               ·
                simp only [Act.put,List.setIfInBounds_toArray,List.set_cons_zero,List.set_cons_succ,i64_w,i32_w]
                rfl
               refine pure_ (i := 24) (N := some 129) (v := undef) (a' := ?_) #[true,true,true,true,true,true,true,true,true,true,true,true,true,true,true,true,true,true,true,true,true,true,true,true,true,false,false,false,false,false,false,false,false,false] rfl rfl (any_of HT_.out (by kernel_rfl)) (fun _ _ _ h => h) (Or.inr ⟨by rfl, rfl⟩) ?_ ?_
               rotate_left
               ·
                simp only [Act.put,List.setIfInBounds_toArray,List.set_cons_zero,List.set_cons_succ,i64_w,i32_w]
                rfl
               refine pure_ (i := 25) (N := some 130) (v := undef) (a' := ?_) #[true,true,true,true,true,true,true,true,true,true,true,true,true,true,true,true,true,true,true,true,true,true,true,true,true,true,false,false,false,false,false,false,false,false] rfl rfl (any_of HT_.out (by kernel_rfl)) (fun _ _ _ h => h) (Or.inr ⟨by rfl, rfl⟩) ?_ ?_
               rotate_left
               ·
                simp only [Act.put,List.setIfInBounds_toArray,List.set_cons_zero,List.set_cons_succ,i64_w,i32_w]
                rfl
               refine pure_ (i := 26) (N := some 131) (v := undef) (a' := ?_) #[true,true,true,true,true,true,true,true,true,true,true,true,true,true,true,true,true,true,true,true,true,true,true,true,true,true,true,false,false,false,false,false,false,false] rfl rfl (any_of HT_.out (by kernel_rfl)) (fun _ _ _ h => h) (Or.inr ⟨by rfl, rfl⟩) ?_ ?_
               rotate_left
               ·
                simp only [Act.put,List.setIfInBounds_toArray,List.set_cons_zero,List.set_cons_succ,i64_w,i32_w]
                rfl
               refine pure_ (i := 27) (N := some 132) (v := undef) (a' := ?_) #[true,true,true,true,true,true,true,true,true,true,true,true,true,true,true,true,true,true,true,true,true,true,true,true,true,true,true,true,false,false,false,false,false,false] rfl rfl (any_of HT_.out (by kernel_rfl)) (fun _ _ _ h => h) (Or.inr ⟨by rfl, rfl⟩) ?_ ?_
               rotate_left
               ·
                simp only [Act.put,List.setIfInBounds_toArray,List.set_cons_zero,List.set_cons_succ,i64_w,i32_w]
                rfl
               refine pure_ (i := 28) (N := some 133) (v := undef) (a' := ?_) #[true,true,true,true,true,true,true,true,true,true,true,true,true,true,true,true,true,true,true,true,true,true,true,true,true,true,true,true,true,false,false,false,false,false] rfl rfl (any_of HT_.out (by kernel_rfl)) (fun _ _ _ h => h) (Or.inr ⟨by rfl, rfl⟩) ?_ ?_
               rotate_left
               ·
                simp only [Act.put,List.setIfInBounds_toArray,List.set_cons_zero,List.set_cons_succ,i64_w,i32_w]
                rfl
               refine pure_ (i := 29) (N := some 134) (v := undef) (a' := ?_) #[true,true,true,true,true,true,true,true,true,true,true,true,true,true,true,true,true,true,true,true,true,true,true,true,true,true,true,true,true,true,false,false,false,false] rfl rfl (any_of HT_.out (by kernel_rfl)) (fun _ _ _ h => h) (Or.inr ⟨by rfl, rfl⟩) ?_ ?_
               rotate_left
               ·
                simp only [Act.put,List.setIfInBounds_toArray,List.set_cons_zero,List.set_cons_succ,i64_w,i32_w]
                rfl
               refine pure_ (i := 30) (N := some 135) (v := undef) (a' := ?_) #[true,true,true,true,true,true,true,true,true,true,true,true,true,true,true,true,true,true,true,true,true,true,true,true,true,true,true,true,true,true,true,false,false,false] rfl rfl (any_of HT_.out (by kernel_rfl)) (fun _ _ _ h => h) (Or.inr ⟨by rfl, rfl⟩) ?_ ?_
               rotate_left
               ·
                simp only [Act.put,List.setIfInBounds_toArray,List.set_cons_zero,List.set_cons_succ,i64_w,i32_w]
                rfl
               refine pure_ (i := 31) (N := some 136) (v := undef) (a' := ?_) #[true,true,true,true,true,true,true,true,true,true,true,true,true,true,true,true,true,true,true,true,true,true,true,true,true,true,true,true,true,true,true,true,false,false] rfl rfl (any_of HT_.out (by kernel_rfl)) (fun _ _ _ h => h) (Or.inr ⟨by rfl, rfl⟩) ?_ ?_
               rotate_left
               ·
                simp only [Act.put,List.setIfInBounds_toArray,List.set_cons_zero,List.set_cons_succ,i64_w,i32_w]
                rfl
               refine pure_ (i := 32) (N := some 137) (v := ?_) (a' := ?_) #[true,true,true,true,true,true,true,true,true,true,true,true,true,true,true,true,true,true,true,true,true,true,true,true,true,true,true,true,true,true,true,true,true,false] rfl rfl (any_of HT_.out (by kernel_rfl)) (fun _ _ _ h => h) (Or.inl ⟨by rfl, ?_⟩) ?_ ?_; rotate_left; (· intro w'; go_simp; with_reducible rfl); rotate_left; (· simp only [Act.put,List.setIfInBounds_toArray,List.set_cons_zero,List.set_cons_succ,i64_w,i32_w]; rfl)
               refine pure_ (i := 33) (N := some 104) (v := ?_) (a' := ?_) #[true,true,true,true,true,true,true,true,true,true,true,true,true,true,true,true,true,true,true,true,true,true,true,true,true,true,true,true,true,true,true,true,true,true] rfl rfl (any_of HT_.out (by kernel_rfl)) (fun _ _ _ h => h) (Or.inl ⟨by rfl, ?_⟩) ?_ ?_; rotate_left; (· intro w'; go_simp; with_reducible rfl); rotate_left; (· simp only [Act.put,List.setIfInBounds_toArray,List.set_cons_zero,List.set_cons_succ,i64_w,i32_w]; rfl)
               refine done_ (done_of HT_.out (by kernel_rfl)) ?_
               try go_wp2
               go_meet
               case rel => exact ⟨_, (false), (by first | rfl | (simp; done) | (simp [*]; done)), H', ⟨by have := HK1.out; have := HJ9.out; have := HJ12.out; have := HJ14.out; first | omega | exact Nat.le_refl _⟩, ⟨by (with_reducible repeat (first | apply Kd.R_alloc | apply Kd.R_drewN | apply Kd.R_drew)); exact HO_6.out⟩, ⟨by (with_reducible repeat (first | apply Kd.R_alloc | apply Kd.R_drewN | apply Kd.R_drew)); exact HO_7.out⟩, ⟨by (with_reducible repeat (first | apply Kd.S_alloc | apply Kd.S_drewN | apply Kd.S_drew)); exact HO_9.out⟩, ⟨by (with_reducible repeat (first | apply Kd.R_alloc | apply Kd.R_drewN | apply Kd.R_drew)); exact HO_10.out⟩, ⟨by repeat (first | (with_reducible first | exact HB.out | apply below_alloc | apply pw_below_drewN | apply below_drew1) | exact HB.out)⟩⟩
              ·
               replace c51 := Bool.eq_false_iff.mpr c51
               subst c51
               have H1 : (if 0 ≤ (wrap64 (x11_1 + 1)) then (if (wrap64 (x11_1 + 1)) < (t226.length : Int) then (if 0 ≤ (wrap64 (x12_1 + 1)) then (if (wrap64 (x12_1 + 1)) < ((rd_L7 t226 (wrap64 (x11_1 + 1))).length : Int) then (if x11_1 < (t226.length : Int) then (if x12_1 < ((rd_L7 t226 x11_1).length : Int) then (siglumref08_Path.j4 kj14 a0 a1 t219 t220 t226 x10_1 x11_1 x12_1 ((wrap64 ((rd (rd_L7 t226 (wrap64 (x11_1 + 1))) (wrap64 (x12_1 + 1))) + 1)) == (rd (rd_L7 t226 x11_1) x12_1))) else (none)) else (none)) else (none)) else (none)) else (none)) else (none)) = some (r1, r2) := by rw [if_neg (show ¬ (false = true) by decide)] at H; exact H
               clear H
               have H := H1
               clear H1
               obtain ⟨ji54, hji54⟩ : ∃ j_ : Int, (wrap64 (x11_1 + 1)) = j_ := ⟨_, rfl⟩
               replace H : (if 0 ≤ (ji54) then (if (ji54) < (t226.length : Int) then (if 0 ≤ (wrap64 (x12_1 + 1)) then (if (wrap64 (x12_1 + 1)) < ((rd_L7 t226 (ji54)).length : Int) then (if x11_1 < (t226.length : Int) then (if x12_1 < ((rd_L7 t226 x11_1).length : Int) then (siglumref08_Path.j4 kj14 a0 a1 t219 t220 t226 x10_1 x11_1 x12_1 ((wrap64 ((rd (rd_L7 t226 (ji54)) (wrap64 (x12_1 + 1))) + 1)) == (rd (rd_L7 t226 x11_1) x12_1))) else (none)) else (none)) else (none)) else (none)) else (none)) else (none)) = some (r1, r2) := by first | (rw [hji54] at H; exact H) | (simp only [hji54] at H ⊢; exact H)
               (try rw [hji54] at A50)
               have hji54w : (IntKind.i64.wrap (x11_1 + 1)) = ji54 := (i64_w _).trans hji54
               by_cases c55 : 0 ≤ (ji54)
               rotate_left
               · rw [if_neg c55] at H; exact absurd H (by simp)
               rw [if_pos c55] at H
               have c55b0 : decide (0 ≤ (ji54)) = true := decide_eq_true c55
               clear c55
               by_cases c56 : (ji54) < (t226.length : Int)
               rotate_left
               · rw [if_neg c56] at H; exact absurd H (by simp)
               rw [if_pos c56] at H
               have c56b0 : decide ((ji54) < (t226.length : Int)) = true := decide_eq_true c56
               clear c56
               obtain ⟨ji57, hji57⟩ : ∃ j_ : Int, (wrap64 (x12_1 + 1)) = j_ := ⟨_, rfl⟩
               replace H : (if 0 ≤ (ji57) then (if (ji57) < ((rd_L7 t226 (ji54)).length : Int) then (if x11_1 < (t226.length : Int) then (if x12_1 < ((rd_L7 t226 x11_1).length : Int) then (siglumref08_Path.j4 kj14 a0 a1 t219 t220 t226 x10_1 x11_1 x12_1 ((wrap64 ((rd (rd_L7 t226 (ji54)) (ji57)) + 1)) == (rd (rd_L7 t226 x11_1) x12_1))) else (none)) else (none)) else (none)) else (none)) = some (r1, r2) := by first | (rw [hji57] at H; exact H) | (simp only [hji57] at H ⊢; exact H)
               (try rw [hji57] at A50)
               have hji57w : (IntKind.i64.wrap (x12_1 + 1)) = ji57 := (i64_w _).trans hji57
               by_cases c58 : 0 ≤ (ji57)
               rotate_left
               · rw [if_neg c58] at H; exact absurd H (by simp)
               rw [if_pos c58] at H
               have c58b0 : decide (0 ≤ (ji57)) = true := decide_eq_true c58
               clear c58
               by_cases c59 : (ji57) < ((rd_L7 t226 (ji54)).length : Int)
               rotate_left
               · rw [if_neg c59] at H; exact absurd H (by simp)
               rw [if_pos c59] at H
               have c59b0 : decide ((ji57) < ((rd_L7 t226 (ji54)).length : Int)) = true := decide_eq_true c59
               clear c59
               by_cases c60 : x11_1 < (t226.length : Int)
               rotate_left
               · rw [if_neg c60] at H; exact absurd H (by simp)
               rw [if_pos c60] at H
               have c60b0 : decide (x11_1 < (t226.length : Int)) = true := decide_eq_true c60
               clear c60
               by_cases c61 : x12_1 < ((rd_L7 t226 x11_1).length : Int)
               rotate_left
               · rw [if_neg c61] at H; exact absurd H (by simp)
               rw [if_pos c61] at H
               have c61b0 : decide (x12_1 < ((rd_L7 t226 x11_1).length : Int)) = true := decide_eq_true c61
               clear c61
               have H' := Aside0.mk H
               clear H
               try go_wp2
               have n0_ := Aside0.mk (Kd.R_drew HO_6.out)
               have n1_ := Aside0.mk (Kd.R_drew HO_7.out)
               have n2_ := Aside0.mk (Kd.S_drew HO_9.out)
               have n3_ := Aside0.mk (Kd.R_drew HO_10.out)
               have n4_ := Aside0.mk (below_drew1 HB.out)
               clear HO_6
               clear HO_7
               clear HO_9
               clear HO_10
               clear HB
               have HO_6 := n0_
               have HO_7 := n1_
               have HO_9 := n2_
               have HO_10 := n3_
               have HB := n4_
               clear n0_ n1_ n2_ n3_ n4_
               have p241 : 0 ≤ (x11_1 : Int) := of_decide_eq_true (by assumption)
               have q241 : x11_1 < (t219.length : Int) := of_decide_eq_true (by assumption)
               obtain ⟨ad241, e241, hx241_0, hx241_1, hx241_2, hx241_3, hx241_4⟩ := at_T75 (Kd.R_reads' HO_6.out).2.2 x11_1 p241 q241
               cases e241
               replace p241 := eq_true p241
               replace q241 := eq_true q241
               have p242 : 0 ≤ (x12_1 : Int) := of_decide_eq_true (by assumption)
               have q242 : x12_1 < (t220.length : Int) := of_decide_eq_true (by assumption)
               obtain ⟨ad242, e242, hx242_0, hx242_1, hx242_2, hx242_3, hx242_4⟩ := at_T75 (Kd.R_reads' HO_7.out).2.2 x12_1 p242 q242
               cases e242
               replace p242 := eq_true p242
               replace q242 := eq_true q242
               have p244 : 0 ≤ ((ji54) : Int) := of_decide_eq_true (by assumption)
               have q244 : (ji54) < (t226.length : Int) := of_decide_eq_true (by assumption)
               obtain ⟨Aq244, cq244, eq244⟩ := Kd.S_slice HO_9.out
               (first | subst eq244 | (injection eq244 with f1_ f2_ f3_; have f4_ := f1_.symm; have f5_ := f3_.symm; clear f1_ f2_ f3_; subst f4_; subst f5_))
               obtain ⟨ad244, A244_0, c244_0, e244, hx244_0, hl244_0, hi244_0⟩ := at_L7 (Kd.S_reads' HO_9.out).2.2 (ji54) p244 q244
               cases e244
               obtain ⟨ce244, hce244, hMe244, hcc244⟩ := Kd.S_get HO_9.out [] (ji54) p244 (by first | exact q244 | exact of_decide_eq_true (by assumption) | (have e_ := (Kd.S_reads' HO_9.out).1; omega))
               obtain ⟨ve244_0, rfl, ge244_0⟩ := hMe244
               have hv244_0 := hcc244 0 _ rfl
               rw [Nat.add_zero, show ((Kd.slice 3 (Kd.int .i64))).sz = 1 from rfl, Nat.mul_one] at hv244_0
               replace hv244_0 := Option.some.inj (hv244_0.symm.trans hx244_0)
               rw [hv244_0] at ge244_0
               have HL244_0 := Aside0.mk (show Kd.R (Kd.int .i64) 3 _ _ _ _ (rd_L7 t226 (ji54)) from ge244_0)
               clear hv244_0 ge244_0
               clear hcc244 hce244
               have HR244_0 := Aside0.mk hi244_0
               have HC244_0 := Aside0.mk hl244_0
               clear hi244_0 hl244_0
               replace p244 := eq_true p244
               replace q244 := eq_true q244
               have p246 : 0 ≤ (x11_1 : Int) := of_decide_eq_true (by assumption)
               have q246 : x11_1 < (t226.length : Int) := of_decide_eq_true (by assumption)
               obtain ⟨ad246, A246_0, c246_0, e246, hx246_0, hl246_0, hi246_0⟩ := at_L7 (Kd.S_reads' HO_9.out).2.2 x11_1 p246 q246
               obtain rfl : ad244 = ad246 := (by injection e246)
               obtain ⟨ce246, hce246, hMe246, hcc246⟩ := Kd.S_get HO_9.out [] x11_1 p246 (by first | exact q246 | exact of_decide_eq_true (by assumption) | (have e_ := (Kd.S_reads' HO_9.out).1; omega))
               obtain ⟨ve246_0, rfl, ge246_0⟩ := hMe246
               have hv246_0 := hcc246 0 _ rfl
               rw [Nat.add_zero, show ((Kd.slice 3 (Kd.int .i64))).sz = 1 from rfl, Nat.mul_one] at hv246_0
               replace hv246_0 := Option.some.inj (hv246_0.symm.trans hx246_0)
               rw [hv246_0] at ge246_0
               have HL246_0 := Aside0.mk (show Kd.R (Kd.int .i64) 3 _ _ _ _ (rd_L7 t226 x11_1) from ge246_0)
               clear hv246_0 ge246_0
               clear hcc246 hce246
               have HR246_0 := Aside0.mk hi246_0
               have HC246_0 := Aside0.mk hl246_0
               clear hi246_0 hl246_0
               replace p246 := eq_true p246
               replace q246 := eq_true q246
               have p245 : 0 ≤ ((ji57) : Int) := of_decide_eq_true (by assumption)
               have q245 : (ji57) < ((rd_L7 t226 (ji54)).length : Int) := of_decide_eq_true (by assumption)
               obtain ⟨ad245, e245, hx245_0⟩ := Kd.at_int (by repeat (first | (with_reducible exact HR244_0.out) | (with_reducible refine Kd.C_alloc ?_ _) | (with_reducible refine Kd.C_drewN ?_ _) | (with_reducible refine Kd.C_drew ?_) | exact HR244_0.out)) (ji57) p245 q245
               cases e245
               replace p245 := eq_true p245
               replace q245 := eq_true q245
               have p247 : 0 ≤ (x12_1 : Int) := of_decide_eq_true (by assumption)
               have q247 : x12_1 < ((rd_L7 t226 x11_1).length : Int) := of_decide_eq_true (by assumption)
               obtain ⟨ad247, e247, hx247_0⟩ := Kd.at_int (by repeat (first | (with_reducible exact HR246_0.out) | (with_reducible refine Kd.C_alloc ?_ _) | (with_reducible refine Kd.C_drewN ?_ _) | (with_reducible refine Kd.C_drew ?_) | exact HR246_0.out)) x12_1 p247 q247
               cases e247
               replace p247 := eq_true p247
               replace q247 := eq_true q247
               refine start_ (n := 34) (S := fun w' => w'.cell? (ad241.add ((x11_1).toNat * 5)) = some (.int .i64 ((rd_T75 t219 x11_1).f0)) ∧ w'.cell? ⟨(ad241.add ((x11_1).toNat * 5)).block, (ad241.add ((x11_1).toNat * 5)).off + 1, none⟩ = some (.int .i64 ((rd_T75 t219 x11_1).f1)) ∧ w'.cell? ⟨(ad241.add ((x11_1).toNat * 5)).block, (ad241.add ((x11_1).toNat * 5)).off + 2, none⟩ = some (.int .i32 ((rd_T75 t219 x11_1).f2)) ∧ w'.cell? ⟨(ad241.add ((x11_1).toNat * 5)).block, (ad241.add ((x11_1).toNat * 5)).off + 3, none⟩ = some (.bool ((rd_T75 t219 x11_1).f3)) ∧ w'.cell? ⟨(ad241.add ((x11_1).toNat * 5)).block, (ad241.add ((x11_1).toNat * 5)).off + 4, none⟩ = some (.int .u8 ((rd_T75 t219 x11_1).f4)) ∧ w'.cell? (ad242.add ((x12_1).toNat * 5)) = some (.int .i64 ((rd_T75 t220 x12_1).f0)) ∧ w'.cell? ⟨(ad242.add ((x12_1).toNat * 5)).block, (ad242.add ((x12_1).toNat * 5)).off + 1, none⟩ = some (.int .i64 ((rd_T75 t220 x12_1).f1)) ∧ w'.cell? ⟨(ad242.add ((x12_1).toNat * 5)).block, (ad242.add ((x12_1).toNat * 5)).off + 2, none⟩ = some (.int .i32 ((rd_T75 t220 x12_1).f2)) ∧ w'.cell? ⟨(ad242.add ((x12_1).toNat * 5)).block, (ad242.add ((x12_1).toNat * 5)).off + 3, none⟩ = some (.bool ((rd_T75 t220 x12_1).f3)) ∧ w'.cell? ⟨(ad242.add ((x12_1).toNat * 5)).block, (ad242.add ((x12_1).toNat * 5)).off + 4, none⟩ = some (.int .u8 ((rd_T75 t220 x12_1).f4)) ∧ w'.cell? (ad244.add ((ji54)).toNat) = some (.slice (some ad245) (rd_L7 t226 (ji54)).length c244_0) ∧ w'.cell? (ad245.add ((ji57)).toNat) = some (.int .i64 (rd (rd_L7 t226 (ji54)) (ji57))) ∧ w'.cell? (ad244.add (x11_1).toNat) = some (.slice (some ad247) (rd_L7 t226 x11_1).length c246_0) ∧ w'.cell? (ad247.add (x12_1).toNat) = some (.int .i64 (rd (rd_L7 t226 x11_1) x12_1))) (ds := []) #[false,false,false,false,false,false,false,false,false,false,false,false,false,false,false,false,false,false,false,false,false,false,false,false,false,false,false,false,false,false,false,false,false,false] (by kernel_rfl) rfl rfl ⟨hx241_0, hx241_1, hx241_2, hx241_3, hx241_4, hx242_0, hx242_1, hx242_2, hx242_3, hx242_4, hx244_0, hx245_0, hx246_0, hx247_0⟩ (fun hHeld => ?_); refine with_tabW siglumref08_Path.tab16 siglumref08_Path.bits16 (fun HT_ HW_ => ?_)
               generalize wc.drew = w62 at HO_6 HO_7 HO_9 HO_10 HB HL244_0 HL246_0 HR244_0 HR246_0 hx241_0 hx241_1 hx241_2 hx241_3 hx241_4 hx242_0 hx242_1 hx242_2 hx242_3 hx242_4 hx244_0 hx246_0 hHeld ⊢
               refine pure_ (i := 0) (N := some 105) (v := ?_) (a' := ?_) #[true,false,false,false,false,false,false,false,false,false,false,false,false,false,false,false,false,false,false,false,false,false,false,false,false,false,false,false,false,false,false,false,false,false] rfl rfl (any_of HT_.out (by kernel_rfl)) (fun _ _ _ h => h) (Or.inl ⟨by rfl, ?_⟩) ?_ ?_; rotate_left; (· intro w'; go_simp; with_reducible rfl); rotate_left; (· simp only [Act.put,List.setIfInBounds_toArray,List.set_cons_zero,List.set_cons_succ,i64_w,i32_w]; rfl)
               refine pure_ (i := 1) (N := some 106) (v := ?_) (a' := ?_) #[true,true,false,false,false,false,false,false,false,false,false,false,false,false,false,false,false,false,false,false,false,false,false,false,false,false,false,false,false,false,false,false,false,false] rfl rfl (any_of HT_.out (by kernel_rfl)) (fun _ _ _ h => h) (Or.inl ⟨by rfl, ?_⟩) ?_ ?_; rotate_left; (· intro w'; go_simp; with_reducible rfl); rotate_left; (· simp only [Act.put,List.setIfInBounds_toArray,List.set_cons_zero,List.set_cons_succ,i64_w,i32_w]; rfl)
               refine pure_ (i := 2) (N := some 107) (v := ?_) (a' := ?_) #[true,true,true,false,false,false,false,false,false,false,false,false,false,false,false,false,false,false,false,false,false,false,false,false,false,false,false,false,false,false,false,false,false,false] rfl rfl (any_of HT_.out (by kernel_rfl)) (fun _ _ _ h => h) (Or.inl ⟨by rfl, ?_⟩) ?_ ?_; rotate_left; (· intro w'; go_simp; with_reducible rfl); rotate_left; (· simp only [Act.put,List.setIfInBounds_toArray,List.set_cons_zero,List.set_cons_succ,i64_w,i32_w]; rfl)
               refine pure_ (i := 3) (N := some 108) (v := ?_) (a' := ?_) #[true,true,true,true,false,false,false,false,false,false,false,false,false,false,false,false,false,false,false,false,false,false,false,false,false,false,false,false,false,false,false,false,false,false] rfl rfl (any_of HT_.out (by kernel_rfl)) (fun _ _ _ h => h) (Or.inl ⟨by rfl, ?_⟩) ?_ ?_; rotate_left; (· intro w'; go_simp; with_reducible rfl); rotate_left; (· simp only [Act.put,List.setIfInBounds_toArray,List.set_cons_zero,List.set_cons_succ,i64_w,i32_w]; rfl)
               refine pure_ (i := 4) (N := some 109) (v := ?_) (a' := ?_) #[true,true,true,true,true,false,false,false,false,false,false,false,false,false,false,false,false,false,false,false,false,false,false,false,false,false,false,false,false,false,false,false,false,false] rfl rfl (any_of HT_.out (by kernel_rfl)) (fun _ _ _ h => h) (Or.inl ⟨by rfl, ?_⟩) ?_ ?_; rotate_left; (· intro w'; go_simp; with_reducible rfl); rotate_left; (· simp only [Act.put,List.setIfInBounds_toArray,List.set_cons_zero,List.set_cons_succ,i64_w,i32_w]; rfl)
               refine pure_ (i := 6) (N := some 111) (v := ?_) (a' := ?_) #[true,true,true,true,true,false,true,false,false,false,false,false,false,false,false,false,false,false,false,false,false,false,false,false,false,false,false,false,false,false,false,false,false,false] rfl rfl (any_of HT_.out (by kernel_rfl)) (fun _ _ _ h => h) (Or.inl ⟨by rfl, ?_⟩) ?_ ?_; rotate_left; (· intro w'; go_simp; with_reducible rfl); rotate_left; (· simp only [Act.put,List.setIfInBounds_toArray,List.set_cons_zero,List.set_cons_succ,i64_w,i32_w]; rfl)
               refine pure_ (i := 7) (N := some 112) (v := ?_) (a' := ?_) #[true,true,true,true,true,false,true,true,false,false,false,false,false,false,false,false,false,false,false,false,false,false,false,false,false,false,false,false,false,false,false,false,false,false] rfl rfl (any_of HT_.out (by kernel_rfl)) (fun _ _ _ h => h) (Or.inl ⟨by rfl, ?_⟩) ?_ ?_; rotate_left; (· intro w'; go_simp; with_reducible rfl); rotate_left; (· simp only [Act.put,List.setIfInBounds_toArray,List.set_cons_zero,List.set_cons_succ,i64_w,i32_w]; rfl)
               refine pure_ (i := 8) (N := some 113) (v := ?_) (a' := ?_) #[true,true,true,true,true,false,true,true,true,false,false,false,false,false,false,false,false,false,false,false,false,false,false,false,false,false,false,false,false,false,false,false,false,false] rfl rfl (any_of HT_.out (by kernel_rfl)) (fun _ _ _ h => h) (Or.inl ⟨by rfl, ?_⟩) ?_ ?_; rotate_left; (· intro w'; go_simp; with_reducible rfl); rotate_left; (· simp only [Act.put,List.setIfInBounds_toArray,List.set_cons_zero,List.set_cons_succ,i64_w,i32_w]; rfl)
               refine take_ (i := 5) (N := some 110) (v := ?_) (a' := ?_) #[true,true,true,true,true,true,true,true,true,false,false,false,false,false,false,false,false,false,false,false,false,false,false,false,false,false,false,false,false,false,false,false,false,false] rfl rfl (take_ofW HT_.out HW_.out (by kernel_rfl)) (fun _ _ _ h => h) (Or.inl ⟨by rfl, ?_⟩) hHeld ?_ ?_; rotate_left; (· rintro w' ⟨s0, s1, s2, s3, s4, s5, s6, s7, s8, s9, s10, s11, s12, s13⟩; go_simp; with_reducible rfl); rotate_left; (· simp only [Act.put,List.setIfInBounds_toArray,List.set_cons_zero,List.set_cons_succ,i64_w,i32_w]; rfl)
               refine take_ (i := 9) (N := some 114) (v := ?_) (a' := ?_) #[true,true,true,true,true,true,true,true,true,true,false,false,false,false,false,false,false,false,false,false,false,false,false,false,false,false,false,false,false,false,false,false,false,false] rfl rfl (take_ofW HT_.out HW_.out (by kernel_rfl)) (fun _ _ _ h => h) (Or.inl ⟨by rfl, ?_⟩) hHeld ?_ ?_; rotate_left; (· rintro w' ⟨s0, s1, s2, s3, s4, s5, s6, s7, s8, s9, s10, s11, s12, s13⟩; go_simp; with_reducible rfl); rotate_left; (· simp only [Act.put,List.setIfInBounds_toArray,List.set_cons_zero,List.set_cons_succ,i64_w,i32_w]; rfl)
               refine one_ (i := 10) (N := some 115) #[true,true,true,true,true,true,true,true,true,true,true,false,false,false,false,false,false,false,false,false,false,false,false,false,false,false,false,false,false,false,false,false,false,false] rfl rfl (one_of HT_.out (by kernel_rfl)) (by decide) (fun K hK => ?_)
               refine goes_ Tryd.func37 (by kernel_rfl) rfl #[.agg #[.int .i64 ((rd_T75 t219 x11_1).f0), .int .i64 ((rd_T75 t219 x11_1).f1), .int .i32 ((rd_T75 t219 x11_1).f2), .bool ((rd_T75 t219 x11_1).f3), .int .u8 ((rd_T75 t219 x11_1).f4)], .agg #[.int .i64 ((rd_T75 t220 x12_1).f0), .int .i64 ((rd_T75 t220 x12_1).f1), .int .i32 ((rd_T75 t220 x12_1).f2), .bool ((rd_T75 t220 x12_1).f3), .int .u8 ((rd_T75 t220 x12_1).f4)]] (by rfl) rfl rfl (by (try simp only [List.map_toArray, List.map_cons, List.map_nil]); first | done | rfl | (simp only [List.length_drop, List.length_take]; rfl)) ?_
               with_reducible refine (siglumref08_Same.calls ((rd_T75 t219 x11_1).f0) ((rd_T75 t219 x11_1).f1) ((rd_T75 t219 x11_1).f2) ((rd_T75 t219 x11_1).f3) ((rd_T75 t219 x11_1).f4) ((rd_T75 t220 x12_1).f0) ((rd_T75 t220 x12_1).f1) ((rd_T75 t220 x12_1).f2) ((rd_T75 t220 x12_1).f3) ((rd_T75 t220 x12_1).f4) false _ A50.out).mono ?_
               rintro e w63 ⟨rfl, hb⟩
               have HS0_ := (hb.cell (World.block_lt_of_cell? _ _ (hHeld.1))).trans (hHeld.1)
               have HS1_ := (hb.cell (World.block_lt_of_cell? _ _ (hHeld.2.1))).trans (hHeld.2.1)
               have HS2_ := (hb.cell (World.block_lt_of_cell? _ _ (hHeld.2.2.1))).trans (hHeld.2.2.1)
               have HS3_ := (hb.cell (World.block_lt_of_cell? _ _ (hHeld.2.2.2.1))).trans (hHeld.2.2.2.1)
               have HS4_ := (hb.cell (World.block_lt_of_cell? _ _ (hHeld.2.2.2.2.1))).trans (hHeld.2.2.2.2.1)
               have HS5_ := (hb.cell (World.block_lt_of_cell? _ _ (hHeld.2.2.2.2.2.1))).trans (hHeld.2.2.2.2.2.1)
               have HS6_ := (hb.cell (World.block_lt_of_cell? _ _ (hHeld.2.2.2.2.2.2.1))).trans (hHeld.2.2.2.2.2.2.1)
               have HS7_ := (hb.cell (World.block_lt_of_cell? _ _ (hHeld.2.2.2.2.2.2.2.1))).trans (hHeld.2.2.2.2.2.2.2.1)
               have HS8_ := (hb.cell (World.block_lt_of_cell? _ _ (hHeld.2.2.2.2.2.2.2.2.1))).trans (hHeld.2.2.2.2.2.2.2.2.1)
               have HS9_ := (hb.cell (World.block_lt_of_cell? _ _ (hHeld.2.2.2.2.2.2.2.2.2.1))).trans (hHeld.2.2.2.2.2.2.2.2.2.1)
               have HS10_ := (hb.cell (World.block_lt_of_cell? _ _ (hHeld.2.2.2.2.2.2.2.2.2.2.1))).trans (hHeld.2.2.2.2.2.2.2.2.2.2.1)
               have HS11_ := (hb.cell (World.block_lt_of_cell? _ _ (hHeld.2.2.2.2.2.2.2.2.2.2.2.1))).trans (hHeld.2.2.2.2.2.2.2.2.2.2.2.1)
               have HS12_ := (hb.cell (World.block_lt_of_cell? _ _ (hHeld.2.2.2.2.2.2.2.2.2.2.2.2.1))).trans (hHeld.2.2.2.2.2.2.2.2.2.2.2.2.1)
               have HS13_ := (hb.cell (World.block_lt_of_cell? _ _ (hHeld.2.2.2.2.2.2.2.2.2.2.2.2.2))).trans (hHeld.2.2.2.2.2.2.2.2.2.2.2.2.2)
               refine ⟨_, rfl, ?_⟩
               have n0_ := Aside0.mk (Kd.R_below (by (with_reducible repeat (first | apply Kd.R_alloc | apply Kd.R_drewN | apply Kd.R_drew)); exact HO_6.out) hb)
               have n1_ := Aside0.mk (Kd.R_below (by (with_reducible repeat (first | apply Kd.R_alloc | apply Kd.R_drewN | apply Kd.R_drew)); exact HO_7.out) hb)
               have n2_ := Aside0.mk (Kd.S_below (by (with_reducible repeat (first | apply Kd.S_alloc | apply Kd.S_drewN | apply Kd.S_drew)); exact HO_9.out) hb)
               have n3_ := Aside0.mk (Kd.R_below (by (with_reducible repeat (first | apply Kd.R_alloc | apply Kd.R_drewN | apply Kd.R_drew)); exact HO_10.out) hb)
               have n4_ := Aside0.mk (below_step (by repeat (first | (with_reducible first | exact HB.out | apply below_alloc | apply pw_below_drewN | apply below_drew1) | exact HB.out)) hb)
               clear HO_6
               clear HO_7
               clear HO_9
               clear HO_10
               clear HB
               have HO_6 := n0_
               have HO_7 := n1_
               have HO_9 := n2_
               have HO_10 := n3_
               have HB := n4_
               clear n0_ n1_ n2_ n3_ n4_
               (try clear hb); (try clear hb2); (try clear hk); (try clear hi)
               obtain ⟨Ao64, co64, eo64⟩ := Kd.S_slice HO_9.out
               (first | subst eo64 | (injection eo64 with f1_ f2_ f3_; have f4_ := f1_.symm; have f5_ := f3_.symm; clear f1_ f2_ f3_; subst f4_; subst f5_))
               refine hK.out _ _ ⟨HS0_, HS1_, HS2_, HS3_, HS4_, HS5_, HS6_, HS7_, HS8_, HS9_, HS10_, HS11_, HS12_, HS13_⟩ (fun hHeld => ?_)
               clear hK K
               refine norm_ (a' := ?_) ?_ ?_
               rotate_left
               ·
                show Act.put _ (some 115) _ = _
                simp only [Act.put,List.setIfInBounds_toArray,List.set_cons_zero,List.set_cons_succ,i64_w,i32_w]
                rfl
               refine pure_ (i := 11) (N := some 116) (v := ?_) (a' := ?_) #[true,true,true,true,true,true,true,true,true,true,true,true,false,false,false,false,false,false,false,false,false,false,false,false,false,false,false,false,false,false,false,false,false,false] rfl rfl (any_of HT_.out (by kernel_rfl)) (fun _ _ _ h => h) (Or.inl ⟨by rfl, ?_⟩) ?_ ?_; rotate_left; (· intro w'; go_simp; with_reducible rfl); rotate_left; (· simp only [Act.put,List.setIfInBounds_toArray,List.set_cons_zero,List.set_cons_succ,i64_w,i32_w]; rfl)
               refine pure_ (i := 12) (N := some 117) (v := ?_) (a' := ?_) #[true,true,true,true,true,true,true,true,true,true,true,true,true,false,false,false,false,false,false,false,false,false,false,false,false,false,false,false,false,false,false,false,false,false] rfl rfl (any_of HT_.out (by kernel_rfl)) (fun _ _ _ h => h) (Or.inl ⟨by rfl, ?_⟩) ?_ ?_; rotate_left; (· intro w'; go_simp; with_reducible rfl); rotate_left; (· simp only [Act.put,List.setIfInBounds_toArray,List.set_cons_zero,List.set_cons_succ,i64_w,i32_w]; rfl)
               refine pure_ (i := 13) (N := some 118) (v := ?_) (a' := ?_) #[true,true,true,true,true,true,true,true,true,true,true,true,true,true,false,false,false,false,false,false,false,false,false,false,false,false,false,false,false,false,false,false,false,false] rfl rfl (any_of HT_.out (by kernel_rfl)) (fun _ _ _ h => h) (Or.inl ⟨by rfl, ?_⟩) ?_ ?_; rotate_left; (· intro w'; go_simp; with_reducible rfl); rotate_left; (· simp only [Act.put,List.setIfInBounds_toArray,List.set_cons_zero,List.set_cons_succ,i64_w,i32_w]; rfl)
               refine pure_ (i := 14) (N := some 119) (v := ?_) (a' := ?_) #[true,true,true,true,true,true,true,true,true,true,true,true,true,true,true,false,false,false,false,false,false,false,false,false,false,false,false,false,false,false,false,false,false,false] rfl rfl (any_of HT_.out (by kernel_rfl)) (fun _ _ _ h => h) (Or.inl ⟨by rfl, ?_⟩) ?_ ?_; rotate_left; (· intro w'; go_simp; with_reducible rfl); rotate_left; (· simp only [Act.put,List.setIfInBounds_toArray,List.set_cons_zero,List.set_cons_succ,i64_w,i32_w]; rfl)
               refine pure_ (i := 15) (N := some 120) (v := ?_) (a' := ?_) #[true,true,true,true,true,true,true,true,true,true,true,true,true,true,true,true,false,false,false,false,false,false,false,false,false,false,false,false,false,false,false,false,false,false] rfl rfl (any_of HT_.out (by kernel_rfl)) (fun _ _ _ h => h) (Or.inl ⟨by rfl, ?_⟩) ?_ ?_; rotate_left; (· intro w'; go_simp; with_reducible rfl); rotate_left; (· simp only [Act.put,List.setIfInBounds_toArray,List.set_cons_zero,List.set_cons_succ,i64_w,i32_w]; rfl)
               refine pure_ (i := 16) (N := some 121) (v := ?_) (a' := ?_) #[true,true,true,true,true,true,true,true,true,true,true,true,true,true,true,true,true,false,false,false,false,false,false,false,false,false,false,false,false,false,false,false,false,false] rfl rfl (any_of HT_.out (by kernel_rfl)) (fun _ _ _ h => h) (Or.inl ⟨by rfl, ?_⟩) ?_ ?_; rotate_left; (· intro w'; go_simp; with_reducible rfl); rotate_left; (· simp only [Act.put,List.setIfInBounds_toArray,List.set_cons_zero,List.set_cons_succ,i64_w,i32_w]; rfl)
               refine pure_ (i := 17) (N := some 122) (v := ?_) (a' := ?_) #[true,true,true,true,true,true,true,true,true,true,true,true,true,true,true,true,true,true,false,false,false,false,false,false,false,false,false,false,false,false,false,false,false,false] rfl rfl (any_of HT_.out (by kernel_rfl)) (fun _ _ _ h => h) (Or.inl ⟨by rfl, ?_⟩) ?_ ?_; rotate_left; (· intro w'; go_simp; with_reducible rfl); rotate_left; (· simp only [Act.put,List.setIfInBounds_toArray,List.set_cons_zero,List.set_cons_succ,i64_w,i32_w]; rfl)
               refine pure_ (i := 19) (N := some 124) (v := ?_) (a' := ?_) #[true,true,true,true,true,true,true,true,true,true,true,true,true,true,true,true,true,true,false,true,false,false,false,false,false,false,false,false,false,false,false,false,false,false] rfl rfl (any_of HT_.out (by kernel_rfl)) (fun _ _ _ h => h) (Or.inl ⟨by rfl, ?_⟩) ?_ ?_; rotate_left; (· intro w'; go_simp; with_reducible rfl); rotate_left; (· simp only [Act.put,List.setIfInBounds_toArray,List.set_cons_zero,List.set_cons_succ,i64_w,i32_w]; rfl)
               refine pure_ (i := 20) (N := some 125) (v := ?_) (a' := ?_) #[true,true,true,true,true,true,true,true,true,true,true,true,true,true,true,true,true,true,false,true,true,false,false,false,false,false,false,false,false,false,false,false,false,false] rfl rfl (any_of HT_.out (by kernel_rfl)) (fun _ _ _ h => h) (Or.inl ⟨by rfl, ?_⟩) ?_ ?_; rotate_left; (· intro w'; go_simp; with_reducible rfl); rotate_left; (· simp only [Act.put,List.setIfInBounds_toArray,List.set_cons_zero,List.set_cons_succ,i64_w,i32_w]; rfl)
               refine pure_ (i := 24) (N := some 129) (v := ?_) (a' := ?_) #[true,true,true,true,true,true,true,true,true,true,true,true,true,true,true,true,true,true,false,true,true,false,false,false,true,false,false,false,false,false,false,false,false,false] rfl rfl (any_of HT_.out (by kernel_rfl)) (fun _ _ _ h => h) (Or.inl ⟨by rfl, ?_⟩) ?_ ?_; rotate_left; (· intro w'; go_simp; with_reducible rfl); rotate_left; (· simp only [Act.put,List.setIfInBounds_toArray,List.set_cons_zero,List.set_cons_succ,i64_w,i32_w]; rfl)
               refine pure_ (i := 25) (N := some 130) (v := ?_) (a' := ?_) #[true,true,true,true,true,true,true,true,true,true,true,true,true,true,true,true,true,true,false,true,true,false,false,false,true,true,false,false,false,false,false,false,false,false] rfl rfl (any_of HT_.out (by kernel_rfl)) (fun _ _ _ h => h) (Or.inl ⟨by rfl, ?_⟩) ?_ ?_; rotate_left; (· intro w'; go_simp; with_reducible rfl); rotate_left; (· simp only [Act.put,List.setIfInBounds_toArray,List.set_cons_zero,List.set_cons_succ,i64_w,i32_w]; rfl)
               refine pure_ (i := 26) (N := some 131) (v := ?_) (a' := ?_) #[true,true,true,true,true,true,true,true,true,true,true,true,true,true,true,true,true,true,false,true,true,false,false,false,true,true,true,false,false,false,false,false,false,false] rfl rfl (any_of HT_.out (by kernel_rfl)) (fun _ _ _ h => h) (Or.inl ⟨by rfl, ?_⟩) ?_ ?_; rotate_left; (· intro w'; go_simp; with_reducible rfl); rotate_left; (· simp only [Act.put,List.setIfInBounds_toArray,List.set_cons_zero,List.set_cons_succ,i64_w,i32_w]; rfl)
               refine pure_ (i := 28) (N := some 133) (v := ?_) (a' := ?_) #[true,true,true,true,true,true,true,true,true,true,true,true,true,true,true,true,true,true,false,true,true,false,false,false,true,true,true,false,true,false,false,false,false,false] rfl rfl (any_of HT_.out (by kernel_rfl)) (fun _ _ _ h => h) (Or.inl ⟨by rfl, ?_⟩) ?_ ?_; rotate_left; (· intro w'; go_simp; with_reducible rfl); rotate_left; (· simp only [Act.put,List.setIfInBounds_toArray,List.set_cons_zero,List.set_cons_succ,i64_w,i32_w]; rfl)
               refine take_ (i := 18) (N := some 123) (v := ?_) (a' := ?_) #[true,true,true,true,true,true,true,true,true,true,true,true,true,true,true,true,true,true,true,true,true,false,false,false,true,true,true,false,true,false,false,false,false,false] rfl rfl (take_ofW HT_.out HW_.out (by kernel_rfl)) (fun _ _ _ h => h) (Or.inl ⟨by rfl, ?_⟩) hHeld ?_ ?_; rotate_left; (· rintro w' ⟨s0, s1, s2, s3, s4, s5, s6, s7, s8, s9, s10, s11, s12, s13⟩; go_simp; with_reducible rfl); rotate_left; (· simp only [Act.put,List.setIfInBounds_toArray,List.set_cons_zero,List.set_cons_succ,i64_w,i32_w]; rfl)
               refine pure_ (i := 21) (N := some 126) (v := ?_) (a' := ?_) #[true,true,true,true,true,true,true,true,true,true,true,true,true,true,true,true,true,true,true,true,true,true,false,false,true,true,true,false,true,false,false,false,false,false] rfl rfl (any_of HT_.out (by kernel_rfl)) (fun _ _ _ h => h) (Or.inl ⟨by rfl, ?_⟩) ?_ ?_; rotate_left; (· intro w'; go_simp; with_reducible rfl); rotate_left; (· simp only [Act.put,List.setIfInBounds_toArray,List.set_cons_zero,List.set_cons_succ,i64_w,i32_w]; rfl)
               refine take_ (i := 22) (N := some 127) (v := ?_) (a' := ?_) #[true,true,true,true,true,true,true,true,true,true,true,true,true,true,true,true,true,true,true,true,true,true,true,false,true,true,true,false,true,false,false,false,false,false] rfl rfl (take_ofW HT_.out HW_.out (by kernel_rfl)) (fun _ _ _ h => h) (Or.inl ⟨by rfl, ?_⟩) hHeld ?_ ?_; rotate_left; (· rintro w' ⟨s0, s1, s2, s3, s4, s5, s6, s7, s8, s9, s10, s11, s12, s13⟩; go_simp; with_reducible rfl); rotate_left; (· simp only [Act.put,List.setIfInBounds_toArray,List.set_cons_zero,List.set_cons_succ,i64_w,i32_w]; rfl)
               refine pure_ (i := 23) (N := some 128) (v := ?_) (a' := ?_) #[true,true,true,true,true,true,true,true,true,true,true,true,true,true,true,true,true,true,true,true,true,true,true,true,true,true,true,false,true,false,false,false,false,false] rfl rfl (any_of HT_.out (by kernel_rfl)) (fun _ _ _ h => h) (Or.inl ⟨by rfl, ?_⟩) ?_ ?_; rotate_left; (· intro w'; go_simp; with_reducible rfl); rotate_left; (· simp only [Act.put,List.setIfInBounds_toArray,List.set_cons_zero,List.set_cons_succ,i64_w,i32_w]; rfl)
               refine take_ (i := 27) (N := some 132) (v := ?_) (a' := ?_) #[true,true,true,true,true,true,true,true,true,true,true,true,true,true,true,true,true,true,true,true,true,true,true,true,true,true,true,true,true,false,false,false,false,false] rfl rfl (take_ofW HT_.out HW_.out (by kernel_rfl)) (fun _ _ _ h => h) (Or.inl ⟨by rfl, ?_⟩) hHeld ?_ ?_; rotate_left; (· rintro w' ⟨s0, s1, s2, s3, s4, s5, s6, s7, s8, s9, s10, s11, s12, s13⟩; go_simp; with_reducible rfl); rotate_left; (· simp only [Act.put,List.setIfInBounds_toArray,List.set_cons_zero,List.set_cons_succ,i64_w,i32_w]; rfl)
               refine pure_ (i := 29) (N := some 134) (v := ?_) (a' := ?_) #[true,true,true,true,true,true,true,true,true,true,true,true,true,true,true,true,true,true,true,true,true,true,true,true,true,true,true,true,true,true,false,false,false,false] rfl rfl (any_of HT_.out (by kernel_rfl)) (fun _ _ _ h => h) (Or.inl ⟨by rfl, ?_⟩) ?_ ?_; rotate_left; (· intro w'; go_simp; with_reducible rfl); rotate_left; (· simp only [Act.put,List.setIfInBounds_toArray,List.set_cons_zero,List.set_cons_succ,i64_w,i32_w]; rfl)
               refine take_ (i := 30) (N := some 135) (v := ?_) (a' := ?_) #[true,true,true,true,true,true,true,true,true,true,true,true,true,true,true,true,true,true,true,true,true,true,true,true,true,true,true,true,true,true,true,false,false,false] rfl rfl (take_ofW HT_.out HW_.out (by kernel_rfl)) (fun _ _ _ h => h) (Or.inl ⟨by rfl, ?_⟩) hHeld ?_ ?_; rotate_left; (· rintro w' ⟨s0, s1, s2, s3, s4, s5, s6, s7, s8, s9, s10, s11, s12, s13⟩; go_simp; with_reducible rfl); rotate_left; (· simp only [Act.put,List.setIfInBounds_toArray,List.set_cons_zero,List.set_cons_succ,i64_w,i32_w]; rfl)
               refine pure_ (i := 31) (N := some 136) (v := ?_) (a' := ?_) #[true,true,true,true,true,true,true,true,true,true,true,true,true,true,true,true,true,true,true,true,true,true,true,true,true,true,true,true,true,true,true,true,false,false] rfl rfl (any_of HT_.out (by kernel_rfl)) (fun _ _ _ h => h) (Or.inl ⟨by rfl, ?_⟩) ?_ ?_; rotate_left; (· intro w'; go_simp; with_reducible rfl); rotate_left; (· simp only [Act.put,List.setIfInBounds_toArray,List.set_cons_zero,List.set_cons_succ,i64_w,i32_w]; rfl)
               refine pure_ (i := 32) (N := some 137) (v := ?_) (a' := ?_) #[true,true,true,true,true,true,true,true,true,true,true,true,true,true,true,true,true,true,true,true,true,true,true,true,true,true,true,true,true,true,true,true,true,false] rfl rfl (any_of HT_.out (by kernel_rfl)) (fun _ _ _ h => h) (Or.inl ⟨by rfl, ?_⟩) ?_ ?_; rotate_left; (· intro w'; go_simp; with_reducible rfl); rotate_left; (· simp only [Act.put,List.setIfInBounds_toArray,List.set_cons_zero,List.set_cons_succ,i64_w,i32_w]; rfl)
               refine pure_ (i := 33) (N := some 104) (v := ?_) (a' := ?_) #[true,true,true,true,true,true,true,true,true,true,true,true,true,true,true,true,true,true,true,true,true,true,true,true,true,true,true,true,true,true,true,true,true,true] rfl rfl (any_of HT_.out (by kernel_rfl)) (fun _ _ _ h => h) (Or.inl ⟨by rfl, ?_⟩) ?_ ?_; rotate_left; (· intro w'; go_simp; with_reducible rfl); rotate_left; (· simp only [Act.put,List.setIfInBounds_toArray,List.set_cons_zero,List.set_cons_succ,i64_w,i32_w]; rfl)
               refine done_ (done_of HT_.out (by kernel_rfl)) ?_
               try go_wp2
               (try simp only [← hji54, ← hji57])
               (try (have H2_ := H'.out; simp only [← hji54, ← hji57] at H2_; clear H'; have H' := Aside0.mk H2_; clear H2_))
               go_meet
               case rel => exact ⟨_, (((wrap64 ((rd (rd_L7 t226 (ji54)) (ji57)) + 1)) == (rd (rd_L7 t226 x11_1) x12_1))), (by first | rfl | (simp; done) | (simp only [← hji54, ← hji57] <;> (first | rfl | simp)) | (simp [*]; done)), (by first | exact H' | (refine ⟨?_⟩; simp only [← hji54, ← hji57]; exact H'.out)), ⟨by have := HK1.out; have := HJ9.out; have := HJ12.out; have := HJ14.out; first | omega | exact Nat.le_refl _⟩, ⟨by (with_reducible repeat (first | apply Kd.R_alloc | apply Kd.R_drewN | apply Kd.R_drew)); exact HO_6.out⟩, ⟨by (with_reducible repeat (first | apply Kd.R_alloc | apply Kd.R_drewN | apply Kd.R_drew)); exact HO_7.out⟩, ⟨by (with_reducible repeat (first | apply Kd.S_alloc | apply Kd.S_drewN | apply Kd.S_drew)); exact HO_9.out⟩, ⟨by (with_reducible repeat (first | apply Kd.R_alloc | apply Kd.R_drewN | apply Kd.R_drew)); exact HO_10.out⟩, ⟨by repeat (first | (with_reducible first | exact HB.out | apply below_alloc | apply pw_below_drewN | apply below_drew1) | exact HB.out)⟩⟩
             ·
              replace c45 := Bool.eq_false_iff.mpr c45
              subst c45
              have H1 : (siglumref08_Path.j4 kj14 a0 a1 t219 t220 t226 x10_1 x11_1 x12_1 false) = some (r1, r2) := by rw [if_neg (show ¬ (false = true) by decide)] at H; exact H
              clear H
              have H := H1
              clear H1
              have H' := Aside0.mk H
              clear H
              try go_wp2
              have n0_ := Aside0.mk (Kd.R_drew HO_6.out)
              have n1_ := Aside0.mk (Kd.R_drew HO_7.out)
              have n2_ := Aside0.mk (Kd.S_drew HO_9.out)
              have n3_ := Aside0.mk (Kd.R_drew HO_10.out)
              have n4_ := Aside0.mk (below_drew1 HB.out)
              clear HO_6
              clear HO_7
              clear HO_9
              clear HO_10
              clear HB
              have HO_6 := n0_
              have HO_7 := n1_
              have HO_9 := n2_
              have HO_10 := n3_
              have HB := n4_
              clear n0_ n1_ n2_ n3_ n4_
              refine start_ (n := 34) (S := fun w' => True) (ds := []) #[false,false,false,false,false,false,false,false,false,false,false,false,false,false,false,false,false,false,false,false,false,false,false,false,false,false,false,false,false,false,false,false,false,false] (by kernel_rfl) rfl rfl trivial (fun hHeld => ?_); refine with_tabW siglumref08_Path.tab16 siglumref08_Path.bits16 (fun HT_ HW_ => ?_)
              generalize wc.drew = w65 at HO_6 HO_7 HO_9 HO_10 HB hHeld ⊢
              refine pure_ (i := 0) (N := some 105) (v := ?_) (a' := ?_) #[true,false,false,false,false,false,false,false,false,false,false,false,false,false,false,false,false,false,false,false,false,false,false,false,false,false,false,false,false,false,false,false,false,false] rfl rfl (any_of HT_.out (by kernel_rfl)) (fun _ _ _ h => h) (Or.inl ⟨by rfl, ?_⟩) ?_ ?_; rotate_left; (· intro w'; go_simp; with_reducible rfl); rotate_left; (· simp only [Act.put,List.setIfInBounds_toArray,List.set_cons_zero,List.set_cons_succ,i64_w,i32_w]; rfl)
              refine pure_ (i := 1) (N := some 106) (v := ?_) (a' := ?_) #[true,true,false,false,false,false,false,false,false,false,false,false,false,false,false,false,false,false,false,false,false,false,false,false,false,false,false,false,false,false,false,false,false,false] rfl rfl (any_of HT_.out (by kernel_rfl)) (fun _ _ _ h => h) (Or.inl ⟨by rfl, ?_⟩) ?_ ?_; rotate_left; (· intro w'; go_simp; with_reducible rfl); rotate_left; (· simp only [Act.put,List.setIfInBounds_toArray,List.set_cons_zero,List.set_cons_succ,i64_w,i32_w]; rfl)
              refine pure_ (i := 2) (N := some 107) (v := undef) (a' := ?_) #[true,true,true,false,false,false,false,false,false,false,false,false,false,false,false,false,false,false,false,false,false,false,false,false,false,false,false,false,false,false,false,false,false,false] rfl rfl (any_of HT_.out (by kernel_rfl)) (fun _ _ _ h => h) (Or.inr ⟨by rfl, rfl⟩) ?_ ?_
              rotate_left
              ·
               simp only [Act.put,List.setIfInBounds_toArray,List.set_cons_zero,List.set_cons_succ,i64_w,i32_w]
               rfl
              refine pure_ (i := 3) (N := some 108) (v := undef) (a' := ?_) #[true,true,true,true,false,false,false,false,false,false,false,false,false,false,false,false,false,false,false,false,false,false,false,false,false,false,false,false,false,false,false,false,false,false] rfl rfl (any_of HT_.out (by kernel_rfl)) (fun _ _ _ h => h) (Or.inr ⟨by rfl, rfl⟩) ?_ ?_
              rotate_left
              ·
               simp only [Act.put,List.setIfInBounds_toArray,List.set_cons_zero,List.set_cons_succ,i64_w,i32_w]
               rfl
              refine pure_ (i := 4) (N := some 109) (v := undef) (a' := ?_) #[true,true,true,true,true,false,false,false,false,false,false,false,false,false,false,false,false,false,false,false,false,false,false,false,false,false,false,false,false,false,false,false,false,false] rfl rfl (any_of HT_.out (by kernel_rfl)) (fun _ _ _ h => h) (Or.inr ⟨by rfl, rfl⟩) ?_ ?_
              rotate_left
              ·
               simp only [Act.put,List.setIfInBounds_toArray,List.set_cons_zero,List.set_cons_succ,i64_w,i32_w]
               rfl
              refine pure_ (i := 5) (N := some 110) (v := undef) (a' := ?_) #[true,true,true,true,true,true,false,false,false,false,false,false,false,false,false,false,false,false,false,false,false,false,false,false,false,false,false,false,false,false,false,false,false,false] rfl rfl (any_of HT_.out (by kernel_rfl)) (fun _ _ _ h => h) (Or.inr ⟨by rfl, rfl⟩) ?_ ?_
              rotate_left
              ·
               simp only [Act.put,List.setIfInBounds_toArray,List.set_cons_zero,List.set_cons_succ,i64_w,i32_w]
               rfl
              refine pure_ (i := 6) (N := some 111) (v := undef) (a' := ?_) #[true,true,true,true,true,true,true,false,false,false,false,false,false,false,false,false,false,false,false,false,false,false,false,false,false,false,false,false,false,false,false,false,false,false] rfl rfl (any_of HT_.out (by kernel_rfl)) (fun _ _ _ h => h) (Or.inr ⟨by rfl, rfl⟩) ?_ ?_
              rotate_left
              ·
               simp only [Act.put,List.setIfInBounds_toArray,List.set_cons_zero,List.set_cons_succ,i64_w,i32_w]
               rfl
              refine pure_ (i := 7) (N := some 112) (v := undef) (a' := ?_) #[true,true,true,true,true,true,true,true,false,false,false,false,false,false,false,false,false,false,false,false,false,false,false,false,false,false,false,false,false,false,false,false,false,false] rfl rfl (any_of HT_.out (by kernel_rfl)) (fun _ _ _ h => h) (Or.inr ⟨by rfl, rfl⟩) ?_ ?_
              rotate_left
              ·
               simp only [Act.put,List.setIfInBounds_toArray,List.set_cons_zero,List.set_cons_succ,i64_w,i32_w]
               rfl
              refine pure_ (i := 8) (N := some 113) (v := undef) (a' := ?_) #[true,true,true,true,true,true,true,true,true,false,false,false,false,false,false,false,false,false,false,false,false,false,false,false,false,false,false,false,false,false,false,false,false,false] rfl rfl (any_of HT_.out (by kernel_rfl)) (fun _ _ _ h => h) (Or.inr ⟨by rfl, rfl⟩) ?_ ?_
              rotate_left
              ·
               simp only [Act.put,List.setIfInBounds_toArray,List.set_cons_zero,List.set_cons_succ,i64_w,i32_w]
               rfl
              refine pure_ (i := 9) (N := some 114) (v := undef) (a' := ?_) #[true,true,true,true,true,true,true,true,true,true,false,false,false,false,false,false,false,false,false,false,false,false,false,false,false,false,false,false,false,false,false,false,false,false] rfl rfl (any_of HT_.out (by kernel_rfl)) (fun _ _ _ h => h) (Or.inr ⟨by rfl, rfl⟩) ?_ ?_
              rotate_left
              ·
               simp only [Act.put,List.setIfInBounds_toArray,List.set_cons_zero,List.set_cons_succ,i64_w,i32_w]
               rfl
              refine pure_ (i := 10) (N := some 115) (v := undef) (a' := ?_) #[true,true,true,true,true,true,true,true,true,true,true,false,false,false,false,false,false,false,false,false,false,false,false,false,false,false,false,false,false,false,false,false,false,false] rfl rfl (any_of HT_.out (by kernel_rfl)) (fun _ _ _ h => h) (Or.inr ⟨by rfl, rfl⟩) ?_ ?_
              rotate_left
              ·
               simp only [Act.put,List.setIfInBounds_toArray,List.set_cons_zero,List.set_cons_succ,i64_w,i32_w]
               rfl
              refine pure_ (i := 11) (N := some 116) (v := undef) (a' := ?_) #[true,true,true,true,true,true,true,true,true,true,true,true,false,false,false,false,false,false,false,false,false,false,false,false,false,false,false,false,false,false,false,false,false,false] rfl rfl (any_of HT_.out (by kernel_rfl)) (fun _ _ _ h => h) (Or.inr ⟨by rfl, rfl⟩) ?_ ?_
              rotate_left
              ·
               simp only [Act.put,List.setIfInBounds_toArray,List.set_cons_zero,List.set_cons_succ,i64_w,i32_w]
               rfl
              refine pure_ (i := 12) (N := some 117) (v := ?_) (a' := ?_) #[true,true,true,true,true,true,true,true,true,true,true,true,true,false,false,false,false,false,false,false,false,false,false,false,false,false,false,false,false,false,false,false,false,false] rfl rfl (any_of HT_.out (by kernel_rfl)) (fun _ _ _ h => h) (Or.inl ⟨by rfl, ?_⟩) ?_ ?_; rotate_left; (· intro w'; go_simp; with_reducible rfl); rotate_left; (· simp only [Act.put,List.setIfInBounds_toArray,List.set_cons_zero,List.set_cons_succ,i64_w,i32_w]; rfl)
              refine pure_ (i := 13) (N := some 118) (v := ?_) (a' := ?_) #[true,true,true,true,true,true,true,true,true,true,true,true,true,true,false,false,false,false,false,false,false,false,false,false,false,false,false,false,false,false,false,false,false,false] rfl rfl (any_of HT_.out (by kernel_rfl)) (fun _ _ _ h => h) (Or.inl ⟨by rfl, ?_⟩) ?_ ?_; rotate_left; (· intro w'; go_simp; with_reducible rfl); rotate_left; (· simp only [Act.put,List.setIfInBounds_toArray,List.set_cons_zero,List.set_cons_succ,i64_w,i32_w]; rfl)
              refine pure_ (i := 14) (N := some 119) (v := undef) (a' := ?_) #[true,true,true,true,true,true,true,true,true,true,true,true,true,true,true,false,false,false,false,false,false,false,false,false,false,false,false,false,false,false,false,false,false,false] rfl rfl (any_of HT_.out (by kernel_rfl)) (fun _ _ _ h => h) (Or.inr ⟨by rfl, rfl⟩) ?_ ?_
              rotate_left
              ·
               simp only [Act.put,List.setIfInBounds_toArray,List.set_cons_zero,List.set_cons_succ,i64_w,i32_w]
               rfl
              refine pure_ (i := 15) (N := some 120) (v := undef) (a' := ?_) #[true,true,true,true,true,true,true,true,true,true,true,true,true,true,true,true,false,false,false,false,false,false,false,false,false,false,false,false,false,false,false,false,false,false] rfl rfl (any_of HT_.out (by kernel_rfl)) (fun _ _ _ h => h) (Or.inr ⟨by rfl, rfl⟩) ?_ ?_
              rotate_left
              ·
               simp only [Act.put,List.setIfInBounds_toArray,List.set_cons_zero,List.set_cons_succ,i64_w,i32_w]
               rfl
              refine pure_ (i := 16) (N := some 121) (v := undef) (a' := ?_) #[true,true,true,true,true,true,true,true,true,true,true,true,true,true,true,true,true,false,false,false,false,false,false,false,false,false,false,false,false,false,false,false,false,false] rfl rfl (any_of HT_.out (by kernel_rfl)) (fun _ _ _ h => h) (Or.inr ⟨by rfl, rfl⟩) ?_ ?_
              rotate_left
              ·
               simp only [Act.put,List.setIfInBounds_toArray,List.set_cons_zero,List.set_cons_succ,i64_w,i32_w]
               rfl
              refine pure_ (i := 17) (N := some 122) (v := undef) (a' := ?_) #[true,true,true,true,true,true,true,true,true,true,true,true,true,true,true,true,true,true,false,false,false,false,false,false,false,false,false,false,false,false,false,false,false,false] rfl rfl (any_of HT_.out (by kernel_rfl)) (fun _ _ _ h => h) (Or.inr ⟨by rfl, rfl⟩) ?_ ?_
              rotate_left
              ·
               simp only [Act.put,List.setIfInBounds_toArray,List.set_cons_zero,List.set_cons_succ,i64_w,i32_w]
               rfl
              refine pure_ (i := 18) (N := some 123) (v := undef) (a' := ?_) #[true,true,true,true,true,true,true,true,true,true,true,true,true,true,true,true,true,true,true,false,false,false,false,false,false,false,false,false,false,false,false,false,false,false] rfl rfl (any_of HT_.out (by kernel_rfl)) (fun _ _ _ h => h) (Or.inr ⟨by rfl, rfl⟩) ?_ ?_
              rotate_left
              ·
               simp only [Act.put,List.setIfInBounds_toArray,List.set_cons_zero,List.set_cons_succ,i64_w,i32_w]
               rfl
              refine pure_ (i := 19) (N := some 124) (v := undef) (a' := ?_) #[true,true,true,true,true,true,true,true,true,true,true,true,true,true,true,true,true,true,true,true,false,false,false,false,false,false,false,false,false,false,false,false,false,false] rfl rfl (any_of HT_.out (by kernel_rfl)) (fun _ _ _ h => h) (Or.inr ⟨by rfl, rfl⟩) ?_ ?_
              rotate_left
              ·
               simp only [Act.put,List.setIfInBounds_toArray,List.set_cons_zero,List.set_cons_succ,i64_w,i32_w]
               rfl
              refine pure_ (i := 20) (N := some 125) (v := undef) (a' := ?_) #[true,true,true,true,true,true,true,true,true,true,true,true,true,true,true,true,true,true,true,true,true,false,false,false,false,false,false,false,false,false,false,false,false,false] rfl rfl (any_of HT_.out (by kernel_rfl)) (fun _ _ _ h => h) (Or.inr ⟨by rfl, rfl⟩) ?_ ?_
              rotate_left
              ·
               simp only [Act.put,List.setIfInBounds_toArray,List.set_cons_zero,List.set_cons_succ,i64_w,i32_w]
               rfl
              refine pure_ (i := 21) (N := some 126) (v := undef) (a' := ?_) #[true,true,true,true,true,true,true,true,true,true,true,true,true,true,true,true,true,true,true,true,true,true,false,false,false,false,false,false,false,false,false,false,false,false] rfl rfl (any_of HT_.out (by kernel_rfl)) (fun _ _ _ h => h) (Or.inr ⟨by rfl, rfl⟩) ?_ ?_
              rotate_left
              ·
               simp only [Act.put,List.setIfInBounds_toArray,List.set_cons_zero,List.set_cons_succ,i64_w,i32_w]
               rfl
              refine pure_ (i := 22) (N := some 127) (v := undef) (a' := ?_) #[true,true,true,true,true,true,true,true,true,true,true,true,true,true,true,true,true,true,true,true,true,true,true,false,false,false,false,false,false,false,false,false,false,false] rfl rfl (any_of HT_.out (by kernel_rfl)) (fun _ _ _ h => h) (Or.inr ⟨by rfl, rfl⟩) ?_ ?_
              rotate_left
              ·
               simp only [Act.put,List.setIfInBounds_toArray,List.set_cons_zero,List.set_cons_succ,i64_w,i32_w]
               rfl
              refine pure_ (i := 23) (N := some 128) (v := undef) (a' := ?_) #[true,true,true,true,true,true,true,true,true,true,true,true,true,true,true,true,true,true,true,true,true,true,true,true,false,false,false,false,false,false,false,false,false,false] rfl rfl (any_of HT_.out (by kernel_rfl)) (fun _ _ _ h => h) (Or.inr ⟨by rfl, rfl⟩) ?_ ?_
              rotate_left
              ·
               simp only [Act.put,List.setIfInBounds_toArray,List.set_cons_zero,List.set_cons_succ,i64_w,i32_w]
               rfl
              refine pure_ (i := 24) (N := some 129) (v := undef) (a' := ?_) #[true,true,true,true,true,true,true,true,true,true,true,true,true,true,true,true,true,true,true,true,true,true,true,true,true,false,false,false,false,false,false,false,false,false] rfl rfl (any_of HT_.out (by kernel_rfl)) (fun _ _ _ h => h) (Or.inr ⟨by rfl, rfl⟩) ?_ ?_
              rotate_left
              ·
               simp only [Act.put,List.setIfInBounds_toArray,List.set_cons_zero,List.set_cons_succ,i64_w,i32_w]
               rfl
              refine pure_ (i := 25) (N := some 130) (v := undef) (a' := ?_) #[true,true,true,true,true,true,true,true,true,true,true,true,true,true,true,true,true,true,true,true,true,true,true,true,true,true,false,false,false,false,false,false,false,false] rfl rfl (any_of HT_.out (by kernel_rfl)) (fun _ _ _ h => h) (Or.inr ⟨by rfl, rfl⟩) ?_ ?_
              rotate_left
              ·
               simp only [Act.put,List.setIfInBounds_toArray,List.set_cons_zero,List.set_cons_succ,i64_w,i32_w]
               rfl
              refine pure_ (i := 26) (N := some 131) (v := undef) (a' := ?_) #[true,true,true,true,true,true,true,true,true,true,true,true,true,true,true,true,true,true,true,true,true,true,true,true,true,true,true,false,false,false,false,false,false,false] rfl rfl (any_of HT_.out (by kernel_rfl)) (fun _ _ _ h => h) (Or.inr ⟨by rfl, rfl⟩) ?_ ?_
              rotate_left
              ·
               simp only [Act.put,List.setIfInBounds_toArray,List.set_cons_zero,List.set_cons_succ,i64_w,i32_w]
               rfl
              refine pure_ (i := 27) (N := some 132) (v := undef) (a' := ?_) #[true,true,true,true,true,true,true,true,true,true,true,true,true,true,true,true,true,true,true,true,true,true,true,true,true,true,true,true,false,false,false,false,false,false] rfl rfl (any_of HT_.out (by kernel_rfl)) (fun _ _ _ h => h) (Or.inr ⟨by rfl, rfl⟩) ?_ ?_
              rotate_left
              ·
               simp only [Act.put,List.setIfInBounds_toArray,List.set_cons_zero,List.set_cons_succ,i64_w,i32_w]
               rfl
              refine pure_ (i := 28) (N := some 133) (v := undef) (a' := ?_) #[true,true,true,true,true,true,true,true,true,true,true,true,true,true,true,true,true,true,true,true,true,true,true,true,true,true,true,true,true,false,false,false,false,false] rfl rfl (any_of HT_.out (by kernel_rfl)) (fun _ _ _ h => h) (Or.inr ⟨by rfl, rfl⟩) ?_ ?_
              rotate_left
              ·
               simp only [Act.put,List.setIfInBounds_toArray,List.set_cons_zero,List.set_cons_succ,i64_w,i32_w]
               rfl
              refine pure_ (i := 29) (N := some 134) (v := undef) (a' := ?_) #[true,true,true,true,true,true,true,true,true,true,true,true,true,true,true,true,true,true,true,true,true,true,true,true,true,true,true,true,true,true,false,false,false,false] rfl rfl (any_of HT_.out (by kernel_rfl)) (fun _ _ _ h => h) (Or.inr ⟨by rfl, rfl⟩) ?_ ?_
              rotate_left
              ·
               simp only [Act.put,List.setIfInBounds_toArray,List.set_cons_zero,List.set_cons_succ,i64_w,i32_w]
               rfl
              refine pure_ (i := 30) (N := some 135) (v := undef) (a' := ?_) #[true,true,true,true,true,true,true,true,true,true,true,true,true,true,true,true,true,true,true,true,true,true,true,true,true,true,true,true,true,true,true,false,false,false] rfl rfl (any_of HT_.out (by kernel_rfl)) (fun _ _ _ h => h) (Or.inr ⟨by rfl, rfl⟩) ?_ ?_
              rotate_left
              ·
               simp only [Act.put,List.setIfInBounds_toArray,List.set_cons_zero,List.set_cons_succ,i64_w,i32_w]
               rfl
              refine pure_ (i := 31) (N := some 136) (v := undef) (a' := ?_) #[true,true,true,true,true,true,true,true,true,true,true,true,true,true,true,true,true,true,true,true,true,true,true,true,true,true,true,true,true,true,true,true,false,false] rfl rfl (any_of HT_.out (by kernel_rfl)) (fun _ _ _ h => h) (Or.inr ⟨by rfl, rfl⟩) ?_ ?_
              rotate_left
              ·
               simp only [Act.put,List.setIfInBounds_toArray,List.set_cons_zero,List.set_cons_succ,i64_w,i32_w]
               rfl
              refine pure_ (i := 32) (N := some 137) (v := ?_) (a' := ?_) #[true,true,true,true,true,true,true,true,true,true,true,true,true,true,true,true,true,true,true,true,true,true,true,true,true,true,true,true,true,true,true,true,true,false] rfl rfl (any_of HT_.out (by kernel_rfl)) (fun _ _ _ h => h) (Or.inl ⟨by rfl, ?_⟩) ?_ ?_; rotate_left; (· intro w'; go_simp; with_reducible rfl); rotate_left; (· simp only [Act.put,List.setIfInBounds_toArray,List.set_cons_zero,List.set_cons_succ,i64_w,i32_w]; rfl)
              refine pure_ (i := 33) (N := some 104) (v := ?_) (a' := ?_) #[true,true,true,true,true,true,true,true,true,true,true,true,true,true,true,true,true,true,true,true,true,true,true,true,true,true,true,true,true,true,true,true,true,true] rfl rfl (any_of HT_.out (by kernel_rfl)) (fun _ _ _ h => h) (Or.inl ⟨by rfl, ?_⟩) ?_ ?_; rotate_left; (· intro w'; go_simp; with_reducible rfl); rotate_left; (· simp only [Act.put,List.setIfInBounds_toArray,List.set_cons_zero,List.set_cons_succ,i64_w,i32_w]; rfl)
              refine done_ (done_of HT_.out (by kernel_rfl)) ?_
              try go_wp2
              go_meet
              case rel => exact ⟨_, (false), (by first | rfl | (simp; done) | (simp [*]; done)), H', ⟨by have := HK1.out; have := HJ9.out; have := HJ12.out; have := HJ14.out; first | omega | exact Nat.le_refl _⟩, ⟨by (with_reducible repeat (first | apply Kd.R_alloc | apply Kd.R_drewN | apply Kd.R_drew)); exact HO_6.out⟩, ⟨by (with_reducible repeat (first | apply Kd.R_alloc | apply Kd.R_drewN | apply Kd.R_drew)); exact HO_7.out⟩, ⟨by (with_reducible repeat (first | apply Kd.S_alloc | apply Kd.S_drewN | apply Kd.S_drew)); exact HO_9.out⟩, ⟨by (with_reducible repeat (first | apply Kd.R_alloc | apply Kd.R_drewN | apply Kd.R_drew)); exact HO_10.out⟩, ⟨by repeat (first | (with_reducible first | exact HB.out | apply below_alloc | apply pw_below_drewN | apply below_drew1) | exact HB.out)⟩⟩
            case rest =>
             clear HC44
             (try clear c2); (try clear p2); (try clear q2); (try clear hx2); (try clear c3); (try clear c4); (try clear c5); (try clear c6); (try clear p6); (try clear c24); (try clear p24); (try clear q24); (try clear hx24); (try clear c37); (try clear c45); (try clear c46); (try clear c47); (try clear c48); (try clear c49); (try clear c55); (try clear c56); (try clear c58); (try clear c59); (try clear c60); (try clear c61); (try clear p64); (try clear hx241_0); (try clear hx241_1); (try clear hx241_2); (try clear hx241_3); (try clear hx241_4); (try clear hx242_0); (try clear hx242_1); (try clear hx242_2); (try clear hx242_3); (try clear hx242_4); (try clear hx244_0); (try clear hx245_0); (try clear hx246_0); (try clear hx247_0); (try clear p241); (try clear p242); (try clear p244); (try clear p245); (try clear p246); (try clear p247); (try clear q241); (try clear q242); (try clear q244); (try clear q245); (try clear q246); (try clear q247)
             obtain ⟨kq, x104_43, rfl, HA, HJ43, HO_6, HO_7, HO_9, HO_10, HB⟩ := hcut
             cases kq with
             | zero => exact absurd HA.out (by simp [siglumref08_Path.j4])
             | succ kj43 =>
              have H := HA.out
              clear HA
              simp only [siglumref08_Path.j4] at H
              by_cases c66 : x104_43 = true
              ·
               subst c66
               have H1 : (if 0 ≤ x12_1 then (if x12_1 < (t220.length : Int) then ((siglumref08_bytes.f a1 ((rd_T75 t220 x12_1).f0) ((rd_T75 t220 x12_1).f1) ((rd_T75 t220 x12_1).f2) ((rd_T75 t220 x12_1).f3) ((rd_T75 t220 x12_1).f4)).bind fun t249 => (if x10_1.length < 5864062014805 then (siglumref08_Path.l0 kj43 a0 a1 t219 t220 t226 (x10_1 ++ [(⟨2, t249⟩ : S30)]) (wrap64 (x11_1 + 1)) (wrap64 (x12_1 + 1))) else (none))) else (none)) else (none)) = some (r1, r2) := by rw [if_pos rfl] at H; exact H
               clear H
               have H := H1
               clear H1
               by_cases c67 : 0 ≤ x12_1
               rotate_left
               · rw [if_neg c67] at H; exact absurd H (by simp)
               rw [if_pos c67] at H
               have c67b0 : decide (0 ≤ x12_1) = true := decide_eq_true c67
               clear c67
               by_cases c68 : x12_1 < (t220.length : Int)
               rotate_left
               · rw [if_neg c68] at H; exact absurd H (by simp)
               rw [if_pos c68] at H
               have c68b0 : decide (x12_1 < (t220.length : Int)) = true := decide_eq_true c68
               clear c68
               replace H := Option.bind_eq_some_iff.mp H
               obtain ⟨t249, A690, H⟩ := H
               replace H : (if x10_1.length < 5864062014805 then (siglumref08_Path.l0 kj43 a0 a1 t219 t220 t226 (x10_1 ++ [(⟨2, t249⟩ : S30)]) (wrap64 (x11_1 + 1)) (wrap64 (x12_1 + 1))) else (none)) = some (r1, r2) := H
               have A69 := Aside0.mk A690
               clear A690
               by_cases c70 : x10_1.length < 5864062014805
               rotate_left
               · rw [if_neg c70] at H; exact absurd H (by simp)
               rw [if_pos c70] at H
               have LMc70 := Aside0.mk c70
               clear c70
               obtain ⟨y250, hy250⟩ : ∃ y_ : List (S30), y_ = (x10_1 ++ [(⟨2, t249⟩ : S30)]) := ⟨_, rfl⟩
               replace H : (siglumref08_Path.l0 kj43 a0 a1 t219 t220 t226 y250 (wrap64 (x11_1 + 1)) (wrap64 (x12_1 + 1))) = some (r1, r2) := by first | (rw [hy250]; with_reducible exact H) | (have H2_ := (Option.bind_some _ _).symm.trans H; rw [hy250]; with_reducible exact H2_) | (have H2_ := (Option.bind_some _ _).symm.trans H; with_reducible exact H2_) | with_reducible exact H | (rw [hy250]; exact H) | exact H
               have Ny250 := Aside0.mk hy250
               clear hy250
               have H' := Aside0.mk H
               clear H
               have p248 : 0 ≤ (x12_1 : Int) := of_decide_eq_true (by assumption)
               have q248 : x12_1 < (t220.length : Int) := of_decide_eq_true (by assumption)
               obtain ⟨ad248, e248, hx248_0, hx248_1, hx248_2, hx248_3, hx248_4⟩ := at_T75 (Kd.R_reads' HO_7.out).2.2 x12_1 p248 q248
               cases e248
               replace p248 := eq_true p248
               replace q248 := eq_true q248
               go_wp2_with (first | ((with_reducible refine gate_callee (f := 38) rfl ?_); refine goesL_ (some 144) rfl rfl Tryd.func38 (by kernel_rfl) rfl #[.string a1, .agg #[.int .i64 ((rd_T75 t220 x12_1).f0), .int .i64 ((rd_T75 t220 x12_1).f1), .int .i32 ((rd_T75 t220 x12_1).f2), .bool ((rd_T75 t220 x12_1).f3), .int .u8 ((rd_T75 t220 x12_1).f4)]] rfl (by (try simp only [List.map_toArray, List.map_cons, List.map_nil]); first | done | rfl | (simp only [List.length_drop, List.length_take]; rfl)) ?_; (with_reducible refine (siglumref08_bytes.calls a1 ((rd_T75 t220 x12_1).f0) ((rd_T75 t220 x12_1).f1) ((rd_T75 t220 x12_1).f2) ((rd_T75 t220 x12_1).f3) ((rd_T75 t220 x12_1).f4) t249 _ A69.out).mono ?_); rintro e w71 ⟨rfl, hb⟩; refine ⟨_, rfl, ?_⟩; have n0_ := Aside0.mk (Kd.R_below (by (with_reducible repeat (first | apply Kd.R_alloc | apply Kd.R_drewN | apply Kd.R_drew)); exact HO_6.out) hb); have n1_ := Aside0.mk (Kd.R_below (by (with_reducible repeat (first | apply Kd.R_alloc | apply Kd.R_drewN | apply Kd.R_drew)); exact HO_7.out) hb); have n2_ := Aside0.mk (Kd.S_below (by (with_reducible repeat (first | apply Kd.S_alloc | apply Kd.S_drewN | apply Kd.S_drew)); exact HO_9.out) hb); have n3_ := Aside0.mk (Kd.R_below (by (with_reducible repeat (first | apply Kd.R_alloc | apply Kd.R_drewN | apply Kd.R_drew)); exact HO_10.out) hb); have n4_ := Aside0.mk (below_step (by repeat (first | (with_reducible first | exact HB.out | apply below_alloc | apply pw_below_drewN | apply below_drew1) | exact HB.out)) hb); clear HO_6; clear HO_7; clear HO_9; clear HO_10; clear HB; have HO_6 := n0_; have HO_7 := n1_; have HO_9 := n2_; have HO_10 := n3_; have HB := n4_; clear n0_ n1_ n2_ n3_ n4_; (try clear hb); (try clear hb2); (try clear hk); (try clear hi)) | ((with_reducible refine gate_builtin (b := .append) (xs := #[.tmp 138, .tmp 146]) rfl ?_); (try (refine gate_guard (by rfl) ?_; dsimp only)); at_builtin; refine Kd.R_append k30 (w0 := w) w.heap.size rfl (.tmp 138) (.tmp 146) 23 30 (.agg #[(.int .i64 0), (.string ⟨#[]⟩)]) 24 rfl Tryd.underlying23 info30 rfl (by decide) (by omega) u10 x10_1 (⟨2, t249⟩ : S30) [.int .i64 2, .string t249] (fun _ => True) (fun _ => False) rfl rfl ?aP (fun _ hk => hk.elim) ?aF ?aO ?aB ?aS ?aL ?_; (case aP => exact k30_mkM _ _ _ (⟨2, t249⟩ : S30)); (case aB => exact (by repeat (first | (with_reducible first | exact HB.out | apply below_alloc | apply pw_below_drewN | apply below_drew1) | exact HB.out))); (case aF => exact (fun _ _ => trivial)); (case aO => exact (by (with_reducible repeat (first | apply Kd.R_alloc | apply Kd.R_drewN | apply Kd.R_drew)); exact HO_10.out)); (case aS => exact (below_size (by repeat (first | (with_reducible first | exact HB.out | apply below_alloc | apply pw_below_drewN | apply below_drew1) | exact HB.out)))); (case aL => have := LMc70.out; omega); intro v251 w72 ho hb hg hat; rw [← Ny250.out] at ho; have n0_ := Aside0.mk (Kd.R_over' (by (with_reducible repeat (first | apply Kd.R_alloc | apply Kd.R_drewN | apply Kd.R_drew)); exact HO_6.out) (Kd.R_typed (by (with_reducible repeat (first | apply Kd.R_alloc | apply Kd.R_drewN | apply Kd.R_drew)); exact HO_10.out)) (by decide) hg); have n1_ := Aside0.mk (Kd.R_over' (by (with_reducible repeat (first | apply Kd.R_alloc | apply Kd.R_drewN | apply Kd.R_drew)); exact HO_7.out) (Kd.R_typed (by (with_reducible repeat (first | apply Kd.R_alloc | apply Kd.R_drewN | apply Kd.R_drew)); exact HO_10.out)) (by decide) hg); have n2_ := Aside0.mk (Kd.S_over' (by (with_reducible repeat (first | apply Kd.S_alloc | apply Kd.S_drewN | apply Kd.S_drew)); exact HO_9.out) (Kd.R_typed (by (with_reducible repeat (first | apply Kd.R_alloc | apply Kd.R_drewN | apply Kd.R_drew)); exact HO_10.out)) (by decide) hg); have n3_ := Aside0.mk (hb); have n4_ := Aside0.mk (ho); clear HO_6; clear HO_7; clear HO_9; clear HB; clear HO_10; have HO_6 := n0_; have HO_7 := n1_; have HO_9 := n2_; have HB := n3_; have HO252 := n4_; clear n0_ n1_ n2_ n3_ n4_; clear ho hb hg hat))
               go_roundg kj43
               case measure => have := HK1.out; have := HJ9.out; have := HJ12.out; have := HJ14.out; have := HJ43.out; omega
               case rel => exact ⟨(y250), (wrap64 (x11_1 + 1)), (wrap64 (x12_1 + 1)), (by first | rfl | (simp; done) | (simp [*]; done)), (by first | rfl | (simp; done) | (simp [*]; done)), H', ⟨by have := HK1.out; have := HJ9.out; have := HJ12.out; have := HJ14.out; have := HJ43.out; omega⟩, ⟨by (with_reducible repeat (first | apply Kd.R_alloc | apply Kd.R_drewN | apply Kd.R_drew)); exact HO_6.out⟩, ⟨by (with_reducible repeat (first | apply Kd.R_alloc | apply Kd.R_drewN | apply Kd.R_drew)); exact HO_7.out⟩, ⟨by (with_reducible repeat (first | apply Kd.S_alloc | apply Kd.S_drewN | apply Kd.S_drew)); exact HO_9.out⟩, ⟨by (with_reducible repeat (first | apply Kd.R_alloc | apply Kd.R_drewN | apply Kd.R_drew)); exact HO252.out⟩, ⟨by repeat (first | (with_reducible first | exact HB.out | apply below_alloc | apply pw_below_drewN | apply below_drew1) | exact HB.out)⟩⟩
              ·
               replace c66 := Bool.eq_false_iff.mpr c66
               subst c66
               have H1 : (if x11_1 < (t219.length : Int) then (if 0 ≤ (wrap64 (x11_1 + 1)) then (if (wrap64 (x11_1 + 1)) < (t226.length : Int) then (if 0 ≤ x12_1 then (if x12_1 < ((rd_L7 t226 (wrap64 (x11_1 + 1))).length : Int) then (if 0 ≤ x11_1 then (if x11_1 < (t226.length : Int) then (if x12_1 < ((rd_L7 t226 x11_1).length : Int) then (siglumref08_Path.j5 kj43 a0 a1 t219 t220 t226 x10_1 x11_1 x12_1 ((wrap64 ((rd (rd_L7 t226 (wrap64 (x11_1 + 1))) x12_1) + 1)) == (rd (rd_L7 t226 x11_1) x12_1))) else (none)) else (none)) else (none)) else (none)) else (none)) else (none)) else (none)) else (siglumref08_Path.j5 kj43 a0 a1 t219 t220 t226 x10_1 x11_1 x12_1 false)) = some (r1, r2) := by rw [if_neg (show ¬ (false = true) by decide)] at H; exact H
               clear H
               have H := H1
               clear H1
               have HC73 := Aside0.mk H
               clear H
               go_upto_region 20 with (fail)
               go_cut [152] (fun v152 wc => ∃ (kq : Nat) (x152_72 : Bool), v152 = .bool x152_72 ∧ Aside0 (siglumref08_Path.j5 kq a0 a1 t219 t220 t226 x10_1 x11_1 x12_1 x152_72 = some (r1, r2)) ∧ Aside0 (kq ≤ kj43) ∧ Aside0 (Kd.R k75 75 wc w.heap.size (fun k_ => some k_ ≠ ((.slice Ao8 t220.length co8) : Value).ownBlock) (.slice Ao7 t219.length co7) t219) ∧ Aside0 (Kd.R k75 75 wc w.heap.size (fun k_ => some k_ ≠ ((.slice Ao7 t219.length co7) : Value).ownBlock) (.slice Ao8 t220.length co8) t220) ∧ Aside0 (Kd.S (Kd.slice 3 (Kd.int .i64)) 68 wc w.heap.size (fun _ => True) v227 t226) ∧ Aside0 (Kd.R k30 30 wc w.heap.size (fun _ => True) u10 x10_1) ∧ Aside0 (Below w.heap.size w wc))
               case first => as_aux_lemma =>
                have H := HC73.out
                clear HC73
                by_cases c74 : x11_1 < (t219.length : Int)
                ·
                 rw [if_pos c74] at H
                 have c74b0 : decide (x11_1 < (t219.length : Int)) = true := decide_eq_true c74
                 clear c74
                 (first | rw [c74b0] | (simp only [i64_w, i32_w]; rw [c74b0]) | skip)
                 obtain ⟨ji75, hji75⟩ : ∃ j_ : Int, (wrap64 (x11_1 + 1)) = j_ := ⟨_, rfl⟩
                 replace H : (if 0 ≤ (ji75) then (if (ji75) < (t226.length : Int) then (if 0 ≤ x12_1 then (if x12_1 < ((rd_L7 t226 (ji75)).length : Int) then (if 0 ≤ x11_1 then (if x11_1 < (t226.length : Int) then (if x12_1 < ((rd_L7 t226 x11_1).length : Int) then (siglumref08_Path.j5 kj43 a0 a1 t219 t220 t226 x10_1 x11_1 x12_1 ((wrap64 ((rd (rd_L7 t226 (ji75)) x12_1) + 1)) == (rd (rd_L7 t226 x11_1) x12_1))) else (none)) else (none)) else (none)) else (none)) else (none)) else (none)) else (none)) = some (r1, r2) := by first | (rw [hji75] at H; exact H) | (simp only [hji75] at H ⊢; exact H)
                 have hji75w : (IntKind.i64.wrap (x11_1 + 1)) = ji75 := (i64_w _).trans hji75
                 by_cases c76 : 0 ≤ (ji75)
                 rotate_left
                 · rw [if_neg c76] at H; exact absurd H (by simp)
                 rw [if_pos c76] at H
                 have c76b0 : decide (0 ≤ (ji75)) = true := decide_eq_true c76
                 clear c76
                 by_cases c77 : (ji75) < (t226.length : Int)
                 rotate_left
                 · rw [if_neg c77] at H; exact absurd H (by simp)
                 rw [if_pos c77] at H
                 have c77b0 : decide ((ji75) < (t226.length : Int)) = true := decide_eq_true c77
                 clear c77
                 by_cases c78 : 0 ≤ x12_1
                 rotate_left
                 · rw [if_neg c78] at H; exact absurd H (by simp)
                 rw [if_pos c78] at H
                 have c78b0 : decide (0 ≤ x12_1) = true := decide_eq_true c78
                 clear c78
                 by_cases c79 : x12_1 < ((rd_L7 t226 (ji75)).length : Int)
                 rotate_left
                 · rw [if_neg c79] at H; exact absurd H (by simp)
                 rw [if_pos c79] at H
                 have c79b0 : decide (x12_1 < ((rd_L7 t226 (ji75)).length : Int)) = true := decide_eq_true c79
                 clear c79
                 by_cases c80 : 0 ≤ x11_1
                 rotate_left
                 · rw [if_neg c80] at H; exact absurd H (by simp)
                 rw [if_pos c80] at H
                 have c80b0 : decide (0 ≤ x11_1) = true := decide_eq_true c80
                 clear c80
                 by_cases c81 : x11_1 < (t226.length : Int)
                 rotate_left
                 · rw [if_neg c81] at H; exact absurd H (by simp)
                 rw [if_pos c81] at H
                 have c81b0 : decide (x11_1 < (t226.length : Int)) = true := decide_eq_true c81
                 clear c81
                 by_cases c82 : x12_1 < ((rd_L7 t226 x11_1).length : Int)
                 rotate_left
                 · rw [if_neg c82] at H; exact absurd H (by simp)
                 rw [if_pos c82] at H
                 have c82b0 : decide (x12_1 < ((rd_L7 t226 x11_1).length : Int)) = true := decide_eq_true c82
                 clear c82
                 have H' := Aside0.mk H
                 clear H
                 try go_wp2
                 have n0_ := Aside0.mk (Kd.R_drew HO_6.out)
                 have n1_ := Aside0.mk (Kd.R_drew HO_7.out)
                 have n2_ := Aside0.mk (Kd.S_drew HO_9.out)
                 have n3_ := Aside0.mk (Kd.R_drew HO_10.out)
                 have n4_ := Aside0.mk (below_drew1 HB.out)
                 clear HO_6
                 clear HO_7
                 clear HO_9
                 clear HO_10
                 clear HB
                 have HO_6 := n0_
                 have HO_7 := n1_
                 have HO_9 := n2_
                 have HO_10 := n3_
                 have HB := n4_
                 clear n0_ n1_ n2_ n3_ n4_
                 obtain ⟨Ao84, co84, eo84⟩ := Kd.S_slice HO_9.out
                 (first | subst eo84 | (injection eo84 with f1_ f2_ f3_; have f4_ := f1_.symm; have f5_ := f3_.symm; clear f1_ f2_ f3_; subst f4_; subst f5_))
                 have p253 : 0 ≤ ((ji75) : Int) := of_decide_eq_true (by assumption)
                 have q253 : (ji75) < (t226.length : Int) := of_decide_eq_true (by assumption)
                 obtain ⟨ad253, A253_0, c253_0, e253, hx253_0, hl253_0, hi253_0⟩ := at_L7 (Kd.S_reads' HO_9.out).2.2 (ji75) p253 q253
                 cases e253
                 obtain ⟨ce253, hce253, hMe253, hcc253⟩ := Kd.S_get HO_9.out [] (ji75) p253 (by first | exact q253 | exact of_decide_eq_true (by assumption) | (have e_ := (Kd.S_reads' HO_9.out).1; omega))
                 obtain ⟨ve253_0, rfl, ge253_0⟩ := hMe253
                 have hv253_0 := hcc253 0 _ rfl
                 rw [Nat.add_zero, show ((Kd.slice 3 (Kd.int .i64))).sz = 1 from rfl, Nat.mul_one] at hv253_0
                 replace hv253_0 := Option.some.inj (hv253_0.symm.trans hx253_0)
                 rw [hv253_0] at ge253_0
                 have HL253_0 := Aside0.mk (show Kd.R (Kd.int .i64) 3 _ _ _ _ (rd_L7 t226 (ji75)) from ge253_0)
                 clear hv253_0 ge253_0
                 clear hcc253 hce253
                 have HR253_0 := Aside0.mk hi253_0
                 have HC253_0 := Aside0.mk hl253_0
                 clear hi253_0 hl253_0
                 replace p253 := eq_true p253
                 replace q253 := eq_true q253
                 have p254 : 0 ≤ (x12_1 : Int) := of_decide_eq_true (by assumption)
                 have q254 : x12_1 < ((rd_L7 t226 (ji75)).length : Int) := of_decide_eq_true (by assumption)
                 obtain ⟨ad254, e254, hx254_0⟩ := Kd.at_int (by repeat (first | (with_reducible exact HR253_0.out) | (with_reducible refine Kd.C_alloc ?_ _) | (with_reducible refine Kd.C_drewN ?_ _) | (with_reducible refine Kd.C_drew ?_) | exact HR253_0.out)) x12_1 p254 q254
                 cases e254
                 replace p254 := eq_true p254
                 replace q254 := eq_true q254
                 have p255 : 0 ≤ (x11_1 : Int) := of_decide_eq_true (by assumption)
                 have q255 : x11_1 < (t226.length : Int) := of_decide_eq_true (by assumption)
                 obtain ⟨ad255, A255_0, c255_0, e255, hx255_0, hl255_0, hi255_0⟩ := at_L7 (Kd.S_reads' HO_9.out).2.2 x11_1 p255 q255
                 obtain rfl : ad253 = ad255 := (by injection e255)
                 obtain ⟨ce255, hce255, hMe255, hcc255⟩ := Kd.S_get HO_9.out [] x11_1 p255 (by first | exact q255 | exact of_decide_eq_true (by assumption) | (have e_ := (Kd.S_reads' HO_9.out).1; omega))
                 obtain ⟨ve255_0, rfl, ge255_0⟩ := hMe255
                 have hv255_0 := hcc255 0 _ rfl
                 rw [Nat.add_zero, show ((Kd.slice 3 (Kd.int .i64))).sz = 1 from rfl, Nat.mul_one] at hv255_0
                 replace hv255_0 := Option.some.inj (hv255_0.symm.trans hx255_0)
                 rw [hv255_0] at ge255_0
                 have HL255_0 := Aside0.mk (show Kd.R (Kd.int .i64) 3 _ _ _ _ (rd_L7 t226 x11_1) from ge255_0)
                 clear hv255_0 ge255_0
                 clear hcc255 hce255
                 have HR255_0 := Aside0.mk hi255_0
                 have HC255_0 := Aside0.mk hl255_0
                 clear hi255_0 hl255_0
                 replace p255 := eq_true p255
                 replace q255 := eq_true q255
                 have p256 : 0 ≤ (x12_1 : Int) := of_decide_eq_true (by assumption)
                 have q256 : x12_1 < ((rd_L7 t226 x11_1).length : Int) := of_decide_eq_true (by assumption)
                 obtain ⟨ad256, e256, hx256_0⟩ := Kd.at_int (by repeat (first | (with_reducible exact HR255_0.out) | (with_reducible refine Kd.C_alloc ?_ _) | (with_reducible refine Kd.C_drewN ?_ _) | (with_reducible refine Kd.C_drew ?_) | exact HR255_0.out)) x12_1 p256 q256
                 cases e256
                 replace p256 := eq_true p256
                 replace q256 := eq_true q256
                 refine start_ (n := 24) (S := fun w' => w'.cell? (ad253.add ((ji75)).toNat) = some (.slice (some ad254) (rd_L7 t226 (ji75)).length c253_0) ∧ w'.cell? (ad254.add (x12_1).toNat) = some (.int .i64 (rd (rd_L7 t226 (ji75)) x12_1)) ∧ w'.cell? (ad253.add (x11_1).toNat) = some (.slice (some ad256) (rd_L7 t226 x11_1).length c255_0) ∧ w'.cell? (ad256.add (x12_1).toNat) = some (.int .i64 (rd (rd_L7 t226 x11_1) x12_1))) (ds := []) #[false,false,false,false,false,false,false,false,false,false,false,false,false,false,false,false,false,false,false,false,false,false,false,false] (by kernel_rfl) rfl rfl ⟨hx253_0, hx254_0, hx255_0, hx256_0⟩ (fun hHeld => ?_); refine with_tabW siglumref08_Path.tab20 siglumref08_Path.bits20 (fun HT_ HW_ => ?_)
                 generalize wc.drew = w83 at HO_6 HO_7 HO_9 HO_10 HB HL253_0 HL255_0 HR253_0 HR255_0 hx253_0 hx254_0 hx255_0 hx256_0 hHeld ⊢
                 refine pure_ (i := 0) (N := some 153) (v := ?_) (a' := ?_) #[true,false,false,false,false,false,false,false,false,false,false,false,false,false,false,false,false,false,false,false,false,false,false,false] rfl rfl (any_of HT_.out (by kernel_rfl)) (fun _ _ _ h => h) (Or.inl ⟨by rfl, ?_⟩) ?_ ?_; rotate_left; (· intro w'; go_simp; with_reducible rfl); rotate_left; (· simp only [Act.put,List.setIfInBounds_toArray,List.set_cons_zero,List.set_cons_succ,i64_w,i32_w]; rfl)
                 refine pure_ (i := 1) (N := some 154) (v := ?_) (a' := ?_) #[true,true,false,false,false,false,false,false,false,false,false,false,false,false,false,false,false,false,false,false,false,false,false,false] rfl rfl (any_of HT_.out (by kernel_rfl)) (fun _ _ _ h => h) (Or.inl ⟨by rfl, ?_⟩) ?_ ?_; rotate_left; (· intro w'; go_simp; with_reducible rfl); rotate_left; (· simp only [Act.put,List.setIfInBounds_toArray,List.set_cons_zero,List.set_cons_succ,i64_w,i32_w]; rfl)
                 refine pure_ (i := 2) (N := some 155) (v := ?_) (a' := ?_) #[true,true,true,false,false,false,false,false,false,false,false,false,false,false,false,false,false,false,false,false,false,false,false,false] rfl rfl (any_of HT_.out (by kernel_rfl)) (fun _ _ _ h => h) (Or.inl ⟨by rfl, ?_⟩) ?_ ?_; rotate_left; (· intro w'; go_simp; with_reducible rfl); rotate_left; (· simp only [Act.put,List.setIfInBounds_toArray,List.set_cons_zero,List.set_cons_succ,i64_w,i32_w]; rfl)
                 refine pure_ (i := 3) (N := some 156) (v := ?_) (a' := ?_) #[true,true,true,true,false,false,false,false,false,false,false,false,false,false,false,false,false,false,false,false,false,false,false,false] rfl rfl (any_of HT_.out (by kernel_rfl)) (fun _ _ _ h => h) (Or.inl ⟨by rfl, ?_⟩) ?_ ?_; rotate_left; (· intro w'; go_simp; with_reducible rfl); rotate_left; (· simp only [Act.put,List.setIfInBounds_toArray,List.set_cons_zero,List.set_cons_succ,i64_w,i32_w]; rfl)
                 refine pure_ (i := 4) (N := some 157) (v := ?_) (a' := ?_) #[true,true,true,true,true,false,false,false,false,false,false,false,false,false,false,false,false,false,false,false,false,false,false,false] rfl rfl (any_of HT_.out (by kernel_rfl)) (fun _ _ _ h => h) (Or.inl ⟨by rfl, ?_⟩) ?_ ?_; rotate_left; (· intro w'; go_simp; with_reducible rfl); rotate_left; (· simp only [Act.put,List.setIfInBounds_toArray,List.set_cons_zero,List.set_cons_succ,i64_w,i32_w]; rfl)
                 refine pure_ (i := 5) (N := some 158) (v := ?_) (a' := ?_) #[true,true,true,true,true,true,false,false,false,false,false,false,false,false,false,false,false,false,false,false,false,false,false,false] rfl rfl (any_of HT_.out (by kernel_rfl)) (fun _ _ _ h => h) (Or.inl ⟨by rfl, ?_⟩) ?_ ?_; rotate_left; (· intro w'; go_simp; with_reducible rfl); rotate_left; (· simp only [Act.put,List.setIfInBounds_toArray,List.set_cons_zero,List.set_cons_succ,i64_w,i32_w]; rfl)
                 refine pure_ (i := 6) (N := some 159) (v := ?_) (a' := ?_) #[true,true,true,true,true,true,true,false,false,false,false,false,false,false,false,false,false,false,false,false,false,false,false,false] rfl rfl (any_of HT_.out (by kernel_rfl)) (fun _ _ _ h => h) (Or.inl ⟨by rfl, ?_⟩) ?_ ?_; rotate_left; (· intro w'; go_simp; with_reducible rfl); rotate_left; (· simp only [Act.put,List.setIfInBounds_toArray,List.set_cons_zero,List.set_cons_succ,i64_w,i32_w]; rfl)
                 refine pure_ (i := 7) (N := some 160) (v := ?_) (a' := ?_) #[true,true,true,true,true,true,true,true,false,false,false,false,false,false,false,false,false,false,false,false,false,false,false,false] rfl rfl (any_of HT_.out (by kernel_rfl)) (fun _ _ _ h => h) (Or.inl ⟨by rfl, ?_⟩) ?_ ?_; rotate_left; (· intro w'; go_simp; with_reducible rfl); rotate_left; (· simp only [Act.put,List.setIfInBounds_toArray,List.set_cons_zero,List.set_cons_succ,i64_w,i32_w]; rfl)
                 refine pure_ (i := 8) (N := some 161) (v := ?_) (a' := ?_) #[true,true,true,true,true,true,true,true,true,false,false,false,false,false,false,false,false,false,false,false,false,false,false,false] rfl rfl (any_of HT_.out (by kernel_rfl)) (fun _ _ _ h => h) (Or.inl ⟨by rfl, ?_⟩) ?_ ?_; rotate_left; (· intro w'; go_simp; with_reducible rfl); rotate_left; (· simp only [Act.put,List.setIfInBounds_toArray,List.set_cons_zero,List.set_cons_succ,i64_w,i32_w]; rfl)
                 refine pure_ (i := 10) (N := some 163) (v := ?_) (a' := ?_) #[true,true,true,true,true,true,true,true,true,false,true,false,false,false,false,false,false,false,false,false,false,false,false,false] rfl rfl (any_of HT_.out (by kernel_rfl)) (fun _ _ _ h => h) (Or.inl ⟨by rfl, ?_⟩) ?_ ?_; rotate_left; (· intro w'; go_simp; with_reducible rfl); rotate_left; (· simp only [Act.put,List.setIfInBounds_toArray,List.set_cons_zero,List.set_cons_succ,i64_w,i32_w]; rfl)
                 refine pure_ (i := 14) (N := some 167) (v := ?_) (a' := ?_) #[true,true,true,true,true,true,true,true,true,false,true,false,false,false,true,false,false,false,false,false,false,false,false,false] rfl rfl (any_of HT_.out (by kernel_rfl)) (fun _ _ _ h => h) (Or.inl ⟨by rfl, ?_⟩) ?_ ?_; rotate_left; (· intro w'; go_simp; with_reducible rfl); rotate_left; (· simp only [Act.put,List.setIfInBounds_toArray,List.set_cons_zero,List.set_cons_succ,i64_w,i32_w]; rfl)
                 refine pure_ (i := 15) (N := some 168) (v := ?_) (a' := ?_) #[true,true,true,true,true,true,true,true,true,false,true,false,false,false,true,true,false,false,false,false,false,false,false,false] rfl rfl (any_of HT_.out (by kernel_rfl)) (fun _ _ _ h => h) (Or.inl ⟨by rfl, ?_⟩) ?_ ?_; rotate_left; (· intro w'; go_simp; with_reducible rfl); rotate_left; (· simp only [Act.put,List.setIfInBounds_toArray,List.set_cons_zero,List.set_cons_succ,i64_w,i32_w]; rfl)
                 refine pure_ (i := 16) (N := some 169) (v := ?_) (a' := ?_) #[true,true,true,true,true,true,true,true,true,false,true,false,false,false,true,true,true,false,false,false,false,false,false,false] rfl rfl (any_of HT_.out (by kernel_rfl)) (fun _ _ _ h => h) (Or.inl ⟨by rfl, ?_⟩) ?_ ?_; rotate_left; (· intro w'; go_simp; with_reducible rfl); rotate_left; (· simp only [Act.put,List.setIfInBounds_toArray,List.set_cons_zero,List.set_cons_succ,i64_w,i32_w]; rfl)
                 refine pure_ (i := 18) (N := some 171) (v := ?_) (a' := ?_) #[true,true,true,true,true,true,true,true,true,false,true,false,false,false,true,true,true,false,true,false,false,false,false,false] rfl rfl (any_of HT_.out (by kernel_rfl)) (fun _ _ _ h => h) (Or.inl ⟨by rfl, ?_⟩) ?_ ?_; rotate_left; (· intro w'; go_simp; with_reducible rfl); rotate_left; (· simp only [Act.put,List.setIfInBounds_toArray,List.set_cons_zero,List.set_cons_succ,i64_w,i32_w]; rfl)
                 refine take_ (i := 9) (N := some 162) (v := ?_) (a' := ?_) #[true,true,true,true,true,true,true,true,true,true,true,false,false,false,true,true,true,false,true,false,false,false,false,false] rfl rfl (take_ofW HT_.out HW_.out (by kernel_rfl)) (fun _ _ _ h => h) (Or.inl ⟨by rfl, ?_⟩) hHeld ?_ ?_; rotate_left; (· rintro w' ⟨s0, s1, s2, s3⟩; go_simp; with_reducible rfl); rotate_left; (· simp only [Act.put,List.setIfInBounds_toArray,List.set_cons_zero,List.set_cons_succ,i64_w,i32_w]; rfl)
                 refine pure_ (i := 11) (N := some 164) (v := ?_) (a' := ?_) #[true,true,true,true,true,true,true,true,true,true,true,true,false,false,true,true,true,false,true,false,false,false,false,false] rfl rfl (any_of HT_.out (by kernel_rfl)) (fun _ _ _ h => h) (Or.inl ⟨by rfl, ?_⟩) ?_ ?_; rotate_left; (· intro w'; go_simp; with_reducible rfl); rotate_left; (· simp only [Act.put,List.setIfInBounds_toArray,List.set_cons_zero,List.set_cons_succ,i64_w,i32_w]; rfl)
                 refine take_ (i := 12) (N := some 165) (v := ?_) (a' := ?_) #[true,true,true,true,true,true,true,true,true,true,true,true,true,false,true,true,true,false,true,false,false,false,false,false] rfl rfl (take_ofW HT_.out HW_.out (by kernel_rfl)) (fun _ _ _ h => h) (Or.inl ⟨by rfl, ?_⟩) hHeld ?_ ?_; rotate_left; (· rintro w' ⟨s0, s1, s2, s3⟩; go_simp; with_reducible rfl); rotate_left; (· simp only [Act.put,List.setIfInBounds_toArray,List.set_cons_zero,List.set_cons_succ,i64_w,i32_w]; rfl)
                 refine pure_ (i := 13) (N := some 166) (v := ?_) (a' := ?_) #[true,true,true,true,true,true,true,true,true,true,true,true,true,true,true,true,true,false,true,false,false,false,false,false] rfl rfl (any_of HT_.out (by kernel_rfl)) (fun _ _ _ h => h) (Or.inl ⟨by rfl, ?_⟩) ?_ ?_; rotate_left; (· intro w'; go_simp; with_reducible rfl); rotate_left; (· simp only [Act.put,List.setIfInBounds_toArray,List.set_cons_zero,List.set_cons_succ,i64_w,i32_w]; rfl)
                 refine take_ (i := 17) (N := some 170) (v := ?_) (a' := ?_) #[true,true,true,true,true,true,true,true,true,true,true,true,true,true,true,true,true,true,true,false,false,false,false,false] rfl rfl (take_ofW HT_.out HW_.out (by kernel_rfl)) (fun _ _ _ h => h) (Or.inl ⟨by rfl, ?_⟩) hHeld ?_ ?_; rotate_left; (· rintro w' ⟨s0, s1, s2, s3⟩; go_simp; with_reducible rfl); rotate_left; (· simp only [Act.put,List.setIfInBounds_toArray,List.set_cons_zero,List.set_cons_succ,i64_w,i32_w]; rfl)
                 refine pure_ (i := 19) (N := some 172) (v := ?_) (a' := ?_) #[true,true,true,true,true,true,true,true,true,true,true,true,true,true,true,true,true,true,true,true,false,false,false,false] rfl rfl (any_of HT_.out (by kernel_rfl)) (fun _ _ _ h => h) (Or.inl ⟨by rfl, ?_⟩) ?_ ?_; rotate_left; (· intro w'; go_simp; with_reducible rfl); rotate_left; (· simp only [Act.put,List.setIfInBounds_toArray,List.set_cons_zero,List.set_cons_succ,i64_w,i32_w]; rfl)
                 refine take_ (i := 20) (N := some 173) (v := ?_) (a' := ?_) #[true,true,true,true,true,true,true,true,true,true,true,true,true,true,true,true,true,true,true,true,true,false,false,false] rfl rfl (take_ofW HT_.out HW_.out (by kernel_rfl)) (fun _ _ _ h => h) (Or.inl ⟨by rfl, ?_⟩) hHeld ?_ ?_; rotate_left; (· rintro w' ⟨s0, s1, s2, s3⟩; go_simp; with_reducible rfl); rotate_left; (· simp only [Act.put,List.setIfInBounds_toArray,List.set_cons_zero,List.set_cons_succ,i64_w,i32_w]; rfl)
                 refine pure_ (i := 21) (N := some 174) (v := ?_) (a' := ?_) #[true,true,true,true,true,true,true,true,true,true,true,true,true,true,true,true,true,true,true,true,true,true,false,false] rfl rfl (any_of HT_.out (by kernel_rfl)) (fun _ _ _ h => h) (Or.inl ⟨by rfl, ?_⟩) ?_ ?_; rotate_left; (· intro w'; go_simp; with_reducible rfl); rotate_left; (· simp only [Act.put,List.setIfInBounds_toArray,List.set_cons_zero,List.set_cons_succ,i64_w,i32_w]; rfl)
                 refine pure_ (i := 22) (N := some 175) (v := ?_) (a' := ?_) #[true,true,true,true,true,true,true,true,true,true,true,true,true,true,true,true,true,true,true,true,true,true,true,false] rfl rfl (any_of HT_.out (by kernel_rfl)) (fun _ _ _ h => h) (Or.inl ⟨by rfl, ?_⟩) ?_ ?_; rotate_left; (· intro w'; go_simp; with_reducible rfl); rotate_left; (· simp only [Act.put,List.setIfInBounds_toArray,List.set_cons_zero,List.set_cons_succ,i64_w,i32_w]; rfl)
                 refine pure_ (i := 23) (N := some 152) (v := ?_) (a' := ?_) #[true,true,true,true,true,true,true,true,true,true,true,true,true,true,true,true,true,true,true,true,true,true,true,true] rfl rfl (any_of HT_.out (by kernel_rfl)) (fun _ _ _ h => h) (Or.inl ⟨by rfl, ?_⟩) ?_ ?_; rotate_left; (· intro w'; go_simp; with_reducible rfl); rotate_left; (· simp only [Act.put,List.setIfInBounds_toArray,List.set_cons_zero,List.set_cons_succ,i64_w,i32_w]; rfl)
                 refine done_ (done_of HT_.out (by kernel_rfl)) ?_
                 try go_wp2
                 (try simp only [← hji75])
                 (try (have H2_ := H'.out; simp only [← hji75] at H2_; clear H'; have H' := Aside0.mk H2_; clear H2_))
                 go_meet
                 case rel => exact ⟨_, (((wrap64 ((rd (rd_L7 t226 (ji75)) x12_1) + 1)) == (rd (rd_L7 t226 x11_1) x12_1))), (by first | rfl | (simp; done) | (simp only [← hji75] <;> (first | rfl | simp)) | (simp [*]; done)), (by first | exact H' | (refine ⟨?_⟩; simp only [← hji75]; exact H'.out)), ⟨by have := HK1.out; have := HJ9.out; have := HJ12.out; have := HJ14.out; have := HJ43.out; first | omega | exact Nat.le_refl _⟩, ⟨by (with_reducible repeat (first | apply Kd.R_alloc | apply Kd.R_drewN | apply Kd.R_drew)); exact HO_6.out⟩, ⟨by (with_reducible repeat (first | apply Kd.R_alloc | apply Kd.R_drewN | apply Kd.R_drew)); exact HO_7.out⟩, ⟨by (with_reducible repeat (first | apply Kd.S_alloc | apply Kd.S_drewN | apply Kd.S_drew)); exact HO_9.out⟩, ⟨by (with_reducible repeat (first | apply Kd.R_alloc | apply Kd.R_drewN | apply Kd.R_drew)); exact HO_10.out⟩, ⟨by repeat (first | (with_reducible first | exact HB.out | apply below_alloc | apply pw_below_drewN | apply below_drew1) | exact HB.out)⟩⟩
                ·
                 rw [if_neg c74] at H
                 have c74b0 : decide (x11_1 < (t219.length : Int)) = false := decide_eq_false c74
                 clear c74
                 (first | rw [c74b0] | (simp only [i64_w, i32_w]; rw [c74b0]) | skip)
                 have H' := Aside0.mk H
                 clear H
                 try go_wp2
                 have n0_ := Aside0.mk (Kd.R_drew HO_6.out)
                 have n1_ := Aside0.mk (Kd.R_drew HO_7.out)
                 have n2_ := Aside0.mk (Kd.S_drew HO_9.out)
                 have n3_ := Aside0.mk (Kd.R_drew HO_10.out)
                 have n4_ := Aside0.mk (below_drew1 HB.out)
                 clear HO_6
                 clear HO_7
                 clear HO_9
                 clear HO_10
                 clear HB
                 have HO_6 := n0_
                 have HO_7 := n1_
                 have HO_9 := n2_
                 have HO_10 := n3_
                 have HB := n4_
                 clear n0_ n1_ n2_ n3_ n4_
                 refine start_ (n := 24) (S := fun w' => True) (ds := []) #[false,false,false,false,false,false,false,false,false,false,false,false,false,false,false,false,false,false,false,false,false,false,false,false] (by kernel_rfl) rfl rfl trivial (fun hHeld => ?_); refine with_tabW siglumref08_Path.tab20 siglumref08_Path.bits20 (fun HT_ HW_ => ?_)
                 generalize wc.drew = w85 at HO_6 HO_7 HO_9 HO_10 HB hHeld ⊢
                 refine pure_ (i := 0) (N := some 153) (v := ?_) (a' := ?_) #[true,false,false,false,false,false,false,false,false,false,false,false,false,false,false,false,false,false,false,false,false,false,false,false] rfl rfl (any_of HT_.out (by kernel_rfl)) (fun _ _ _ h => h) (Or.inl ⟨by rfl, ?_⟩) ?_ ?_; rotate_left; (· intro w'; go_simp; with_reducible rfl); rotate_left; (· simp only [Act.put,List.setIfInBounds_toArray,List.set_cons_zero,List.set_cons_succ,i64_w,i32_w]; rfl)
                 refine pure_ (i := 1) (N := some 154) (v := ?_) (a' := ?_) #[true,true,false,false,false,false,false,false,false,false,false,false,false,false,false,false,false,false,false,false,false,false,false,false] rfl rfl (any_of HT_.out (by kernel_rfl)) (fun _ _ _ h => h) (Or.inl ⟨by rfl, ?_⟩) ?_ ?_; rotate_left; (· intro w'; go_simp; with_reducible rfl); rotate_left; (· simp only [Act.put,List.setIfInBounds_toArray,List.set_cons_zero,List.set_cons_succ,i64_w,i32_w]; rfl)
                 refine pure_ (i := 2) (N := some 155) (v := ?_) (a' := ?_) #[true,true,true,false,false,false,false,false,false,false,false,false,false,false,false,false,false,false,false,false,false,false,false,false] rfl rfl (any_of HT_.out (by kernel_rfl)) (fun _ _ _ h => h) (Or.inl ⟨by rfl, ?_⟩) ?_ ?_; rotate_left; (· intro w'; go_simp; with_reducible rfl); rotate_left; (· simp only [Act.put,List.setIfInBounds_toArray,List.set_cons_zero,List.set_cons_succ,i64_w,i32_w]; rfl)
                 refine pure_ (i := 3) (N := some 156) (v := ?_) (a' := ?_) #[true,true,true,true,false,false,false,false,false,false,false,false,false,false,false,false,false,false,false,false,false,false,false,false] rfl rfl (any_of HT_.out (by kernel_rfl)) (fun _ _ _ h => h) (Or.inl ⟨by rfl, ?_⟩) ?_ ?_; rotate_left; (· intro w'; go_simp; with_reducible rfl); rotate_left; (· simp only [Act.put,List.setIfInBounds_toArray,List.set_cons_zero,List.set_cons_succ,i64_w,i32_w]; rfl)
                 refine pure_ (i := 4) (N := some 157) (v := ?_) (a' := ?_) #[true,true,true,true,true,false,false,false,false,false,false,false,false,false,false,false,false,false,false,false,false,false,false,false] rfl rfl (any_of HT_.out (by kernel_rfl)) (fun _ _ _ h => h) (Or.inl ⟨by rfl, ?_⟩) ?_ ?_; rotate_left; (· intro w'; go_simp; with_reducible rfl); rotate_left; (· simp only [Act.put,List.setIfInBounds_toArray,List.set_cons_zero,List.set_cons_succ,i64_w,i32_w]; rfl)
                 refine pure_ (i := 5) (N := some 158) (v := undef) (a' := ?_) #[true,true,true,true,true,true,false,false,false,false,false,false,false,false,false,false,false,false,false,false,false,false,false,false] rfl rfl (any_of HT_.out (by kernel_rfl)) (fun _ _ _ h => h) (Or.inr ⟨by rfl, rfl⟩) ?_ ?_
                 rotate_left
                 ·
                  simp only [Act.put,List.setIfInBounds_toArray,List.set_cons_zero,List.set_cons_succ,i64_w,i32_w]
                  rfl
                 refine pure_ (i := 6) (N := some 159) (v := undef) (a' := ?_) #[true,true,true,true,true,true,true,false,false,false,false,false,false,false,false,false,false,false,false,false,false,false,false,false] rfl rfl (any_of HT_.out (by kernel_rfl)) (fun _ _ _ h => h) (Or.inr ⟨by rfl, rfl⟩) ?_ ?_
                 rotate_left
                 ·
                  simp only [Act.put,List.setIfInBounds_toArray,List.set_cons_zero,List.set_cons_succ,i64_w,i32_w]
                  rfl
                 refine pure_ (i := 7) (N := some 160) (v := undef) (a' := ?_) #[true,true,true,true,true,true,true,true,false,false,false,false,false,false,false,false,false,false,false,false,false,false,false,false] rfl rfl (any_of HT_.out (by kernel_rfl)) (fun _ _ _ h => h) (Or.inr ⟨by rfl, rfl⟩) ?_ ?_
                 rotate_left
                 ·
                  simp only [Act.put,List.setIfInBounds_toArray,List.set_cons_zero,List.set_cons_succ,i64_w,i32_w]
                  rfl
                 refine pure_ (i := 8) (N := some 161) (v := undef) (a' := ?_) #[true,true,true,true,true,true,true,true,true,false,false,false,false,false,false,false,false,false,false,false,false,false,false,false] rfl rfl (any_of HT_.out (by kernel_rfl)) (fun _ _ _ h => h) (Or.inr ⟨by rfl, rfl⟩) ?_ ?_
                 rotate_left
                 ·
                  simp only [Act.put,List.setIfInBounds_toArray,List.set_cons_zero,List.set_cons_succ,i64_w,i32_w]
                  rfl
                 refine pure_ (i := 9) (N := some 162) (v := undef) (a' := ?_) #[true,true,true,true,true,true,true,true,true,true,false,false,false,false,false,false,false,false,false,false,false,false,false,false] rfl rfl (any_of HT_.out (by kernel_rfl)) (fun _ _ _ h => h) (Or.inr ⟨by rfl, rfl⟩) ?_ ?_
                 rotate_left
                 ·
                  simp only [Act.put,List.setIfInBounds_toArray,List.set_cons_zero,List.set_cons_succ,i64_w,i32_w]
                  rfl
                 refine pure_ (i := 10) (N := some 163) (v := undef) (a' := ?_) #[true,true,true,true,true,true,true,true,true,true,true,false,false,false,false,false,false,false,false,false,false,false,false,false] rfl rfl (any_of HT_.out (by kernel_rfl)) (fun _ _ _ h => h) (Or.inr ⟨by rfl, rfl⟩) ?_ ?_
                 rotate_left
                 ·
                  simp only [Act.put,List.setIfInBounds_toArray,List.set_cons_zero,List.set_cons_succ,i64_w,i32_w]
                  rfl
                 refine pure_ (i := 11) (N := some 164) (v := undef) (a' := ?_) #[true,true,true,true,true,true,true,true,true,true,true,true,false,false,false,false,false,false,false,false,false,false,false,false] rfl rfl (any_of HT_.out (by kernel_rfl)) (fun _ _ _ h => h) (Or.inr ⟨by rfl, rfl⟩) ?_ ?_
                 rotate_left
                 ·
                  simp only [Act.put,List.setIfInBounds_toArray,List.set_cons_zero,List.set_cons_succ,i64_w,i32_w]
                  rfl
                 refine pure_ (i := 12) (N := some 165) (v := undef) (a' := ?_) #[true,true,true,true,true,true,true,true,true,true,true,true,true,false,false,false,false,false,false,false,false,false,false,false] rfl rfl (any_of HT_.out (by kernel_rfl)) (fun _ _ _ h => h) (Or.inr ⟨by rfl, rfl⟩) ?_ ?_
                 rotate_left
                 ·
                  simp only [Act.put,List.setIfInBounds_toArray,List.set_cons_zero,List.set_cons_succ,i64_w,i32_w]
                  rfl
                 refine pure_ (i := 13) (N := some 166) (v := undef) (a' := ?_) #[true,true,true,true,true,true,true,true,true,true,true,true,true,true,false,false,false,false,false,false,false,false,false,false] rfl rfl (any_of HT_.out (by kernel_rfl)) (fun _ _ _ h => h) (Or.inr ⟨by rfl, rfl⟩) ?_ ?_
                 rotate_left
                 ·
                  simp only [Act.put,List.setIfInBounds_toArray,List.set_cons_zero,List.set_cons_succ,i64_w,i32_w]
                  rfl
                 refine pure_ (i := 14) (N := some 167) (v := undef) (a' := ?_) #[true,true,true,true,true,true,true,true,true,true,true,true,true,true,true,false,false,false,false,false,false,false,false,false] rfl rfl (any_of HT_.out (by kernel_rfl)) (fun _ _ _ h => h) (Or.inr ⟨by rfl, rfl⟩) ?_ ?_
                 rotate_left
                 ·
                  simp only [Act.put,List.setIfInBounds_toArray,List.set_cons_zero,List.set_cons_succ,i64_w,i32_w]
                  rfl
                 refine pure_ (i := 15) (N := some 168) (v := undef) (a' := ?_) #[true,true,true,true,true,true,true,true,true,true,true,true,true,true,true,true,false,false,false,false,false,false,false,false] rfl rfl (any_of HT_.out (by kernel_rfl)) (fun _ _ _ h => h) (Or.inr ⟨by rfl, rfl⟩) ?_ ?_
                 rotate_left
                 ·
                  simp only [Act.put,List.setIfInBounds_toArray,List.set_cons_zero,List.set_cons_succ,i64_w,i32_w]
                  rfl
                 refine pure_ (i := 16) (N := some 169) (v := undef) (a' := ?_) #[true,true,true,true,true,true,true,true,true,true,true,true,true,true,true,true,true,false,false,false,false,false,false,false] rfl rfl (any_of HT_.out (by kernel_rfl)) (fun _ _ _ h => h) (Or.inr ⟨by rfl, rfl⟩) ?_ ?_
                 rotate_left
                 ·
                  simp only [Act.put,List.setIfInBounds_toArray,List.set_cons_zero,List.set_cons_succ,i64_w,i32_w]
                  rfl
                 refine pure_ (i := 17) (N := some 170) (v := undef) (a' := ?_) #[true,true,true,true,true,true,true,true,true,true,true,true,true,true,true,true,true,true,false,false,false,false,false,false] rfl rfl (any_of HT_.out (by kernel_rfl)) (fun _ _ _ h => h) (Or.inr ⟨by rfl, rfl⟩) ?_ ?_
                 rotate_left
                 ·
                  simp only [Act.put,List.setIfInBounds_toArray,List.set_cons_zero,List.set_cons_succ,i64_w,i32_w]
                  rfl
                 refine pure_ (i := 18) (N := some 171) (v := undef) (a' := ?_) #[true,true,true,true,true,true,true,true,true,true,true,true,true,true,true,true,true,true,true,false,false,false,false,false] rfl rfl (any_of HT_.out (by kernel_rfl)) (fun _ _ _ h => h) (Or.inr ⟨by rfl, rfl⟩) ?_ ?_
                 rotate_left
                 ·
                  simp only [Act.put,List.setIfInBounds_toArray,List.set_cons_zero,List.set_cons_succ,i64_w,i32_w]
                  rfl
                 refine pure_ (i := 19) (N := some 172) (v := undef) (a' := ?_) #[true,true,true,true,true,true,true,true,true,true,true,true,true,true,true,true,true,true,true,true,false,false,false,false] rfl rfl (any_of HT_.out (by kernel_rfl)) (fun _ _ _ h => h) (Or.inr ⟨by rfl, rfl⟩) ?_ ?_
                 rotate_left
                 ·
                  simp only [Act.put,List.setIfInBounds_toArray,List.set_cons_zero,List.set_cons_succ,i64_w,i32_w]
                  rfl
                 refine pure_ (i := 20) (N := some 173) (v := undef) (a' := ?_) #[true,true,true,true,true,true,true,true,true,true,true,true,true,true,true,true,true,true,true,true,true,false,false,false] rfl rfl (any_of HT_.out (by kernel_rfl)) (fun _ _ _ h => h) (Or.inr ⟨by rfl, rfl⟩) ?_ ?_
                 rotate_left
                 ·
                  simp only [Act.put,List.setIfInBounds_toArray,List.set_cons_zero,List.set_cons_succ,i64_w,i32_w]
                  rfl
                 refine pure_ (i := 21) (N := some 174) (v := undef) (a' := ?_) #[true,true,true,true,true,true,true,true,true,true,true,true,true,true,true,true,true,true,true,true,true,true,false,false] rfl rfl (any_of HT_.out (by kernel_rfl)) (fun _ _ _ h => h) (Or.inr ⟨by rfl, rfl⟩) ?_ ?_
                 rotate_left
                 ·
                  simp only [Act.put,List.setIfInBounds_toArray,List.set_cons_zero,List.set_cons_succ,i64_w,i32_w]
                  rfl
                 refine pure_ (i := 22) (N := some 175) (v := ?_) (a' := ?_) #[true,true,true,true,true,true,true,true,true,true,true,true,true,true,true,true,true,true,true,true,true,true,true,false] rfl rfl (any_of HT_.out (by kernel_rfl)) (fun _ _ _ h => h) (Or.inl ⟨by rfl, ?_⟩) ?_ ?_; rotate_left; (· intro w'; go_simp; with_reducible rfl); rotate_left; (· simp only [Act.put,List.setIfInBounds_toArray,List.set_cons_zero,List.set_cons_succ,i64_w,i32_w]; rfl)
                 refine pure_ (i := 23) (N := some 152) (v := ?_) (a' := ?_) #[true,true,true,true,true,true,true,true,true,true,true,true,true,true,true,true,true,true,true,true,true,true,true,true] rfl rfl (any_of HT_.out (by kernel_rfl)) (fun _ _ _ h => h) (Or.inl ⟨by rfl, ?_⟩) ?_ ?_; rotate_left; (· intro w'; go_simp; with_reducible rfl); rotate_left; (· simp only [Act.put,List.setIfInBounds_toArray,List.set_cons_zero,List.set_cons_succ,i64_w,i32_w]; rfl)
                 refine done_ (done_of HT_.out (by kernel_rfl)) ?_
                 try go_wp2
                 go_meet
                 case rel => exact ⟨_, (false), (by first | rfl | (simp; done) | (simp [*]; done)), H', ⟨by have := HK1.out; have := HJ9.out; have := HJ12.out; have := HJ14.out; have := HJ43.out; first | omega | exact Nat.le_refl _⟩, ⟨by (with_reducible repeat (first | apply Kd.R_alloc | apply Kd.R_drewN | apply Kd.R_drew)); exact HO_6.out⟩, ⟨by (with_reducible repeat (first | apply Kd.R_alloc | apply Kd.R_drewN | apply Kd.R_drew)); exact HO_7.out⟩, ⟨by (with_reducible repeat (first | apply Kd.S_alloc | apply Kd.S_drewN | apply Kd.S_drew)); exact HO_9.out⟩, ⟨by (with_reducible repeat (first | apply Kd.R_alloc | apply Kd.R_drewN | apply Kd.R_drew)); exact HO_10.out⟩, ⟨by repeat (first | (with_reducible first | exact HB.out | apply below_alloc | apply pw_below_drewN | apply below_drew1) | exact HB.out)⟩⟩
               case rest =>
                clear HC73
                (try clear c2); (try clear p2); (try clear q2); (try clear hx2); (try clear c3); (try clear c4); (try clear c5); (try clear c6); (try clear p6); (try clear c7); (try clear c8); (try clear c24); (try clear p24); (try clear q24); (try clear hx24); (try clear c25); (try clear p25); (try clear q25); (try clear hx25); (try clear c37); (try clear c38); (try clear c45); (try clear c46); (try clear c47); (try clear c48); (try clear c49); (try clear c55); (try clear c56); (try clear c58); (try clear c59); (try clear c60); (try clear c61); (try clear p64); (try clear c66); (try clear c67); (try clear c67b0); (try clear c68); (try clear c68b0); (try clear c70); (try clear c74); (try clear c74b0); (try clear c76); (try clear c76b0); (try clear c77); (try clear c77b0); (try clear c78); (try clear c78b0); (try clear c79); (try clear c79b0); (try clear c80); (try clear c80b0); (try clear c81); (try clear c81b0); (try clear c82); (try clear c82b0); (try clear hx241_0); (try clear hx241_1); (try clear hx241_2); (try clear hx241_3); (try clear hx241_4); (try clear hx242_0); (try clear hx242_1); (try clear hx242_2); (try clear hx242_3); (try clear hx242_4); (try clear hx244_0); (try clear hx245_0); (try clear hx246_0); (try clear hx247_0); (try clear hx248_0); (try clear hx248_1); (try clear hx248_2); (try clear hx248_3); (try clear hx248_4); (try clear hx253_0); (try clear hx254_0); (try clear hx255_0); (try clear hx256_0); (try clear p241); (try clear p242); (try clear p244); (try clear p245); (try clear p246); (try clear p247); (try clear p248); (try clear p253); (try clear p254); (try clear p255); (try clear p256); (try clear q241); (try clear q242); (try clear q244); (try clear q245); (try clear q246); (try clear q247); (try clear q248); (try clear q253); (try clear q254); (try clear q255); (try clear q256)
                obtain ⟨kq, x152_72, rfl, HA, HJ72, HO_6, HO_7, HO_9, HO_10, HB⟩ := hcut
                cases kq with
                | zero => exact absurd HA.out (by simp [siglumref08_Path.j5])
                | succ kj72 =>
                 have H := HA.out
                 clear HA
                 simp only [siglumref08_Path.j5] at H
                 by_cases c86 : x152_72 = true
                 ·
                  subst c86
                  have H1 : (if 0 ≤ x11_1 then (if x11_1 < (t219.length : Int) then ((siglumref08_bytes.f a0 ((rd_T75 t219 x11_1).f0) ((rd_T75 t219 x11_1).f1) ((rd_T75 t219 x11_1).f2) ((rd_T75 t219 x11_1).f3) ((rd_T75 t219 x11_1).f4)).bind fun t258 => (if x10_1.length < 5864062014805 then (siglumref08_Path.l0 kj72 a0 a1 t219 t220 t226 (x10_1 ++ [(⟨3, t258⟩ : S30)]) (wrap64 (x11_1 + 1)) x12_1) else (none))) else (none)) else (none)) = some (r1, r2) := by rw [if_pos rfl] at H; exact H
                  clear H
                  have H := H1
                  clear H1
                  by_cases c87 : 0 ≤ x11_1
                  rotate_left
                  · rw [if_neg c87] at H; exact absurd H (by simp)
                  rw [if_pos c87] at H
                  have c87b0 : decide (0 ≤ x11_1) = true := decide_eq_true c87
                  clear c87
                  by_cases c88 : x11_1 < (t219.length : Int)
                  rotate_left
                  · rw [if_neg c88] at H; exact absurd H (by simp)
                  rw [if_pos c88] at H
                  have c88b0 : decide (x11_1 < (t219.length : Int)) = true := decide_eq_true c88
                  clear c88
                  replace H := Option.bind_eq_some_iff.mp H
                  obtain ⟨t258, A890, H⟩ := H
                  replace H : (if x10_1.length < 5864062014805 then (siglumref08_Path.l0 kj72 a0 a1 t219 t220 t226 (x10_1 ++ [(⟨3, t258⟩ : S30)]) (wrap64 (x11_1 + 1)) x12_1) else (none)) = some (r1, r2) := H
                  have A89 := Aside0.mk A890
                  clear A890
                  by_cases c90 : x10_1.length < 5864062014805
                  rotate_left
                  · rw [if_neg c90] at H; exact absurd H (by simp)
                  rw [if_pos c90] at H
                  have LMc90 := Aside0.mk c90
                  clear c90
                  obtain ⟨y259, hy259⟩ : ∃ y_ : List (S30), y_ = (x10_1 ++ [(⟨3, t258⟩ : S30)]) := ⟨_, rfl⟩
                  replace H : (siglumref08_Path.l0 kj72 a0 a1 t219 t220 t226 y259 (wrap64 (x11_1 + 1)) x12_1) = some (r1, r2) := by first | (rw [hy259]; with_reducible exact H) | (have H2_ := (Option.bind_some _ _).symm.trans H; rw [hy259]; with_reducible exact H2_) | (have H2_ := (Option.bind_some _ _).symm.trans H; with_reducible exact H2_) | with_reducible exact H | (rw [hy259]; exact H) | exact H
                  have Ny259 := Aside0.mk hy259
                  clear hy259
                  have H' := Aside0.mk H
                  clear H
                  have p257 : 0 ≤ (x11_1 : Int) := of_decide_eq_true (by assumption)
                  have q257 : x11_1 < (t219.length : Int) := of_decide_eq_true (by assumption)
                  obtain ⟨ad257, e257, hx257_0, hx257_1, hx257_2, hx257_3, hx257_4⟩ := at_T75 (Kd.R_reads' HO_6.out).2.2 x11_1 p257 q257
                  cases e257
                  replace p257 := eq_true p257
                  replace q257 := eq_true q257
                  go_wp2_with (first | ((with_reducible refine gate_callee (f := 38) rfl ?_); refine goesL_ (some 182) rfl rfl Tryd.func38 (by kernel_rfl) rfl #[.string a0, .agg #[.int .i64 ((rd_T75 t219 x11_1).f0), .int .i64 ((rd_T75 t219 x11_1).f1), .int .i32 ((rd_T75 t219 x11_1).f2), .bool ((rd_T75 t219 x11_1).f3), .int .u8 ((rd_T75 t219 x11_1).f4)]] rfl (by (try simp only [List.map_toArray, List.map_cons, List.map_nil]); first | done | rfl | (simp only [List.length_drop, List.length_take]; rfl)) ?_; (with_reducible refine (siglumref08_bytes.calls a0 ((rd_T75 t219 x11_1).f0) ((rd_T75 t219 x11_1).f1) ((rd_T75 t219 x11_1).f2) ((rd_T75 t219 x11_1).f3) ((rd_T75 t219 x11_1).f4) t258 _ A89.out).mono ?_); rintro e w91 ⟨rfl, hb⟩; refine ⟨_, rfl, ?_⟩; have n0_ := Aside0.mk (Kd.R_below (by (with_reducible repeat (first | apply Kd.R_alloc | apply Kd.R_drewN | apply Kd.R_drew)); exact HO_6.out) hb); have n1_ := Aside0.mk (Kd.R_below (by (with_reducible repeat (first | apply Kd.R_alloc | apply Kd.R_drewN | apply Kd.R_drew)); exact HO_7.out) hb); have n2_ := Aside0.mk (Kd.S_below (by (with_reducible repeat (first | apply Kd.S_alloc | apply Kd.S_drewN | apply Kd.S_drew)); exact HO_9.out) hb); have n3_ := Aside0.mk (Kd.R_below (by (with_reducible repeat (first | apply Kd.R_alloc | apply Kd.R_drewN | apply Kd.R_drew)); exact HO_10.out) hb); have n4_ := Aside0.mk (below_step (by repeat (first | (with_reducible first | exact HB.out | apply below_alloc | apply pw_below_drewN | apply below_drew1) | exact HB.out)) hb); clear HO_6; clear HO_7; clear HO_9; clear HO_10; clear HB; have HO_6 := n0_; have HO_7 := n1_; have HO_9 := n2_; have HO_10 := n3_; have HB := n4_; clear n0_ n1_ n2_ n3_ n4_; (try clear hb); (try clear hb2); (try clear hk); (try clear hi)) | ((with_reducible refine gate_builtin (b := .append) (xs := #[.tmp 176, .tmp 184]) rfl ?_); (try (refine gate_guard (by rfl) ?_; dsimp only)); at_builtin; refine Kd.R_append k30 (w0 := w) w.heap.size rfl (.tmp 176) (.tmp 184) 23 30 (.agg #[(.int .i64 0), (.string ⟨#[]⟩)]) 24 rfl Tryd.underlying23 info30 rfl (by decide) (by omega) u10 x10_1 (⟨3, t258⟩ : S30) [.int .i64 3, .string t258] (fun _ => True) (fun _ => False) rfl rfl ?aP (fun _ hk => hk.elim) ?aF ?aO ?aB ?aS ?aL ?_; (case aP => exact k30_mkM _ _ _ (⟨3, t258⟩ : S30)); (case aB => exact (by repeat (first | (with_reducible first | exact HB.out | apply below_alloc | apply pw_below_drewN | apply below_drew1) | exact HB.out))); (case aF => exact (fun _ _ => trivial)); (case aO => exact (by (with_reducible repeat (first | apply Kd.R_alloc | apply Kd.R_drewN | apply Kd.R_drew)); exact HO_10.out)); (case aS => exact (below_size (by repeat (first | (with_reducible first | exact HB.out | apply below_alloc | apply pw_below_drewN | apply below_drew1) | exact HB.out)))); (case aL => have := LMc90.out; omega); intro v260 w92 ho hb hg hat; rw [← Ny259.out] at ho; have n0_ := Aside0.mk (Kd.R_over' (by (with_reducible repeat (first | apply Kd.R_alloc | apply Kd.R_drewN | apply Kd.R_drew)); exact HO_6.out) (Kd.R_typed (by (with_reducible repeat (first | apply Kd.R_alloc | apply Kd.R_drewN | apply Kd.R_drew)); exact HO_10.out)) (by decide) hg); have n1_ := Aside0.mk (Kd.R_over' (by (with_reducible repeat (first | apply Kd.R_alloc | apply Kd.R_drewN | apply Kd.R_drew)); exact HO_7.out) (Kd.R_typed (by (with_reducible repeat (first | apply Kd.R_alloc | apply Kd.R_drewN | apply Kd.R_drew)); exact HO_10.out)) (by decide) hg); have n2_ := Aside0.mk (Kd.S_over' (by (with_reducible repeat (first | apply Kd.S_alloc | apply Kd.S_drewN | apply Kd.S_drew)); exact HO_9.out) (Kd.R_typed (by (with_reducible repeat (first | apply Kd.R_alloc | apply Kd.R_drewN | apply Kd.R_drew)); exact HO_10.out)) (by decide) hg); have n3_ := Aside0.mk (hb); have n4_ := Aside0.mk (ho); clear HO_6; clear HO_7; clear HO_9; clear HB; clear HO_10; have HO_6 := n0_; have HO_7 := n1_; have HO_9 := n2_; have HB := n3_; have HO261 := n4_; clear n0_ n1_ n2_ n3_ n4_; clear ho hb hg hat))
                  go_roundg kj72
                  case measure => have := HK1.out; have := HJ9.out; have := HJ12.out; have := HJ14.out; have := HJ43.out; have := HJ72.out; omega
                  case rel => exact ⟨(y259), (wrap64 (x11_1 + 1)), (x12_1), (by first | rfl | (simp; done) | (simp [*]; done)), (by first | rfl | (simp; done) | (simp [*]; done)), H', ⟨by have := HK1.out; have := HJ9.out; have := HJ12.out; have := HJ14.out; have := HJ43.out; have := HJ72.out; omega⟩, ⟨by (with_reducible repeat (first | apply Kd.R_alloc | apply Kd.R_drewN | apply Kd.R_drew)); exact HO_6.out⟩, ⟨by (with_reducible repeat (first | apply Kd.R_alloc | apply Kd.R_drewN | apply Kd.R_drew)); exact HO_7.out⟩, ⟨by (with_reducible repeat (first | apply Kd.S_alloc | apply Kd.S_drewN | apply Kd.S_drew)); exact HO_9.out⟩, ⟨by (with_reducible repeat (first | apply Kd.R_alloc | apply Kd.R_drewN | apply Kd.R_drew)); exact HO261.out⟩, ⟨by repeat (first | (with_reducible first | exact HB.out | apply below_alloc | apply pw_below_drewN | apply below_drew1) | exact HB.out)⟩⟩
                 ·
                  replace c86 := Bool.eq_false_iff.mpr c86
                  subst c86
                  have H1 : (if 0 ≤ x12_1 then (if x12_1 < (t220.length : Int) then ((siglumref08_bytes.f a1 ((rd_T75 t220 x12_1).f0) ((rd_T75 t220 x12_1).f1) ((rd_T75 t220 x12_1).f2) ((rd_T75 t220 x12_1).f3) ((rd_T75 t220 x12_1).f4)).bind fun t263 => (if x10_1.length < 5864062014805 then (siglumref08_Path.l0 kj72 a0 a1 t219 t220 t226 (x10_1 ++ [(⟨4, t263⟩ : S30)]) x11_1 (wrap64 (x12_1 + 1))) else (none))) else (none)) else (none)) = some (r1, r2) := by rw [if_neg (show ¬ (false = true) by decide)] at H; exact H
                  clear H
                  have H := H1
                  clear H1
                  by_cases c93 : 0 ≤ x12_1
                  rotate_left
                  · rw [if_neg c93] at H; exact absurd H (by simp)
                  rw [if_pos c93] at H
                  have c93b0 : decide (0 ≤ x12_1) = true := decide_eq_true c93
                  clear c93
                  by_cases c94 : x12_1 < (t220.length : Int)
                  rotate_left
                  · rw [if_neg c94] at H; exact absurd H (by simp)
                  rw [if_pos c94] at H
                  have c94b0 : decide (x12_1 < (t220.length : Int)) = true := decide_eq_true c94
                  clear c94
                  replace H := Option.bind_eq_some_iff.mp H
                  obtain ⟨t263, A950, H⟩ := H
                  replace H : (if x10_1.length < 5864062014805 then (siglumref08_Path.l0 kj72 a0 a1 t219 t220 t226 (x10_1 ++ [(⟨4, t263⟩ : S30)]) x11_1 (wrap64 (x12_1 + 1))) else (none)) = some (r1, r2) := H
                  have A95 := Aside0.mk A950
                  clear A950
                  by_cases c96 : x10_1.length < 5864062014805
                  rotate_left
                  · rw [if_neg c96] at H; exact absurd H (by simp)
                  rw [if_pos c96] at H
                  have LMc96 := Aside0.mk c96
                  clear c96
                  obtain ⟨y264, hy264⟩ : ∃ y_ : List (S30), y_ = (x10_1 ++ [(⟨4, t263⟩ : S30)]) := ⟨_, rfl⟩
                  replace H : (siglumref08_Path.l0 kj72 a0 a1 t219 t220 t226 y264 x11_1 (wrap64 (x12_1 + 1))) = some (r1, r2) := by first | (rw [hy264]; with_reducible exact H) | (have H2_ := (Option.bind_some _ _).symm.trans H; rw [hy264]; with_reducible exact H2_) | (have H2_ := (Option.bind_some _ _).symm.trans H; with_reducible exact H2_) | with_reducible exact H | (rw [hy264]; exact H) | exact H
                  have Ny264 := Aside0.mk hy264
                  clear hy264
                  have H' := Aside0.mk H
                  clear H
                  have p262 : 0 ≤ (x12_1 : Int) := of_decide_eq_true (by assumption)
                  have q262 : x12_1 < (t220.length : Int) := of_decide_eq_true (by assumption)
                  obtain ⟨ad262, e262, hx262_0, hx262_1, hx262_2, hx262_3, hx262_4⟩ := at_T75 (Kd.R_reads' HO_7.out).2.2 x12_1 p262 q262
                  cases e262
                  replace p262 := eq_true p262
                  replace q262 := eq_true q262
                  go_wp2_with (first | ((with_reducible refine gate_callee (f := 38) rfl ?_); refine goesL_ (some 52) rfl rfl Tryd.func38 (by kernel_rfl) rfl #[.string a1, .agg #[.int .i64 ((rd_T75 t220 x12_1).f0), .int .i64 ((rd_T75 t220 x12_1).f1), .int .i32 ((rd_T75 t220 x12_1).f2), .bool ((rd_T75 t220 x12_1).f3), .int .u8 ((rd_T75 t220 x12_1).f4)]] rfl (by (try simp only [List.map_toArray, List.map_cons, List.map_nil]); first | done | rfl | (simp only [List.length_drop, List.length_take]; rfl)) ?_; (with_reducible refine (siglumref08_bytes.calls a1 ((rd_T75 t220 x12_1).f0) ((rd_T75 t220 x12_1).f1) ((rd_T75 t220 x12_1).f2) ((rd_T75 t220 x12_1).f3) ((rd_T75 t220 x12_1).f4) t263 _ A95.out).mono ?_); rintro e w97 ⟨rfl, hb⟩; refine ⟨_, rfl, ?_⟩; have n0_ := Aside0.mk (Kd.R_below (by (with_reducible repeat (first | apply Kd.R_alloc | apply Kd.R_drewN | apply Kd.R_drew)); exact HO_6.out) hb); have n1_ := Aside0.mk (Kd.R_below (by (with_reducible repeat (first | apply Kd.R_alloc | apply Kd.R_drewN | apply Kd.R_drew)); exact HO_7.out) hb); have n2_ := Aside0.mk (Kd.S_below (by (with_reducible repeat (first | apply Kd.S_alloc | apply Kd.S_drewN | apply Kd.S_drew)); exact HO_9.out) hb); have n3_ := Aside0.mk (Kd.R_below (by (with_reducible repeat (first | apply Kd.R_alloc | apply Kd.R_drewN | apply Kd.R_drew)); exact HO_10.out) hb); have n4_ := Aside0.mk (below_step (by repeat (first | (with_reducible first | exact HB.out | apply below_alloc | apply pw_below_drewN | apply below_drew1) | exact HB.out)) hb); clear HO_6; clear HO_7; clear HO_9; clear HO_10; clear HB; have HO_6 := n0_; have HO_7 := n1_; have HO_9 := n2_; have HO_10 := n3_; have HB := n4_; clear n0_ n1_ n2_ n3_ n4_; (try clear hb); (try clear hb2); (try clear hk); (try clear hi)) | ((with_reducible refine gate_builtin (b := .append) (xs := #[.tmp 46, .tmp 54]) rfl ?_); (try (refine gate_guard (by rfl) ?_; dsimp only)); at_builtin; refine Kd.R_append k30 (w0 := w) w.heap.size rfl (.tmp 46) (.tmp 54) 23 30 (.agg #[(.int .i64 0), (.string ⟨#[]⟩)]) 24 rfl Tryd.underlying23 info30 rfl (by decide) (by omega) u10 x10_1 (⟨4, t263⟩ : S30) [.int .i64 4, .string t263] (fun _ => True) (fun _ => False) rfl rfl ?aP (fun _ hk => hk.elim) ?aF ?aO ?aB ?aS ?aL ?_; (case aP => exact k30_mkM _ _ _ (⟨4, t263⟩ : S30)); (case aB => exact (by repeat (first | (with_reducible first | exact HB.out | apply below_alloc | apply pw_below_drewN | apply below_drew1) | exact HB.out))); (case aF => exact (fun _ _ => trivial)); (case aO => exact (by (with_reducible repeat (first | apply Kd.R_alloc | apply Kd.R_drewN | apply Kd.R_drew)); exact HO_10.out)); (case aS => exact (below_size (by repeat (first | (with_reducible first | exact HB.out | apply below_alloc | apply pw_below_drewN | apply below_drew1) | exact HB.out)))); (case aL => have := LMc96.out; omega); intro v265 w98 ho hb hg hat; rw [← Ny264.out] at ho; have n0_ := Aside0.mk (Kd.R_over' (by (with_reducible repeat (first | apply Kd.R_alloc | apply Kd.R_drewN | apply Kd.R_drew)); exact HO_6.out) (Kd.R_typed (by (with_reducible repeat (first | apply Kd.R_alloc | apply Kd.R_drewN | apply Kd.R_drew)); exact HO_10.out)) (by decide) hg); have n1_ := Aside0.mk (Kd.R_over' (by (with_reducible repeat (first | apply Kd.R_alloc | apply Kd.R_drewN | apply Kd.R_drew)); exact HO_7.out) (Kd.R_typed (by (with_reducible repeat (first | apply Kd.R_alloc | apply Kd.R_drewN | apply Kd.R_drew)); exact HO_10.out)) (by decide) hg); have n2_ := Aside0.mk (Kd.S_over' (by (with_reducible repeat (first | apply Kd.S_alloc | apply Kd.S_drewN | apply Kd.S_drew)); exact HO_9.out) (Kd.R_typed (by (with_reducible repeat (first | apply Kd.R_alloc | apply Kd.R_drewN | apply Kd.R_drew)); exact HO_10.out)) (by decide) hg); have n3_ := Aside0.mk (hb); have n4_ := Aside0.mk (ho); clear HO_6; clear HO_7; clear HO_9; clear HB; clear HO_10; have HO_6 := n0_; have HO_7 := n1_; have HO_9 := n2_; have HB := n3_; have HO266 := n4_; clear n0_ n1_ n2_ n3_ n4_; clear ho hb hg hat))
                  go_roundg kj72
                  case measure => have := HK1.out; have := HJ9.out; have := HJ12.out; have := HJ14.out; have := HJ43.out; have := HJ72.out; omega
                  case rel => exact ⟨(y264), (x11_1), (wrap64 (x12_1 + 1)), (by first | rfl | (simp; done) | (simp [*]; done)), (by first | rfl | (simp; done) | (simp [*]; done)), H', ⟨by have := HK1.out; have := HJ9.out; have := HJ12.out; have := HJ14.out; have := HJ43.out; have := HJ72.out; omega⟩, ⟨by (with_reducible repeat (first | apply Kd.R_alloc | apply Kd.R_drewN | apply Kd.R_drew)); exact HO_6.out⟩, ⟨by (with_reducible repeat (first | apply Kd.R_alloc | apply Kd.R_drewN | apply Kd.R_drew)); exact HO_7.out⟩, ⟨by (with_reducible repeat (first | apply Kd.S_alloc | apply Kd.S_drewN | apply Kd.S_drew)); exact HO_9.out⟩, ⟨by (with_reducible repeat (first | apply Kd.R_alloc | apply Kd.R_drewN | apply Kd.R_drew)); exact HO266.out⟩, ⟨by repeat (first | (with_reducible first | exact HB.out | apply below_alloc | apply pw_below_drewN | apply below_drew1) | exact HB.out)⟩⟩
      ·
       replace c12 := Bool.eq_false_iff.mpr c12
       subst c12
       have H1 : (some (x10_1, 0)) = some (r1, r2) := by rw [if_neg (show ¬ (false = true) by decide)] at H; exact H
       clear H
       have H := H1
       clear H1
       simp only [Option.some.injEq, Prod.mk.injEq] at H
       obtain ⟨rfl, rfl⟩ := H
       go_wp2
       go_ret2
       exact ⟨_, by first | rfl | (simp [errW_none, errW_some] <;> rfl) | (simp [*, errW_none, errW_some] <;> rfl), by (with_reducible repeat (first | apply Kd.R_alloc | apply Kd.R_drewN | apply Kd.R_drew)); exact HO_10.out, by repeat (first | (with_reducible first | exact HB.out | apply below_alloc | apply pw_below_drewN | apply below_drew1) | exact HB.out)⟩
 ·
  replace c4 := Bool.eq_false_iff.mpr c4
  subst c4
  have H1 : (some (([] : List (S30)), 1)) = some (r1, r2) := by rw [if_neg (show ¬ (false = true) by decide)] at H; exact H
  clear H
  have H := H1
  clear H1
  simp only [Option.some.injEq, Prod.mk.injEq] at H
  obtain ⟨rfl, rfl⟩ := H
  go_enter Tryd.func17, Tryd.ntmps17
  go_wp2_with (first | ((with_reducible refine gate_callee (f := 35) rfl ?_); refine goesL_ (some 17) rfl rfl Tryd.func35 (by kernel_rfl) rfl #[.string a0, .string a1] rfl (by (try simp only [List.map_toArray, List.map_cons, List.map_nil]); first | done | rfl | (simp only [List.length_drop, List.length_take]; rfl)) ?_; (with_reducible refine (siglumref08_cells.calls k a0 a1 t219 t220 false _ A3.out).mono ?_); rintro e w99 ⟨v222, v224, rfl, ho0, ho1, hb⟩; refine ⟨_, rfl, ?_⟩; have n0_ := Aside0.mk (Kd.R_lower ho0 (below_size (by repeat (first | (with_reducible first | exact HB.out | apply below_alloc | apply pw_below_drewN | apply below_drew1) | exact HB.out)))); have n1_ := Aside0.mk (Kd.R_lower ho1 (below_size (by repeat (first | (with_reducible first | exact HB.out | apply below_alloc | apply pw_below_drewN | apply below_drew1) | exact HB.out)))); have n2_ := Aside0.mk (below_step (by repeat (first | (with_reducible first | exact HB.out | apply below_alloc | apply pw_below_drewN | apply below_drew1) | exact HB.out)) hb); clear HB; have HO223 := n0_; have HO225 := n1_; have HB := n2_; clear n0_ n1_ n2_; (try clear hb); (try clear hb2); (try clear hk); (try clear hi); (try clear ho0); (try clear ho1)))
  go_ret2
  exact ⟨_, by first | rfl | (simp [errW_none, errW_some] <;> rfl) | (simp [*, errW_none, errW_some] <;> rfl), by first | exact Kd.R_nil _ _ _ _ _ | exact Kd.N_nil _ _ _ _ _ | exact Kd.V_nil _ _ _ _ _ | exact Kd.Q_nil _ _ _ _ _ | exact Kd.S_nil _ _ _ _ _, by repeat (first | (with_reducible first | exact HB.out | apply below_alloc | apply pw_below_drewN | apply below_drew1) | exact HB.out)⟩

end Go.Proofs.YtalogampkkjcdaaDoor.P
