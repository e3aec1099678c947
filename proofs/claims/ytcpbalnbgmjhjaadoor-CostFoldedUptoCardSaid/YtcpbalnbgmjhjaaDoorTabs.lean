/-
  The listed tables of utf8, strings and unicode: what a row's list gives a walk; a world in which the listed variables lie as their initialisers lay them.
-/
import Derived.Test.YtcpbalnbgmjhjaaDoorRows
import Derived.Test.YtcpbalnbgmjhjaaDoorShelf
import Derived.Test.YtcpbalnbgmjhjaaDoorUtf
import Derived.Lib.LaidIn
import Derived.Lib.LaidTab
import Derived.Lib.LaidU8T
import Derived.PinnedBridge
import Derived.ProofKit
namespace Go.Proofs.YtcpbalnbgmjhjaaDoor.Tb
open Go.Shelf Go.ChangeShapes Go.WideShapes Go.ChangeAt Go.RowKit Go.Lib

abbrev listed : List (String × DataW Unit) := [("unicode/utf8.acceptRanges", Rows.laid_unicode_utf8_acceptRanges), ("unicode.White_Space", Rows.laid_unicode_White_Space), ("strings.asciiSpace", Rows.laid_strings_asciiSpace), ("unicode/utf8.first", Rows.laid_unicode_utf8_first)]
theorem acc_eq : (Rows.laid_unicode_utf8_acceptRanges : DataW Unit) = Lib.acceptData := by kernel_rfl
theorem first_eq : (Rows.laid_unicode_utf8_first : DataW Unit) = Lib.firstData := Pinned.utf8First_eq
theorem space_eq : (Rows.laid_strings_asciiSpace : DataW Unit) = Lib.tabData .u8 Lib.asciiSpaceTab := by kernel_rfl
theorem tabs {W : World} (hL : laidMet Tryd.prog listed W) : Utf.Tabs2 W := by
  have h4 : VarReads Tryd.prog W "unicode/utf8.acceptRanges" acceptData := by rw [← acc_eq]; exact Lib.laidMet.reads hL (.head _)
  have h3 : VarReads Tryd.prog W "unicode/utf8.first" firstData := by rw [← first_eq]; exact Lib.laidMet.reads hL (.tail _ (.tail _ (.tail _ (.head _))))
  have h2 : VarReads Tryd.prog W "strings.asciiSpace" (Lib.tabData .u8 Lib.asciiSpaceTab) := by rw [← space_eq]; exact Lib.laidMet.reads hL (.tail _ (.tail _ (.head _)))
  refine ⟨utf8Tabs_of_readsT (U8Types.of260 Tryd.lays260) ⟨by kernel_rfl, by kernel_rfl, by kernel_rfl, by kernel_rfl, by kernel_rfl, by kernel_rfl, by kernel_rfl⟩ h3 h4, ?_⟩
  obtain ⟨g, t, cs, fuel, p, hg, ht, hv, hread⟩ := h2
  have e1 : g = 2 := Option.some.inj (hg.symm.trans (by kernel_rfl))
  subst e1
  have e2 : t = 118 := Option.some.inj (ht.symm.trans (by kernel_rfl))
  subst e2
  have hc := Lib.cells_of_tab (n := 256) (e := 5) Tryd.underlying118 Tryd.underlying5 (by kernel_rfl) (by kernel_rfl) hread
  unfold Lib.TabIs
  rw [hv]
  congr 1
  exact Array.toList_inj.1 (by rw [hc])

noncomputable def laidWorld (os : Os) : World :=
  let w0 := World.holding Tryd.prog os ⟨#[], #[], []⟩
  let put (h : Array Obj) (g : Nat) (cs : Array Value) : Array Obj := h.modify g fun
    | .cells _ t frozen => .cells cs t frozen
    | o => o
  let h1 := put w0.heap 0 (Lib.firstTab.map fun z => Value.int .u8 z).toArray
  let h2 := put h1 1 ((List.range 16).flatMap fun i => [Value.int .u8 (Lib.accLo i), Value.int .u8 (Lib.accHi i)]).toArray
  let h3 := put h2 2 (Lib.asciiSpaceTab.map fun z => Value.int .u8 z).toArray
  let h4 := put h3 3 #[.pointer (some ⟨h3.size, 0, none⟩)]
  let h5 := (h4.push (.cells #[.slice (some ⟨h4.size + 1, 0, none⟩) 7 7, .slice none 0 0, .int .i64 2] 154 (0, 0))).push (.cells ([9, 13, 1, 32, 133, 101, 160, 5760, 5600, 8192, 8202, 1, 8232, 8233, 1, 8239, 8287, 48, 12288, 12288, 1].map fun z => Value.int .u16 z).toArray 157 (0, 0))
  { w0 with heap := h5 }
theorem laid_met (os : Os) (args : Array Value) : laidMet Tryd.prog listed ((laidWorld os).forCall (fun _ _ => 0) ⟨#[], args, []⟩).memory := by
  have h := (LaidIn.of_run (P := Tryd.prog) (w := ((laidWorld os).forCall (fun _ _ => 0) ⟨#[], args, []⟩).memory) (l := [("unicode/utf8.acceptRanges", Lib.acceptData), ("unicode.White_Space", Rows.laid_unicode_White_Space), ("strings.asciiSpace", Rows.laid_strings_asciiSpace), ("unicode/utf8.first", Lib.firstData)]) (List.range 40) 8 (by kernel_rfl) (by kernel_rfl) (by kernel_rfl) (by kernel_rfl)).met
  rw [← acc_eq, ← first_eq] at h
  exact h
end Go.Proofs.YtcpbalnbgmjhjaaDoor.Tb
