-- Printed by hprint.py (this session's program over the kit's print) out of the translation; the parts 'by hand' are the session's own.
import Derived.Test.YtfcobfjjcocggaaDoorCx0
namespace Go.Proofs.YtfcobfjjcocggaaDoor.C
open Go.RowKit Go.Proofs.YtfcobfjjcocggaaDoorW.PrintWords Go.Proofs.YtfcobfjjcocggaaDoorW.PrintLast Go.Proofs.YtfcobfjjcocggaaDoorW.PrintMore
attribute [local go_sem] max2_int min2_int max_two min_two max_three min_three max_four min_four   -- for this text's walks alone
set_option linter.unusedVariables false
set_option linter.unusedSimpArgs false

/-! ### glyph_Cells: function 21: by hand -/
/-- The cell at a place of a text. -/
def gCell (s : ByteArray) (i : Nat) : S30 := ⟨(i : Int), ((Utf8.decode s i).2 : Int), ((Utf8.decode s i).1 : Int), Utf.bad s i, if Utf.bad s i = true then bt s i else 0⟩
def gCells (s : ByteArray) : Nat → Nat → List S30
  | 0, _ => []
  | f + 1, i => if i < s.size then gCell s i :: gCells s f (i + (Utf8.decode s i).2) else []
def glyph_Cells.f (a0 : ByteArray) : Option (List S30) := if a0.size ≤ 4294967296 then some (gCells a0 a0.size 0) else none
theorem gCells_end (s : ByteArray) (f i : Nat) (h : ¬ i < s.size) : gCells s f i = [] := by cases f <;> simp [gCells, h]
theorem gCells_step (s : ByteArray) (f i : Nat) (h : i < s.size) : gCells s (f + 1) i = gCell s i :: gCells s f (i + (Utf8.decode s i).2) := by rw [gCells, if_pos h]
theorem gCells_more (s : ByteArray) : ∀ f f' i, s.size ≤ i + f → s.size ≤ i + f' → gCells s f i = gCells s f' i
  | 0, f', i, h, _ => by rw [gCells_end s 0 i (by omega), gCells_end s f' i (by omega)]
  | f + 1, 0, i, _, h => by rw [gCells_end s (f + 1) i (by omega), gCells_end s 0 i (by omega)]
  | f + 1, f' + 1, i, h, h' => by
    unfold gCells
    by_cases hi : i < s.size
    · have := Utf.width_pos s i hi
      rw [if_pos hi, if_pos hi, gCells_more s f f' _ (by omega) (by omega)]
    · rw [if_neg hi, if_neg hi]
/-- A row stands while a text's iterator moves on. -/
theorem R_iterAt {α : Type} {d : Kd α} {e base : Nat} {w : World} {ok : Nat → Prop} {v : Value} {xs : List α} (h : d.R e w base ok v xs) {k : Nat} {s : ByteArray} {pos : Nat} (hk : w.heap[k]? = some (.stringIter s pos)) (pos' : Nat) :
    d.R e (w.iterAt k s pos') base ok v xs :=
  Kd.R_mono (Kd.R_move (Kd.R_bound h) (fun j hj => Lib.iterAt_other w k j s pos' (fun e1 => by
    obtain ⟨_, _, _, q, _, cells, hc⟩ := hj
    rw [e1, hk] at hc
    cases hc))) (fun _ hk => hk.1)
theorem R_ne_iter {α : Type} {d : Kd α} {e base : Nat} {w : World} {ok : Nat → Prop} {v : Value} {xs : List α} (h : d.R e w base ok v xs) {k : Nat} {s : ByteArray} {pos : Nat} (hk : w.heap[k]? = some (.stringIter s pos)) : some k ≠ v.ownBlock := by
  intro e1
  obtain ⟨inner, ho⟩ := Kd.R_own h
  obtain ⟨cells, hc⟩ := own_typed ho k e1.symm
  rw [hk] at hc
  cases hc
/-- A text's iterator behind a new block and a row's append. -/
theorem iter_kept {w w1 : World} {k : Nat} {s : ByteArray} {pos : Nat} {row : Option Nat} {o : Obj} (hk : w.heap[k]? = some (.stringIter s pos)) (hg : (w.alloc o).grownBy w1 row) (hr : some k ≠ row) : w1.heap[k]? = some (.stringIter s pos) := by
  have hlt : k < w.heap.size := (Array.getElem?_eq_some_iff.1 hk).1
  rw [hg.block k (by simp; omega) hr]
  exact (Lib.alloc_old w o k hlt).trans hk
theorem infoCell : (Tryd.prog.info? 30).map (fun i => (i.zero, i.size, i.bytes)) = some (some (.agg #[(.int .i64 0), (.int .i64 0), (.int .i32 0), (.bool false), (.int .u8 0)]), 5, 24) := by kernel_rfl
set_option maxHeartbeats 4000000 in
set_option maxRecDepth 100000 in
theorem glyph_Cells.calls (a0 : ByteArray) (r : List S30) (w : World) (hT : Lib.Utf8Tabs 0 1 w) (h : glyph_Cells.f a0 = some r) :
    Calls Tryd.prog 21 #[.string a0] w fun e w' => ∃ v0_ : Value, e = .returned (v0_) ∧ Kd.R k30 30 w' w.heap.size (fun _ => True) v0_ r ∧ Below w.heap.size w w' := by
  unfold glyph_Cells.f at h
  by_cases hs : a0.size ≤ 4294967296
  · rw [if_pos hs] at h
    obtain rfl := Option.some.inj h
    clear h
    have HT := Aside0.mk hT
    clear hT
    go_enter Tryd.func21, Tryd.ntmps21
    go_wp2
    go_loopw [3] (fun v wr => ∃ (pos fuel : Nat) (acc : List S30), Aside0 (Kd.R k30 30 wr w.heap.size (fun _ => True) v acc) ∧ wr.heap[w.heap.size]? = some (.stringIter a0 pos) ∧ Aside0 (Below w.heap.size w wr) ∧ Aside0 (acc ++ gCells a0 fuel pos = gCells a0 a0.size 0) ∧ a0.size ≤ pos + fuel ∧ acc.length ≤ pos) (fun _ wr => a0.size - wr.iterPos w.heap.size)
    case atStart =>
      exact ⟨0, a0.size, [], ⟨Kd.R_nil _ _ _ _ _⟩, World.iter_heap _ _ _, ⟨(Below.refl _ w).alloc (Nat.le_refl _) _⟩, ⟨rfl⟩, by omega, by simp⟩
    case round =>
      obtain ⟨pos, fuel, acc, HO, hit, HB, HA, hfu, hal⟩ := hrel
      have hsz : w.heap.size < wr.heap.size := (Array.getElem?_eq_some_iff.1 hit).1
      by_cases hp : pos < a0.size
      · have hnx : ∀ ty, (Instr.next (.pointer (some ⟨w.heap.size, 0, none⟩)) true ty).run Tryd.prog wr = _ := fun ty => Lib.run_next_any_at wr w.heap.size a0 pos ty hit hp
        have hw1 := Utf.width_pos a0 pos hp
        have hw2 := Utf.width_le a0 pos hp
        have hr1 := Utf.rune_le a0 pos
        obtain ⟨f, rfl⟩ : ∃ f, fuel = f + 1 := ⟨fuel - 1, by omega⟩
        have HA2 : Aside0 ((acc ++ [gCell a0 pos]) ++ gCells a0 f (pos + (Utf8.decode a0 pos).2) = gCells a0 a0.size 0) := ⟨by have := HA.out; rw [gCells_step a0 f pos hp] at this; rw [← this]; simp⟩
        have HO1 := Aside0.mk (R_iterAt HO.out hit (pos + (Utf8.decode a0 pos).2))
        have hit1 := Aside0.mk (Lib.iterAt_heap wr w.heap.size a0 pos (pos + (Utf8.decode a0 pos).2) hit)
        have HB1 := Aside0.mk (Lib.below_iterAt HB.out (Nat.le_refl _) a0 (pos + (Utf8.decode a0 pos).2))
        have hz1 := Aside0.mk (Lib.iterAt_size wr w.heap.size a0 (pos + (Utf8.decode a0 pos).2))
        have hG : Aside0 (gCell a0 pos = ⟨(pos : Int), ((Utf8.decode a0 pos).2 : Int), ((Utf8.decode a0 pos).1 : Int), Utf.bad a0 pos, if Utf.bad a0 pos = true then bt a0 pos else 0⟩) := ⟨rfl⟩
        have hdg := Aside0.mk (Utf.decodeGo_tail a0 pos hp)
        have hbd := Aside0.mk (Utf.bad_iff a0 pos)
        have hrl := Aside0.mk (Utf.runeLen_good a0 pos)
        have hby := Aside0.mk (bt_at a0 (pos : Int))
        clear HO HB HA
        obtain ⟨R, hR⟩ : ∃ R, (Utf8.decode a0 pos).1 = R := ⟨_, rfl⟩
        obtain ⟨K, hK⟩ : ∃ K, (Utf8.decode a0 pos).2 = K := ⟨_, rfl⟩
        have hD : Aside0 (Utf8.decode a0 pos = (R, K)) := ⟨by rw [← hR, ← hK]⟩
        rw [hR, hK] at hG hbd
        rw [hK] at hw1 hw2 HA2 HO1 hit1 HB1 hz1
        rw [hR] at hr1
        rw [hD.out] at hdg hrl
        simp only [hR, hK] at hnx
        clear hR hK
        obtain ⟨W1, hW1⟩ : ∃ W1, W1 = wr.iterAt w.heap.size a0 (pos + K) := ⟨_, rfl⟩
        rw [← hW1] at hnx HO1 hit1 HB1 hz1
        clear hW1
        by_cases hb : R = 65533
        · subst hb
          by_cases hk1 : K = 1
          · subst hk1
            have hbf : Utf.bad a0 pos = true := hbd.out.2 ⟨rfl, rfl⟩
            obtain ⟨Y, hY⟩ : ∃ Y, bt a0 (pos : Int) = Y := ⟨_, rfl⟩
            have hG2 : Aside0 (gCell a0 pos = ⟨(pos : Int), 1, 65533, true, Y⟩) := ⟨by rw [hG.out, hbf, ← hY]; rfl⟩
            have hy0 : ((a0[pos]'hp).toNat : Int) = Y := (hby.out hp).trans hY
            clear hbf hG hbd hrl hby hD hY
            go_wp2_with (first | (go_at_call 41; refine (Tryd.utf8_RuneLen _ _).mono ?_; rintro e w' ⟨rfl, rfl⟩; rw [show Lib.runeLen 65533 = 3 from by decide]) | (go_at_call 42; refine (Tryd.utf8_DecodeRuneInString _ _ (Utf.tabs_step HT.out HB1.out)).mono ?_; rintro e w2 ⟨rfl, hb2⟩; rw [hdg.out]; clear hdg; have HO2 := Aside0.mk (Kd.R_below HO1.out hb2); have HB2 := Aside0.mk (below_step HB1.out hb2); have hit2 := Aside0.mk ((hb2.block w.heap.size (by have := hz1.out; omega)).trans hit1.out); clear hb2 HO1 HB1 hit1) | (at_builtin; refine Kd.R_append k30 (w0 := w) w.heap.size rfl (.tmp 40) (.tmp 42) 22 30 (.agg #[(.int .i64 0), (.int .i64 0), (.int .i32 0), (.bool false), (.int .u8 0)]) 24 rfl Tryd.underlying22 infoCell rfl (by decide) (by omega) u3 acc (⟨(pos : Int), 1, 65533, true, Y⟩ : S30) [.int .i64 (pos : Int), .int .i64 1, .int .i32 65533, .bool true, .int .u8 Y] (fun _ => True) (fun _ => False) rfl (by first | (go_simp; done) | (go_simp; rfl)) ?aP (fun _ h => h.elim) (fun _ _ => trivial) ?aO ?aB ?aS ?aL ?_; (case aP => exact k30_mkM _ _ _ (⟨(pos : Int), 1, 65533, true, Y⟩ : S30)); (case aO => exact Kd.R_alloc HO2.out _); (case aB => exact HB2.out.alloc (by have := HB2.out.size; omega) _); (case aS => have := HB2.out.size; simp; omega); (case aL => omega); intro v1 w1 hown hbel hgrow _; obtain ⟨A1, c1, rfl⟩ := Kd.R_slice hown))
            have hit3 := iter_kept hit2.out hgrow (R_ne_iter HO2.out hit2.out)
            go_roundw
            case rel => exact ⟨pos + 1, f, acc ++ [(⟨(pos : Int), 1, 65533, true, Y⟩ : S30)], ⟨by rw [List.length_append] at hown; exact hown⟩, hit3, ⟨hbel⟩, ⟨by rw [← hG2.out]; exact HA2.out⟩, by omega, by simp; omega⟩
            case measure =>
              simp only [World.iterPos, hit3, hit]
              omega
          · have hbf : Utf.bad a0 pos = false := Bool.eq_false_iff.2 (fun e => hk1 (hbd.out.1 e).2)
            have hG2 : Aside0 (gCell a0 pos = ⟨(pos : Int), (K : Int), 65533, false, 0⟩) := ⟨by rw [hG.out, hbf]; rfl⟩
            have hK3 : K = 3 := by have := hrl.out hbf; rw [show Lib.runeLen ((65533 : Nat) : Int) = 3 from by decide] at this; dsimp only at this; omega
            subst hK3
            have hG2 : Aside0 (gCell a0 pos = ⟨(pos : Int), 3, 65533, false, 0⟩) := ⟨hG2.out⟩
            clear hbf hG hbd hrl hby hD
            go_wp2_with (first | (go_at_call 41; refine (Tryd.utf8_RuneLen _ _).mono ?_; rintro e w' ⟨rfl, rfl⟩; rw [show Lib.runeLen 65533 = 3 from by decide]) | (go_at_call 42; refine (Tryd.utf8_DecodeRuneInString _ _ (Utf.tabs_step HT.out HB1.out)).mono ?_; rintro e w2 ⟨rfl, hb2⟩; rw [hdg.out]; clear hdg; have HO2 := Aside0.mk (Kd.R_below HO1.out hb2); have HB2 := Aside0.mk (below_step HB1.out hb2); have hit2 := Aside0.mk ((hb2.block w.heap.size (by have := hz1.out; omega)).trans hit1.out); clear hb2 HO1 HB1 hit1) | (at_builtin; refine Kd.R_append k30 (w0 := w) w.heap.size rfl (.tmp 40) (.tmp 42) 22 30 (.agg #[(.int .i64 0), (.int .i64 0), (.int .i32 0), (.bool false), (.int .u8 0)]) 24 rfl Tryd.underlying22 infoCell rfl (by decide) (by omega) u3 acc (⟨(pos : Int), 3, 65533, false, 0⟩ : S30) [.int .i64 (pos : Int), .int .i64 3, .int .i32 65533, .bool false, .int .u8 0] (fun _ => True) (fun _ => False) rfl (by first | (go_simp; done) | (go_simp; rfl)) ?aP (fun _ h => h.elim) (fun _ _ => trivial) ?aO ?aB ?aS ?aL ?_; (case aP => exact k30_mkM _ _ _ (⟨(pos : Int), 3, 65533, false, 0⟩ : S30)); (case aO => exact Kd.R_alloc HO2.out _); (case aB => exact HB2.out.alloc (by have := HB2.out.size; omega) _); (case aS => have := HB2.out.size; simp; omega); (case aL => omega); intro v1 w1 hown hbel hgrow _; obtain ⟨A1, c1, rfl⟩ := Kd.R_slice hown))
            have hit3 := iter_kept hit2.out hgrow (R_ne_iter HO2.out hit2.out)
            go_roundw
            case rel => exact ⟨pos + 3, f, acc ++ [(⟨(pos : Int), 3, 65533, false, 0⟩ : S30)], ⟨by rw [List.length_append] at hown; exact hown⟩, hit3, ⟨hbel⟩, ⟨by rw [← hG2.out]; exact HA2.out⟩, by omega, by simp; omega⟩
            case measure =>
              simp only [World.iterPos, hit3, hit]
              omega
        · have hbf : Utf.bad a0 pos = false := Bool.eq_false_iff.2 (fun e => hb (hbd.out.1 e).1)
          have hrn : Lib.runeLen (R : Int) = (K : Int) := hrl.out hbf
          have hG2 : Aside0 (gCell a0 pos = ⟨(pos : Int), (K : Int), (R : Int), false, 0⟩) := ⟨by rw [hG.out, hbf]; rfl⟩
          clear hbf hG hdg hbd hrl hby hD
          have hbi : ((R : Int) == 65533) = false := beq_eq_false_iff_ne.2 (by omega)
          go_wp2_with (first | (go_at_call 41; refine (Tryd.utf8_RuneLen _ _).mono ?_; rintro e w' ⟨rfl, rfl⟩; rw [hrn]; clear hrn) | (at_builtin; refine Kd.R_append k30 (w0 := w) w.heap.size rfl (.tmp 40) (.tmp 42) 22 30 (.agg #[(.int .i64 0), (.int .i64 0), (.int .i32 0), (.bool false), (.int .u8 0)]) 24 rfl Tryd.underlying22 infoCell rfl (by decide) (by omega) u3 acc (⟨(pos : Int), (K : Int), (R : Int), false, 0⟩ : S30) [.int .i64 (pos : Int), .int .i64 (K : Int), .int .i32 (R : Int), .bool false, .int .u8 0] (fun _ => True) (fun _ => False) rfl (by first | (go_simp; done) | (go_simp; rfl)) ?aP (fun _ h => h.elim) (fun _ _ => trivial) ?aO ?aB ?aS ?aL ?_; (case aP => exact k30_mkM _ _ _ (⟨(pos : Int), (K : Int), (R : Int), false, 0⟩ : S30)); (case aO => exact Kd.R_alloc HO1.out _); (case aB => exact HB1.out.alloc (by have := HB1.out.size; omega) _); (case aS => have := HB1.out.size; simp; omega); (case aL => omega); intro v1 w1 hown hbel hgrow _; obtain ⟨A1, c1, rfl⟩ := Kd.R_slice hown))
          have hit2 := iter_kept hit1.out hgrow (R_ne_iter HO1.out hit1.out)
          go_roundw
          case rel => exact ⟨pos + K, f, acc ++ [(⟨(pos : Int), (K : Int), (R : Int), false, 0⟩ : S30)], ⟨by rw [List.length_append] at hown; exact hown⟩, hit2, ⟨hbel⟩, ⟨by rw [← hG2.out]; exact HA2.out⟩, by omega, by simp; omega⟩
          case measure =>
            simp only [World.iterPos, hit2, hit]
            omega
      · have hnx : ∀ ty, (Instr.next (.pointer (some ⟨w.heap.size, 0, none⟩)) true ty).run Tryd.prog wr = _ := fun ty => Lib.run_next_end_at wr w.heap.size a0 pos ty hit hp
        go_wp2
        go_ret
        have HA' := HA.out
        rw [gCells_end a0 fuel pos hp, List.append_nil] at HA'
        rw [← HA']
        exact ⟨_, rfl, HO.out, HB.out⟩
  · rw [if_neg hs] at h
    cases h

end Go.Proofs.YtfcobfjjcocggaaDoor.C
