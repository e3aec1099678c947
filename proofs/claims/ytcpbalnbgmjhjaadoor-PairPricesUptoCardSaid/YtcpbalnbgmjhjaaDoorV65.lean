import Derived.Test.YtcpbalnbgmjhjaaDoorV64
import Derived.Shelf.Strings.BuilderK
import Derived.WalkKit
import Derived.BigCall
import Derived.Shelf.Unicode.DecodeAny
import Derived.Lib.RuneCount
import Derived.Lib.Small
import Derived.Lib.RuneBytes
import Derived.Lib.ValidU
import Derived.Lib.LaidTab
import Derived.Lib.Space
import Derived.Test.YtcpbalnbgmjhjaaDoorProg
import Derived.Laws.CopyOwn
import Derived.Test.YtcpbalnbgmjhjaaDoorV61
import Derived.Below
import Derived.Deep.Draws
import Derived.Deep.AppendLies
import Derived.Maps.AppendAt
import Derived.OwnWalk
import Derived.Laws.BytesArg
import Derived.Laws.MakeOwn
import Derived.Laws.OwnMore
import Derived.Deep.OwnRows
import Derived.Tactics
import Derived.Lib.ConvBytes
import Derived.Laws.Slices
import Derived.KernelRfl
import Derived.RowKit3
import Derived.Deep.LoopGhost
import Derived.Deep.QuietTactic
import Derived.BigQuiet
import Derived.WideLaws
import Derived.Deep.DeepCutAuto
import Derived.Deep.CutBlock
import Derived.Deep.RegionHeld3
import Derived.Laws.Rows
import Derived.Lib.AppendStr
import Derived.ArgAppend
import Derived.Laws.IdiomCopy
import Derived.OrdersHeld
import Derived.Laws.BitsLemmas
import Derived.RowKit
import Derived.StillTailTactics
import Derived.Test.YtcpbalnbgmjhjaaDoorV62
import Derived.Test.YtcpbalnbgmjhjaaDoorV63
/-
  strings.Builder's copyCheck, WriteByte and WriteString of this seat's own translation, in the forms of the shelf's BuilderK: a builder stays one, what lay below stays, blocks that are no rows of bytes stay.
-/
namespace Go.Proofs
open Go.RowKit Go.Proofs.YtcpbalnbgmjhjaaDoor.Mi
theorem Tryd.infoByteB : (Tryd.prog.info? 5).map (fun i => (i.zero, i.size, i.bytes)) = some (some (.int .u8 0), 1, 1) := by kernel_rfl
theorem Tryd.sizeBuilderB : (Tryd.prog.info? 85).map (·.size) = some 2 := by kernel_rfl
theorem Tryd.liesBuilderB : liesAt Tryd.prog Tryd.prog.depth 85 (2 / Tryd.prog.cellsOf 85) 0 85 1 = true := by kernel_rfl
set_option maxHeartbeats 1000000 in
set_option maxRecDepth 100000 in
theorem Tryd.copyCheck_fresh (b : Nat) (w : World) (h0 : w.cell? ⟨b, 0, none⟩ = some (.pointer none)) (hsh : w.shape? b = some (85, 2)) (hfz : w.frozen? ⟨b, 0, none⟩ = false) :
    Calls Tryd.prog 63 #[.pointer (some ⟨b, 0, none⟩)] w fun e w' => e = .returned (.tuple #[]) ∧ w' = w.setCell ⟨b, 0, none⟩ (.pointer (some ⟨b, 0, none⟩)) := by
  obtain ⟨j, hj, hjs⟩ := Option.map_eq_some_iff.1 Tryd.sizeBuilderB; go_enter Tryd.func63, Tryd.ntmps63; go_wp2; rw [Lib.run_to_unsafe w ⟨b, 0, none⟩ Tryd.underlying82 Tryd.underlying131 hj (by rw [hjs]; decide) hsh (Nat.zero_lt_succ 1)]; simp only [Result.andThen]; rw [Oper.upon_value]; go_wp2; rw [run_callFunc_extern Tryd.func80 (by kernel_rfl) (by kernel_rfl) (by kernel_rfl) (e := Extern.AbiNoEscape.same) (by kernel_rfl)]; rw [Lib.run_noEscape]; simp only [Result.andThen]; rw [Oper.upon_value]; go_wp2; rw [Lib.run_from_unsafe w ⟨b, 0, none⟩ Tryd.underlying131 Tryd.underlying82 hj hsh Tryd.liesBuilderB]; simp only [Result.andThen]; rw [Oper.upon_value]; go_wp2
  go_end0
  exact ⟨rfl, rfl⟩
set_option maxHeartbeats 1000000 in
set_option maxRecDepth 100000 in
theorem Tryd.copyCheck_used (b : Nat) (w : World) (h0 : w.cell? ⟨b, 0, none⟩ = some (.pointer (some ⟨b, 0, none⟩))) :
    Calls Tryd.prog 63 #[.pointer (some ⟨b, 0, none⟩)] w fun e w' => e = .returned (.tuple #[]) ∧ w' = w := by
  obtain ⟨j, hj, hjs⟩ := Option.map_eq_some_iff.1 Tryd.sizeBuilderB; have hne := Lib.run_neq_ptr_same w ⟨b, 0, none⟩ Tryd.underlying82 hj; go_enter Tryd.func63, Tryd.ntmps63; go_wp2
  go_end0
  exact ⟨rfl, rfl⟩
theorem Tryd.copyCheck_k (B b : Nat) (bs : List Value) (w : World) (h : Lib.IsBuilderF 85 5 B b bs w) :
    Calls Tryd.prog 63 #[.pointer (some ⟨b, 0, none⟩)] w fun e w' => e = .returned (.tuple #[]) ∧ (Lib.BuilderAtF 85 5 B b (.pointer (some ⟨b, 0, none⟩)) bs w' ∧ Below B w w' ∧ Lib.OthersKept 5 (some b) w w') := by
  rcases h with h | h
  · refine (Tryd.copyCheck_fresh b w h.cell0 h.shape h.frozen0).mono ?_
    rintro e w' ⟨rfl, rfl⟩; exact ⟨rfl, h.used _, (Below.refl B w).setCell (p := ⟨b, 0, none⟩) h.1 _, (Lib.OthersKept.refl _ _ w).setCell ⟨b, 0, none⟩ rfl _⟩
  · refine (Tryd.copyCheck_used b w h.cell0).mono ?_
    rintro e w' ⟨rfl, rfl⟩; exact ⟨rfl, h, Below.refl B _, Lib.OthersKept.refl _ _ _⟩
set_option maxHeartbeats 2000000 in
set_option maxRecDepth 100000 in
theorem Tryd.writeByte_k (B b : Nat) (bs : List Value) (c : Int) (w : World) (h : Lib.IsBuilderF 85 5 B b bs w) (hlen : bs.length + 1 ≤ 140737488355328) (hBw : B ≤ w.heap.size) :
    Calls Tryd.prog 46 #[.pointer (some ⟨b, 0, none⟩), .int .u8 c] w fun e w' => e = .returned .nilIface ∧ (Lib.BuilderAtF 85 5 B b (.pointer (some ⟨b, 0, none⟩)) (bs ++ [.int .u8 c]) w' ∧ Below B w w' ∧ Lib.OthersKept 5 (some b) w w') := by
  obtain ⟨i0, hi, hz0, hz1, hz2⟩ := info_parts Tryd.infoByteB; go_enter Tryd.func46, Tryd.ntmps46; go_wp2_with (go_at_call 63; refine (Tryd.copyCheck_k B b bs _ h).mono ?_); rintro e w1 ⟨rfl, h1, hb1, hk1⟩; obtain ⟨hB, v, hbk, hown, hne⟩ := h1; have c0 : w1.cell? ⟨b, 0, none⟩ = some (.pointer (some ⟨b, 0, none⟩)) := by rw [Lib.cell_of_heap hbk]; rfl
  have c1 : w1.cell? ⟨b, 1, none⟩ = some v := by rw [Lib.cell_of_heap hbk]; rfl
  go_wp2_with (at_builtin; refine wpList_append_ownF _ rfl _ _ 83 rfl B 5 i0 (.int .u8 0) 1 1 Tryd.underlying83 hi hz0 hz1 hz2 rfl (by decide) _ _ _ rfl (hown.alloc _) ⟨w1.heap.size, 0, none⟩ 1 1 [.int .u8 c] rfl rfl ?c1 ?c2 ?c3 ?c4 ?c5 ?_)
  case c1 =>
    intro j u hj
    match j, hj with
    | 0, hj => simp at hj; subst hj; simp [Addr.add]
  case c2 => intro u hu; simp at hu; subst hu; rfl
  case c3 => unfold maxLen; omega
  case c4 => omega
  case c5 => have := hb1.size; simp; omega
  intro v' w2 hown' hgrow _
  have hlt : b < w1.heap.size := by
    rcases Nat.lt_or_ge b w1.heap.size with h' | h'
    · exact h'
    · simp [Array.getElem?_eq_none h'] at hbk
  have hb2 : w2.heap[b]? = some (.cells #[.pointer (some ⟨b, 0, none⟩), v] 85 (0, 0)) := by
    rw [hgrow.block b (by simp; omega) (fun e => hne e.symm), Lib.alloc_old w1 _ b hlt]; exact hbk
  have d0 : w2.cell? ⟨b, 0, none⟩ = some (.pointer (some ⟨b, 0, none⟩)) := by rw [Lib.cell_of_heap hb2]; rfl
  have d1 : w2.cell? ⟨b, 1, none⟩ = some v := by rw [Lib.cell_of_heap hb2]; rfl
  have f1 : w2.frozen? ⟨b, 1, none⟩ = false := Lib.frozen_of_heap hb2 1
  obtain ⟨g, cap, rfl⟩ : ∃ g cap, v' = .slice (some ⟨g, 0, none⟩) (bs.length + 1) cap := by
    rcases hown'.2 with ⟨_, h0⟩ | ⟨g, cap, cur, fz, hv, _⟩
    · omega
    · exact ⟨g, cap, hv⟩
  go_wp2; go_ret; refine ⟨rfl, ?_, ?_, ((hk1.alloc _).grown hgrow (Lib.ownsRowF_kind (hown.alloc _))).setCell ⟨b, 1, none⟩ rfl _⟩
  · exact Lib.BuilderAtF.put (T := 85) (e := 5) hB hb2 (bs' := bs ++ [.int .u8 c]) (by simpa using hown') (by decide)
  · exact ((hb1.alloc (by have := hb1.size; omega) _).grown hgrow (by have := hb1.size; simp; omega) (fun k hk => (hown.lt k hk).1)).setCell (p := ⟨b, 1, none⟩) hB _
set_option maxHeartbeats 2000000 in
set_option maxRecDepth 100000 in
theorem Tryd.writeString_k (B b : Nat) (bs : List Value) (s : ByteArray) (w : World) (h : Lib.IsBuilderF 85 5 B b bs w) (hlen : bs.length + s.size ≤ 140737488355328) (hBw : B ≤ w.heap.size) :
    Calls Tryd.prog 66 #[.pointer (some ⟨b, 0, none⟩), .string s] w fun e w' => e = .returned (.tuple #[.int .i64 s.size, .nilIface]) ∧ (Lib.BuilderAtF 85 5 B b (.pointer (some ⟨b, 0, none⟩)) (bs ++ Lib.strCells s) w' ∧ Below B w w' ∧ Lib.OthersKept 5 (some b) w w') := by
  obtain ⟨i0, hi, hz0, hz1, hz2⟩ := info_parts Tryd.infoByteB; go_enter Tryd.func66, Tryd.ntmps66; go_wp2_with (go_at_call 63; refine (Tryd.copyCheck_k B b bs _ h).mono ?_); rintro e w1 ⟨rfl, h1, hb1, hk1⟩; obtain ⟨hB, v, hbk, hown, hne⟩ := h1; have c0 : w1.cell? ⟨b, 0, none⟩ = some (.pointer (some ⟨b, 0, none⟩)) := by rw [Lib.cell_of_heap hbk]; rfl
  have c1 : w1.cell? ⟨b, 1, none⟩ = some v := by rw [Lib.cell_of_heap hbk]; rfl
  go_wp2_with (at_builtin; refine Lib.wpList_append_own_stringF _ rfl _ _ 83 9 rfl B 5 i0 Tryd.underlying83 Tryd.underlying9 hi hz0 hz1 hz2 _ _ _ rfl hown s rfl ?c3 ?c4 ?c5 ?_)
  case c3 => unfold maxLen; omega
  case c4 => omega
  case c5 => have := hb1.size; omega
  intro v' w2 hown' hgrow _
  have hlt : b < w1.heap.size := by
    rcases Nat.lt_or_ge b w1.heap.size with h' | h'
    · exact h'
    · simp [Array.getElem?_eq_none h'] at hbk
  have hb2 : w2.heap[b]? = some (.cells #[.pointer (some ⟨b, 0, none⟩), v] 85 (0, 0)) := by
    rw [hgrow.block b hlt (fun e => hne e.symm)]; exact hbk
  have d0 : w2.cell? ⟨b, 0, none⟩ = some (.pointer (some ⟨b, 0, none⟩)) := by rw [Lib.cell_of_heap hb2]; rfl
  have d1 : w2.cell? ⟨b, 1, none⟩ = some v := by rw [Lib.cell_of_heap hb2]; rfl
  have f1 : w2.frozen? ⟨b, 1, none⟩ = false := Lib.frozen_of_heap hb2 1
  obtain ⟨ao, n', cap, rfl⟩ : ∃ ao n' cap, v' = .slice ao n' cap := by
    rcases hown'.2 with ⟨hv, _⟩ | ⟨g, cap, cur, fz, hv, _⟩
    · exact ⟨_, _, _, hv⟩
    · exact ⟨_, _, _, hv⟩
  go_wp2; go_ret2; refine ⟨rfl, ?_, ?_, (hk1.grown hgrow (Lib.ownsRowF_kind hown)).setCell ⟨b, 1, none⟩ rfl _⟩
  · exact Lib.BuilderAtF.put (T := 85) (e := 5) hB hb2 (bs' := bs ++ Lib.strCells s) (by simpa [Lib.strCells_length] using hown') (by decide)
  · exact (hb1.grown hgrow (by have := hb1.size; omega) (fun k hk => (hown.lt k hk).1)).setCell (p := ⟨b, 1, none⟩) hB _
end Go.Proofs
/-
  Plain facts on the model's Utf8.decode (no program in them): widths, shifts, rune lengths, and that utf8's two tables stand behind a call that changes nothing below.
-/
namespace Go.Proofs.YtcpbalnbgmjhjaaDoor.Utf
open Go.RowKit
theorem tabs_step {g0 g1 : Nat} {w W : World} (h : Lib.Utf8Tabs g0 g1 w) (hb : Below w.heap.size w W) : Lib.Utf8Tabs g0 g1 W :=
  ⟨fun c hc => (hb.cell (World.block_lt_of_cell? w _ (h.1 c hc))).trans (h.1 c hc), fun i hi =>
    ⟨(hb.cell (World.block_lt_of_cell? w _ (h.2 i hi).1)).trans (h.2 i hi).1, (hb.cell (World.block_lt_of_cell? w _ (h.2 i hi).2)).trans (h.2 i hi).2⟩⟩
def Tabs2 (w : World) : Prop := Lib.Utf8Tabs 0 1 w ∧ Lib.TabIs Tryd.prog w "strings.asciiSpace" .u8 Lib.asciiSpaceTab
theorem tabs_step2 {w W : World} (h : Tabs2 w) (hb : Below w.heap.size w W) : Tabs2 W := by
  refine ⟨tabs_step h.1 hb, ?_⟩; have h2 := h.2; unfold Lib.TabIs World.var? at h2 ⊢; obtain ⟨g, hg, h3⟩ := Option.bind_eq_some_iff.1 h2; rw [hg]
  have e : W.heap[g]? = w.heap[g]? := by
    rcases Nat.lt_or_ge g w.heap.size with hlt | hge
    · exact hb.block g hlt
    · rw [Array.getElem?_eq_none hge] at h3; cases h3
  show (match W.heap[g]? with | some (.cells cs _ _) => some cs | _ => none) = _
  rw [e]; exact h3
theorem get_ge (s : ByteArray) (k : Nat) (h : s.size ≤ k) : s.get! k = 0 := by
  cases s with
  | mk d => exact getElem!_neg d k (by have : d.size ≤ k := h; omega)
theorem get_lt (s : ByteArray) (k : Nat) (h : k < s.size) : s.get! k = s[k]'h := Utf8W.get!_of_lt s k h
theorem byte_lt (s : ByteArray) (k : Nat) : (s.get! k).toNat < 256 := (s.get! k).toNat_lt
theorem get_extract (s : ByteArray) (i j k : Nat) (hj : j ≤ s.size) (hk : i + k < j) : (s.extract i j).get! k = s.get! (i + k) := by
  rw [get_lt _ _ (by rw [ByteArray.size_extract]; omega), get_lt _ _ (by omega)]
  simp [ByteArray.getElem_extract]
theorem get_tail (s : ByteArray) (i k : Nat) : (s.extract i s.size).get! k = s.get! (i + k) := by
  by_cases h : i + k < s.size
  · exact get_extract s i s.size k (Nat.le_refl _) h
  · rw [get_ge _ _ (by rw [ByteArray.size_extract]; omega), get_ge _ _ (by omega)]
theorem decode_tail (s : ByteArray) (i j : Nat) : Utf8.decode (s.extract i s.size) j = Utf8.decode s (i + j) := by
  rw [Lib.decode_at, Lib.decode_at, get_tail s i j, get_tail s i (j + 1), get_tail s i (j + 2), get_tail s i (j + 3)]; have : (s.extract i s.size).size - j = s.size - (i + j) := by rw [ByteArray.size_extract]; omega
  rw [this]; rfl
theorem width_cases (s : ByteArray) (i : Nat) (h : i < s.size) :
    ((Utf8.decode s i).2 = 1 ∨ (Utf8.decode s i).2 = 2 ∨ (Utf8.decode s i).2 = 3 ∨ (Utf8.decode s i).2 = 4) ∧ i + (Utf8.decode s i).2 ≤ s.size := by
  rw [Lib.decode_at]; unfold Lib.decodeN
  repeat' split
  all_goals (dsimp only; omega)
theorem width_pos (s : ByteArray) (i : Nat) (h : i < s.size) : 1 ≤ (Utf8.decode s i).2 := by have := width_cases s i h; omega
theorem width_le (s : ByteArray) (i : Nat) (h : i < s.size) : i + (Utf8.decode s i).2 ≤ s.size := (width_cases s i h).2
theorem rune_le (s : ByteArray) (i : Nat) : (Utf8.decode s i).1 ≤ 1114111 := by
  rw [Lib.decode_at]; have := byte_lt s i; unfold Lib.decodeN
  repeat' split
  all_goals (dsimp only; omega)
def bad (s : ByteArray) (i : Nat) : Bool := decide ((Utf8.decode s i).1 = 65533) && decide ((Utf8.decode s i).2 = 1)
theorem bad_iff (s : ByteArray) (i : Nat) : bad s i = true ↔ (Utf8.decode s i).1 = 65533 ∧ (Utf8.decode s i).2 = 1 := by simp [bad]
theorem decode_spec (s : ByteArray) (i : Nat) : ∃ r k, Utf8.decode s i = (r, k) ∧
    ((k = 1 ∧ (r < 128 ∨ r = 65533)) ∨ (k = 2 ∧ 128 ≤ r ∧ r < 2048) ∨ (k = 3 ∧ 2048 ≤ r ∧ r ≤ 65535 ∧ (r < 55296 ∨ 57344 ≤ r)) ∨ (k = 4 ∧ 65536 ≤ r ∧ r ≤ 1114111)) := by
  have b0 := byte_lt s i; rw [Lib.decode_at]; unfold Lib.decodeN
  repeat' split
  all_goals exact ⟨_, _, rfl, by omega⟩
theorem runeLen_good (s : ByteArray) (i : Nat) (h : bad s i = false) : Lib.runeLen ((Utf8.decode s i).1 : Int) = ((Utf8.decode s i).2 : Int) := by
  have hb : ¬ ((Utf8.decode s i).1 = 65533 ∧ (Utf8.decode s i).2 = 1) := fun e => by rw [(bad_iff s i).2 e] at h; cases h
  obtain ⟨r, k, e, hk⟩ := decode_spec s i; rw [e] at hb ⊢; dsimp only at hb ⊢; unfold Lib.runeLen
  repeat' split
  all_goals omega
theorem decodeGo_tail (s : ByteArray) (i : Nat) (h : i < s.size) : Lib.decodeGo (s.extract i s.size) = Utf8.decode s i := by
  have hz : (s.extract i s.size).size ≠ 0 := by rw [ByteArray.size_extract]; omega
  unfold Lib.decodeGo; rw [if_neg hz, decode_tail s i 0, Nat.add_zero]
end Go.Proofs.YtcpbalnbgmjhjaaDoor.Utf
/-
  The builtin copy of a whole row of numbers over another of the same length: the row reads as the one that was copied.
-/
namespace Go.Proofs.YtcpbalnbgmjhjaaDoor.Cp
open Go Go.RowKit Go.Proofs.YtcpbalnbgmjhjaaDoorW.PrintWords
set_option linter.unusedVariables false
theorem own_setRow {w : World} {base e g n cap : Nat} {xs ys : List Value} (h : w.ownsRow base e 1 (.slice (some ⟨g, 0, none⟩) n cap) n xs) (hl : ys.length = n) :
    ∃ cur : Array Value, w.heap[g]? = some (.cells cur e (0, 0)) ∧ n ≤ cur.size ∧
      (w.setRow g (cur.toList.take 0 ++ (ys ++ cur.toList.drop (0 + ys.length))).toArray).ownsRow base e 1 (.slice (some ⟨g, 0, none⟩) n cap) n ys ∧
      w.grownBy (w.setRow g (cur.toList.take 0 ++ (ys ++ cur.toList.drop (0 + ys.length))).toArray) (some g) := by
  rcases h.2 with ⟨h', _⟩ | ⟨g', cap', cur, h', hb, hg, hnc, hcm, hcs, htake⟩
  · simp at h'
  · simp only [Value.slice.injEq, Option.some.injEq, Addr.mk.injEq, and_true, true_and] at h'
    obtain ⟨rfl, rfl⟩ := h'; refine ⟨cur, hg, by omega, ⟨by simpa using hl, .inr ⟨g, cap, _, rfl, hb, setRow_heap w g _ _ e _ hg, hnc, hcm, by simp; omega, ?_⟩⟩, ⟨rfl, rfl, rfl, by simp [World.setRow], fun k _ hk => setRow_other w g k _ (fun e => hk (by simp [e]))⟩⟩
    simp [hl]
theorem R_headAt {α : Type} {d : Kd α} {e base g n c : Nat} {w : World} {ok : Nat → Prop} {xs : List α} (h : d.R e w base ok (.slice (some ⟨g, 0, none⟩) n c) xs) : ∃ cl, w.heap[g]? = some (.cells cl e (0, 0)) := by
  obtain ⟨inner, ho⟩ := Kd.R_own h; exact own_typed ho g rfl
theorem copy_all {P : Program} {W : World} {ops : Array Oper} {rest : List Oper} {o : Oper} {a : Act} {Q : Exit → Act → World → Prop} {k : IntKind} {base g n m cap sCap : Nat} {e : TypeId} {ok : Nat → Prop} {xs ys : List Int} {A : Option Addr} {w0 : World} {L : Int}
    (hgd : o.guard = none) (d s : Operand) (dT sT : TypeId) (ho : o.op = .call { callee := .builtin .copy, args := #[d, s], argTypes := #[dT, sT] }) (hu : P.underlying dT = some (.slice e)) (hsz : (P.info? e).map (·.size) = some 1)
    (hd : a.eval d = .slice (some ⟨g, 0, none⟩) n cap) (hs : a.eval s = .slice A m sCap)
    (hR : (Kd.int k).R e W base ok (.slice (some ⟨g, 0, none⟩) n cap) xs) (hC : (Kd.int k).C W A m ys) (hn : 0 < n) (hmn : m = n) (hL : L = (n : Int)) (HB : Below base w0 W) (hbase : base ≤ g)
    (h : ∀ W', (Kd.int k).R e W' base ok (.slice (some ⟨g, 0, none⟩) n cap) ys → Below base w0 W' → W.grownBy W' (some g) → wpList P ops Q rest (a.put o.dst (.int .i64 L)) W') : wpList P ops Q (o :: rest) a W := by
  subst hmn hL; have hr : ReadsInt W k A m ys := Kd.reads_of_C (enc := Value.int k) (d := (0 : Int)) (h1 := fun _ => rfl) hC; have hl : ys.length = m := hr.1; have hxl : xs.length = m := (Kd.R_reads' hR).1.symm; obtain ⟨ad, rfl, hcell⟩ := hr.2.2 hn
  have hown : W.ownsRow base e 1 (.slice (some ⟨g, 0, none⟩) m cap) m (encs (Value.int k) xs) := by
    have := Kd.own_of_R (enc := Value.int k) (h1 := fun _ => rfl) hR
    rwa [hxl] at this
  obtain ⟨cur, hg, hnc, ho2, hgr⟩ := own_setRow (ys := ys.map (Value.int k)) hown (by rw [List.length_map, hl])
  have hR2 : (Kd.int k).R e (W.setRow g (cur.toList.take 0 ++ (ys.map (Value.int k) ++ cur.toList.drop (0 + (ys.map (Value.int k)).length))).toArray) base ok (.slice (some ⟨g, 0, none⟩) m cap) ys :=
    Kd.R_of_own (enc := Value.int k) (h1 := fun _ => rfl) (by rw [hl]; exact ho2) hR.1
  have hfin := h _ hR2 (HB.grown hgr (by have := (Array.getElem?_eq_some_iff.1 hg).1; omega) (fun k hk => by cases hk; exact hbase)) hgr; refine wpList_copy_own hgd d s dT sT ho e hu hsz g 0 m cap ad m sCap hd hs cur e hg (ys.map (Value.int k)) (by rw [List.length_map, hl]; exact (Nat.min_self m).symm) ?_ (by rw [List.length_map, hl]; omega) (fun v hv => ?_) ?_
  · intro j v hj
    rw [List.getElem?_map] at hj
    have hjl : j < ys.length := by
      rcases Nat.lt_or_ge j ys.length with h' | h'
      · exact h'
      · rw [List.getElem?_eq_none h'] at hj; cases hj
    rw [hcell j (by omega)]; rw [List.getElem?_eq_getElem hjl] at hj
    simp at hj
    subst hj
    simp [List.getD_eq_getElem?_getD, List.getElem?_eq_getElem hjl]
  · obtain ⟨x, _, rfl⟩ := List.mem_map.1 hv
    rfl
  · rw [List.length_map, hl]
    rw [List.length_map, hl] at hfin; exact hfin
theorem ne_typed {w : World} {g h : Nat} {c1 c2 : Array Value} {t1 t2 : TypeId} {f1 f2 : Nat × Nat} (h1 : w.heap[g]? = some (.cells c1 t1 f1)) (h2 : w.heap[h]? = some (.cells c2 t2 f2)) (ht : t1 ≠ t2) : g ≠ h := by
  rintro rfl; rw [h1] at h2
  cases h2
  exact ht rfl
theorem wp_scope_body {P : Program} {fn : Func} {R : Ending → World → Prop} {c : Code} {a : Act} {w : World} (h : c.wp P (bodyPost P fn R) a w) : (Code.scope c).wp P (bodyPost P fn R) a w := by
  refine wp_scope_straight ?_
  rwa [show Exit.noGoto (bodyPost P fn R) = bodyPost P fn R from by funext e a w; cases e <;> rfl]
end Go.Proofs.YtcpbalnbgmjhjaaDoor.Cp
namespace Go.Proofs.YtcpbalnbgmjhjaaDoor.Q
open Go.RowKit Go.Proofs.YtcpbalnbgmjhjaaDoorW.PrintWords Go.Proofs.YtcpbalnbgmjhjaaDoorW.PrintLast Go.Proofs.YtcpbalnbgmjhjaaDoorW.PrintMore
attribute [local go_sem] min2_int min_two min_three
set_option linter.unusedVariables false
set_option linter.unusedSimpArgs false
def errW : Option Int → Value
  | none => .nilIface
  | some c => .iface 0 (.int .i64 c)
theorem errW_none : errW none = .nilIface := rfl
theorem errW_some (c : Int) : errW (some c) = .iface 0 (.int .i64 c) := rfl
theorem info3 : (Tryd.prog.info? 3).map (fun i => (i.zero, i.size, i.bytes)) = some (some (.int .i64 0), 1, 8) := by kernel_rfl
theorem info5 : (Tryd.prog.info? 5).map (fun i => (i.zero, i.size, i.bytes)) = some (some (.int .u8 0), 1, 1) := by kernel_rfl
theorem info9 : (Tryd.prog.info? 9).map (fun i => (i.zero, i.size, i.bytes)) = some (some (.string ⟨#[]⟩), 1, 16) := by kernel_rfl
theorem info21 : (Tryd.prog.info? 21).map (fun i => (i.zero, i.size, i.bytes)) = some (some (.int .i32 0), 1, 4) := by kernel_rfl
theorem info45 : (Tryd.prog.info? 45).map (fun i => (i.zero, i.size, i.bytes)) = some (some (.slice none 0 0), 1, 24) := by kernel_rfl
theorem info61 : (Tryd.prog.info? 61).map (fun i => (i.zero, i.size, i.bytes)) = some (some (.agg #[(.int .i64 0), (.int .i64 0)]), 2, 16) := by kernel_rfl
theorem info73 : (Tryd.prog.info? 73).map (fun i => (i.zero, i.size, i.bytes)) = some (some (.agg #[(.string ⟨#[]⟩), (.string ⟨#[]⟩)]), 2, 32) := by kernel_rfl
theorem info83 : (Tryd.prog.info? 83).map (fun i => (i.zero, i.size, i.bytes)) = some (some (.slice none 0 0), 1, 24) := by kernel_rfl
theorem info91 : (Tryd.prog.info? 91).map (fun i => (i.zero, i.size, i.bytes)) = some (some (.agg #[(.int .i64 0), (.int .i64 0), (.int .i32 0), (.bool false), (.int .u8 0)]), 5, 24) := by kernel_rfl
-- the values' own types
structure S91 where
  f0 : Int
  f1 : Int
  f2 : Int
  f3 : Bool
  f4 : Int
def z91 : S91 := ⟨(0 : Int), (0 : Int), (0 : Int), false, (0 : Int)⟩
def k91 : Kd S91 := Kd.iso (Kd.pair (Kd.int .i64) (Kd.pair (Kd.int .i64) (Kd.pair (Kd.int .i32) (Kd.pair Kd.bool (Kd.int .u8))))) (fun x : S91 => (x.f0, x.f1, x.f2, x.f3, x.f4))
theorem k91_open {w : World} {x : S91} {cs : List Value} (h : k91.K w x cs) : cs = [.int .i64 x.f0, .int .i64 x.f1, .int .i32 x.f2, .bool x.f3, .int .u8 x.f4] := by
  obtain ⟨_, _, rfl, rfl, ⟨_, _, rfl, rfl, ⟨_, _, rfl, rfl, ⟨_, _, rfl, rfl, rfl⟩⟩⟩⟩ := h; exact rfl
theorem k91_mkM (w : World) (base : Nat) (ok : Nat → Prop) (x : S91)  : k91.M w base ok x [.int .i64 x.f0, .int .i64 x.f1, .int .i32 x.f2, .bool x.f3, .int .u8 x.f4] := ⟨[.int .i64 x.f0], [.int .i64 x.f1, .int .i32 x.f2, .bool x.f3, .int .u8 x.f4], rfl, rfl, ⟨[.int .i64 x.f1], [.int .i32 x.f2, .bool x.f3, .int .u8 x.f4], rfl, rfl, ⟨[.int .i32 x.f2], [.bool x.f3, .int .u8 x.f4], rfl, rfl, ⟨[.bool x.f3], [.int .u8 x.f4], rfl, rfl, rfl⟩⟩⟩⟩
def rd_T91 (xs : List S91) (i : Int) : S91 := xs.getD i.toNat z91
theorem at_T91 {w : World} {A : Option Addr} {n : Nat} {xs : List S91} (h : Kd.C k91 w A n xs) (i : Int) (h0 : 0 ≤ i) (h1 : i < n) : ∃ ad , A = some ad ∧ w.cell? (ad.add (i.toNat * 5)) = some (.int .i64 (rd_T91 xs i).f0) ∧ w.cell? ⟨(ad.add (i.toNat * 5)).block, (ad.add (i.toNat * 5)).off + 1, none⟩ = some (.int .i64 (rd_T91 xs i).f1) ∧ w.cell? ⟨(ad.add (i.toNat * 5)).block, (ad.add (i.toNat * 5)).off + 2, none⟩ = some (.int .i32 (rd_T91 xs i).f2) ∧ w.cell? ⟨(ad.add (i.toNat * 5)).block, (ad.add (i.toNat * 5)).off + 3, none⟩ = some (.bool (rd_T91 xs i).f3) ∧ w.cell? ⟨(ad.add (i.toNat * 5)).block, (ad.add (i.toNat * 5)).off + 4, none⟩ = some (.int .u8 (rd_T91 xs i).f4) := by
  obtain ⟨ad, c, e, _, hK, hc0⟩ := Kd.C_get h z91 i h0 h1; have hc : ∀ j u, c[j]? = some u → w.cell? (ad.add (i.toNat * 5 + j)) = some u := hc0
  obtain rfl := k91_open hK; exact ⟨ad, e, hc 0 _ rfl, by rw [← add_field _ _ 1 (by omega)]; exact hc 1 _ rfl, by rw [← add_field _ _ 2 (by omega)]; exact hc 2 _ rfl, by rw [← add_field _ _ 3 (by omega)]; exact hc 3 _ rfl, by rw [← add_field _ _ 4 (by omega)]; exact hc 4 _ rfl⟩
structure S157 where
  f0 : Int
  f1 : Int
  f2 : Int
def z157 : S157 := ⟨(0 : Int), (0 : Int), (0 : Int)⟩
def k157 : Kd S157 := Kd.iso (Kd.pair (Kd.int .u16) (Kd.pair (Kd.int .u16) (Kd.int .u16))) (fun x : S157 => (x.f0, x.f1, x.f2))
def rd_T157 (xs : List S157) (i : Int) : S157 := xs.getD i.toNat z157
structure S160 where
  f0 : Int
  f1 : Int
  f2 : Int
def z160 : S160 := ⟨(0 : Int), (0 : Int), (0 : Int)⟩
def k160 : Kd S160 := Kd.iso (Kd.pair (Kd.int .u32) (Kd.pair (Kd.int .u32) (Kd.int .u32))) (fun x : S160 => (x.f0, x.f1, x.f2))
def rd_T160 (xs : List S160) (i : Int) : S160 := xs.getD i.toNat z160
structure S73 where
  f0 : ByteArray
  f1 : ByteArray
def z73 : S73 := ⟨(⟨#[]⟩ : ByteArray), (⟨#[]⟩ : ByteArray)⟩
def k73 : Kd S73 := Kd.iso (Kd.pair Kd.string Kd.string) (fun x : S73 => (x.f0, x.f1))
theorem k73_open {w : World} {x : S73} {cs : List Value} (h : k73.K w x cs) : cs = [.string x.f0, .string x.f1] := by
  obtain ⟨_, _, rfl, rfl, rfl⟩ := h; exact rfl
theorem k73_mkM (w : World) (base : Nat) (ok : Nat → Prop) (x : S73)  : k73.M w base ok x [.string x.f0, .string x.f1] := ⟨[.string x.f0], [.string x.f1], rfl, rfl, rfl⟩
def rd_T73 (xs : List S73) (i : Int) : S73 := xs.getD i.toNat z73
theorem at_T73 {w : World} {A : Option Addr} {n : Nat} {xs : List S73} (h : Kd.C k73 w A n xs) (i : Int) (h0 : 0 ≤ i) (h1 : i < n) : ∃ ad , A = some ad ∧ w.cell? (ad.add (i.toNat * 2)) = some (.string (rd_T73 xs i).f0) ∧ w.cell? ⟨(ad.add (i.toNat * 2)).block, (ad.add (i.toNat * 2)).off + 1, none⟩ = some (.string (rd_T73 xs i).f1) := by
  obtain ⟨ad, c, e, _, hK, hc0⟩ := Kd.C_get h z73 i h0 h1; have hc : ∀ j u, c[j]? = some u → w.cell? (ad.add (i.toNat * 2 + j)) = some u := hc0
  obtain rfl := k73_open hK; exact ⟨ad, e, hc 0 _ rfl, by rw [← add_field _ _ 1 (by omega)]; exact hc 1 _ rfl⟩
def rd_L11 (xs : List (List Int)) (i : Int) : (List Int) := xs.getD i.toNat ([] : List Int)
theorem at_L11 {w : World} {A : Option Addr} {n : Nat} {xs : List (List Int)} (h : Kd.C (Kd.slice 3 (Kd.int .i64)) w A n xs) (i : Int) (h0 : 0 ≤ i) (h1 : i < n) : ∃ ad A0 c0, A = some ad ∧ w.cell? (ad.add i.toNat) = some (.slice A0 (rd_L11 xs i).length c0) ∧ (rd_L11 xs i).length ≤ c0 ∧ (Kd.int .i64).C w A0 (rd_L11 xs i).length (rd_L11 xs i) := by
  obtain ⟨ad, c, e, _, hK, hc0⟩ := Kd.C_get h ([] : List Int) i h0 h1; have hc : ∀ j u, c[j]? = some u → w.cell? (ad.add (i.toNat * 1 + j)) = some u := hc0
  obtain ⟨A0, c0, rfl, l0, g0⟩ := hK; exact ⟨ad, A0, c0, e, by have hq := hc 0 _ rfl; rwa [Nat.mul_one, Nat.add_zero] at hq, l0, g0⟩
def rd_L12 (xs : List (List Int)) (i : Int) : (List Int) := xs.getD i.toNat ([] : List Int)
theorem at_L12 {w : World} {A : Option Addr} {n : Nat} {xs : List (List Int)} (h : Kd.C (Kd.slice 5 (Kd.int .u8)) w A n xs) (i : Int) (h0 : 0 ≤ i) (h1 : i < n) : ∃ ad A0 c0, A = some ad ∧ w.cell? (ad.add i.toNat) = some (.slice A0 (rd_L12 xs i).length c0) ∧ (rd_L12 xs i).length ≤ c0 ∧ (Kd.int .u8).C w A0 (rd_L12 xs i).length (rd_L12 xs i) := by
  obtain ⟨ad, c, e, _, hK, hc0⟩ := Kd.C_get h ([] : List Int) i h0 h1; have hc : ∀ j u, c[j]? = some u → w.cell? (ad.add (i.toNat * 1 + j)) = some u := hc0
  obtain ⟨A0, c0, rfl, l0, g0⟩ := hK; exact ⟨ad, A0, c0, e, by have hq := hc 0 _ rfl; rwa [Nat.mul_one, Nat.add_zero] at hq, l0, g0⟩
structure S61 where
  f0 : Int
  f1 : Int
def z61 : S61 := ⟨(0 : Int), (0 : Int)⟩
def k61 : Kd S61 := Kd.iso (Kd.pair (Kd.int .i64) (Kd.int .i64)) (fun x : S61 => (x.f0, x.f1))
theorem k61_open {w : World} {x : S61} {cs : List Value} (h : k61.K w x cs) : cs = [.int .i64 x.f0, .int .i64 x.f1] := by
  obtain ⟨_, _, rfl, rfl, rfl⟩ := h; exact rfl
theorem k61_mk (w : World) (x : S61)  : k61.K w x [.int .i64 x.f0, .int .i64 x.f1] := ⟨[.int .i64 x.f0], [.int .i64 x.f1], rfl, rfl, rfl⟩
theorem k61_mkM (w : World) (base : Nat) (ok : Nat → Prop) (x : S61)  : k61.M w base ok x [.int .i64 x.f0, .int .i64 x.f1] := ⟨[.int .i64 x.f0], [.int .i64 x.f1], rfl, rfl, rfl⟩
def rd_T61 (xs : List S61) (i : Int) : S61 := xs.getD i.toNat z61
theorem at_T61 {w : World} {A : Option Addr} {n : Nat} {xs : List S61} (h : Kd.C k61 w A n xs) (i : Int) (h0 : 0 ≤ i) (h1 : i < n) : ∃ ad , A = some ad ∧ w.cell? (ad.add (i.toNat * 2)) = some (.int .i64 (rd_T61 xs i).f0) ∧ w.cell? ⟨(ad.add (i.toNat * 2)).block, (ad.add (i.toNat * 2)).off + 1, none⟩ = some (.int .i64 (rd_T61 xs i).f1) := by
  obtain ⟨ad, c, e, _, hK, hc0⟩ := Kd.C_get h z61 i h0 h1; have hc : ∀ j u, c[j]? = some u → w.cell? (ad.add (i.toNat * 2 + j)) = some u := hc0
  obtain rfl := k61_open hK; exact ⟨ad, e, hc 0 _ rfl, by rw [← add_field _ _ 1 (by omega)]; exact hc 1 _ rfl⟩
end Go.Proofs.YtcpbalnbgmjhjaaDoor.Q
namespace Go.Proofs.YtcpbalnbgmjhjaaDoor.Q
open Go.RowKit Go.Proofs.YtcpbalnbgmjhjaaDoor.Mi Go.Proofs.YtcpbalnbgmjhjaaDoorW.PrintWords Go.Proofs.YtcpbalnbgmjhjaaDoorW.PrintLast Go.Proofs.YtcpbalnbgmjhjaaDoorW.PrintMore
attribute [local go_sem] min2_int min_two min_three
set_option linter.unusedVariables false
set_option linter.unusedSimpArgs false
def siglumref09_Little.l0 : Nat → List Int → Int → Int → Int → Option (Bool)
 | 0, _, _, _, _ => none
 | k + 1, x0, x3, x4, x5 => if x5 < (x0.length : Int) then (if x3 > 0 then (if 0 ≤ x5 then (if x3 = 0 then (none) else (if (rd x0 x5) > (wrap64 (Int.tdiv x4 x3)) then (some false) else (siglumref09_Little.l0 k x0 (wrap64 (x3 + (rd x0 x5))) (wrap64 (x4 - (wrap64 (x3 * (rd x0 x5))))) (wrap64 (x5 + 1))))) else (none)) else (if 0 ≤ x5 then (siglumref09_Little.l0 k x0 (wrap64 (x3 + (rd x0 x5))) (wrap64 (x4 - (wrap64 (x3 * (rd x0 x5))))) (wrap64 (x5 + 1))) else (none))) else (some true)
def siglumref09_Little.f (k : Nat) (l0 : List Int) : Option (Bool) := siglumref09_Little.l0 k l0 0 4000000 0
set_option maxHeartbeats 8000000 in
set_option maxRecDepth 100000 in
theorem siglumref09_Little.calls (k : Nat) (A0 : Option Addr) (c0 : Nat) (l0 : List Int) (r : Bool) (w : World) (hr0 : Kd.C (Kd.int .i64) w A0 l0.length l0) (hc0 : l0.length ≤ c0) (h : siglumref09_Little.f k l0 = some r) :
 Calls Tryd.prog 40 #[.slice A0 l0.length c0] w fun e w' => e = .returned (.bool r) ∧ Drawn0 w w' := by
 have HR0 := Aside0.mk hr0; have HC0 := Aside0.mk hc0; clear hr0 hc0; have H := h; clear h; unfold siglumref09_Little.f at H; have H' := Aside0.mk H; clear H; go_enter Tryd.func40, Tryd.ntmps40; go_wp2
 repeat (go_quiet (fail); try go_wp2)
 go_loopg [3, 4, 5] k (fun kq v3 v4 v5 w' => ∃ (x3_1 : Int) (x4_1 : Int) (x5_1 : Int), v3 = .int .i64 x3_1 ∧ v4 = .int .i64 x4_1 ∧ v5 = .int .i64 x5_1 ∧ Aside0 (siglumref09_Little.l0 kq l0 x3_1 x4_1 x5_1 = some r) ∧ Aside0 (kq ≤ k) ∧ Drawn0 w w')
 case atStart => exact ⟨(0), (4000000), (0), si, si, si, H', ⟨Nat.le_refl _⟩, dr⟩
 case round =>
  clear H'; obtain ⟨x3_1, x4_1, x5_1, rfl, rfl, rfl, HA, HK1, ⟨m1, rfl⟩⟩ := hrel
  cases gk with
  | zero => exact absurd HA.out (by simp [siglumref09_Little.l0])
  | succ k1 =>
   have H := HA.out; clear HA; simp only [siglumref09_Little.l0] at H
   by_cases c2 : x5_1 < (l0.length : Int)
   ·rw [if_pos c2] at H; have c2b0 := decide_eq_true c2; clear c2
    by_cases c3 : x3_1 > 0
    ·rw [if_pos c3] at H; have c3b0 : decide (0 < x3_1) = true := decide_eq_true c3; clear c3; replace H := dt H; obtain ⟨c4b0, H⟩ := H
     by_cases c5 : x3_1 = 0
     ·rw [if_pos c5] at H; exact absurd H (by simp)
     ·rw [if_neg c5] at H; have c5b0 := beq_eq_false_iff_ne.mpr c5; have c5b1 := bne_iff_ne.mpr c5
      by_cases c6 : (rd l0 x5_1) > (wrap64 (Int.tdiv x4_1 x3_1))
      ·rw [if_pos c6] at H; have c6b0 : decide ((wrap64 (Int.tdiv x4_1 x3_1)) < (rd l0 x5_1)) = true := decide_eq_true c6; clear c6; obtain rfl := Option.some.inj H; have pU1 : 0 ≤ (x5_1 : Int) := oda; have qU1 : x5_1 < (l0.length : Int) := oda; obtain ⟨adU1, eU1, hxU1_0⟩ := Kd.at_int HR0.out x5_1 pU1 qU1; cases eU1; replace pU1 := eq_true pU1; replace qU1 := eq_true qU1; go_wp2
       repeat (go_quiet (fail); try go_wp2)
       go_ret; exact ⟨si, dr⟩
      ·rw [if_neg c6] at H; have c6b0 : decide ((wrap64 (Int.tdiv x4_1 x3_1)) < (rd l0 x5_1)) = false := decide_eq_false c6; clear c6; have H' := Aside0.mk H; clear H; have pU1 : 0 ≤ (x5_1 : Int) := oda; have qU1 : x5_1 < (l0.length : Int) := oda; obtain ⟨adU1, eU1, hxU1_0⟩ := Kd.at_int HR0.out x5_1 pU1 qU1; cases eU1; replace pU1 := eq_true pU1; replace qU1 := eq_true qU1; have pU2 : 0 ≤ (x5_1 : Int) := oda; have qU2 : x5_1 < (l0.length : Int) := oda; obtain ⟨adU2, eU2, hxU2_0⟩ := Kd.at_int HR0.out x5_1 pU2 qU2; obtain rfl : adU1 = adU2 := (by injection eU2); replace pU2 := eq_true pU2; replace qU2 := eq_true qU2; have pU3 : 0 ≤ (x5_1 : Int) := oda; have qU3 : x5_1 < (l0.length : Int) := oda; obtain ⟨adU3, eU3, hxU3_0⟩ := Kd.at_int HR0.out x5_1 pU3 qU3; obtain rfl : adU1 = adU3 := (by injection eU3); replace pU3 := eq_true pU3; replace qU3 := eq_true qU3; go_wp2
       repeat (go_quiet (fail); try go_wp2)
       go_roundg k1
       case measure => have := HK1.out; omega
       case rel => exact ⟨(wrap64 (x3_1 + (rd l0 x5_1))), (wrap64 (x4_1 - (wrap64 (x3_1 * (rd l0 x5_1))))), (wrap64 (x5_1 + 1)), si, si, si, H', ⟨by have := HK1.out; omega⟩, dr⟩
    ·rw [if_neg c3] at H; have c3b0 : decide (0 < x3_1) = false := decide_eq_false c3; clear c3; replace H := dt H; obtain ⟨c7b0, H⟩ := H; have H' := Aside0.mk H; clear H; have pU4 : 0 ≤ (x5_1 : Int) := oda; have qU4 : x5_1 < (l0.length : Int) := oda; obtain ⟨adU4, eU4, hxU4_0⟩ := Kd.at_int HR0.out x5_1 pU4 qU4; cases eU4; replace pU4 := eq_true pU4; replace qU4 := eq_true qU4; have pU5 : 0 ≤ (x5_1 : Int) := oda; have qU5 : x5_1 < (l0.length : Int) := oda; obtain ⟨adU5, eU5, hxU5_0⟩ := Kd.at_int HR0.out x5_1 pU5 qU5; obtain rfl : adU4 = adU5 := (by injection eU5); replace pU5 := eq_true pU5; replace qU5 := eq_true qU5; go_wp2
     repeat (go_quiet (fail); try go_wp2)
     go_roundg k1
     case measure => have := HK1.out; omega
     case rel => exact ⟨(wrap64 (x3_1 + (rd l0 x5_1))), (wrap64 (x4_1 - (wrap64 (x3_1 * (rd l0 x5_1))))), (wrap64 (x5_1 + 1)), si, si, si, H', ⟨by have := HK1.out; omega⟩, dr⟩
   ·rw [if_neg c2] at H; have c2b0 : decide (x5_1 < (l0.length : Int)) = false := decide_eq_false c2; clear c2; obtain rfl := Option.some.inj H; go_wp2
    repeat (go_quiet (fail); try go_wp2)
    go_ret; exact ⟨si, dr⟩
def siglumref09_Weight.l0 : Nat → List ByteArray → Int → Int → Option (Int)
 | 0, _, _, _ => none
 | k + 1, x0, x3, x4 => if x4 < (x0.length : Int) then (if 0 ≤ x4 then (siglumref09_Weight.l0 k x0 (wrap64 (x3 + ((rdOf ByteArray.empty x0 x4).size : Int))) (wrap64 (x4 + 1))) else (none)) else (some x3)
def siglumref09_Weight.f (k : Nat) (l0 : List ByteArray) : Option (Int) := siglumref09_Weight.l0 k l0 (l0.length : Int) 0
set_option maxHeartbeats 8000000 in
set_option maxRecDepth 100000 in
theorem siglumref09_Weight.calls (k : Nat) (A0 : Option Addr) (c0 : Nat) (l0 : List ByteArray) (r : Int) (w : World) (hr0 : Kd.C Kd.string w A0 l0.length l0) (hc0 : l0.length ≤ c0) (h : siglumref09_Weight.f k l0 = some r) :
 Calls Tryd.prog 41 #[.slice A0 l0.length c0] w fun e w' => e = .returned (.int .i64 r) ∧ Drawn0 w w' := by
 have HR0 := Aside0.mk hr0; have HC0 := Aside0.mk hc0; clear hr0 hc0; have H := h; clear h; unfold siglumref09_Weight.f at H; have H' := Aside0.mk H; clear H; go_enter Tryd.func41, Tryd.ntmps41; go_wp2
 go_loopg [3, 4] k (fun kq v3 v4 w' => ∃ (x3_1 : Int) (x4_1 : Int), v3 = .int .i64 x3_1 ∧ v4 = .int .i64 x4_1 ∧ Aside0 (siglumref09_Weight.l0 kq l0 x3_1 x4_1 = some r) ∧ Aside0 (kq ≤ k) ∧ Drawn0 w w')
 case atStart => exact ⟨((l0.length : Int)), (0), si, si, H', ⟨Nat.le_refl _⟩, dr⟩
 case round =>
  clear H'; obtain ⟨x3_1, x4_1, rfl, rfl, HA, HK1, ⟨m1, rfl⟩⟩ := hrel
  cases gk with
  | zero => exact absurd HA.out (by simp [siglumref09_Weight.l0])
  | succ k1 =>
   have H := HA.out; clear HA; simp only [siglumref09_Weight.l0] at H
   by_cases c2 : x4_1 < (l0.length : Int)
   ·rw [if_pos c2] at H; have c2b0 := decide_eq_true c2; clear c2; replace H := dt H; obtain ⟨c3b0, H⟩ := H; have H' := Aside0.mk H; clear H; have pU1 : 0 ≤ (x4_1 : Int) := oda; have qU1 : x4_1 < (l0.length : Int) := oda; obtain ⟨adU1, eU1, hxU1_0⟩ := Kd.at_string HR0.out x4_1 pU1 qU1; cases eU1; replace pU1 := eq_true pU1; replace qU1 := eq_true qU1; go_wp2
    go_roundg k1
    case measure => have := HK1.out; omega
    case rel => exact ⟨(wrap64 (x3_1 + ((rdOf ByteArray.empty l0 x4_1).size : Int))), (wrap64 (x4_1 + 1)), si, si, H', ⟨by have := HK1.out; omega⟩, dr⟩
   ·rw [if_neg c2] at H; have c2b0 : decide (x4_1 < (l0.length : Int)) = false := decide_eq_false c2; clear c2; obtain rfl := Option.some.inj H; go_wp2; go_ret; exact ⟨si, dr⟩
def siglumref09_Light.f (k : Nat) (l0 : List ByteArray) (l1 : List ByteArray) : Option (Bool) := if (l0.length : Int) > 1024 then (some true) else (if (l1.length : Int) > 1024 then (some true) else ((siglumref09_Weight.f k l0).bind fun tU1 => ((siglumref09_Weight.f k l1).bind fun tU2 => ((siglumref09_Little.f k (([tU1, tU2] : List Int))).bind fun tU6 => (some tU6)))))
set_option maxHeartbeats 8000000 in
set_option maxRecDepth 100000 in
theorem siglumref09_Light.calls (k : Nat) (A0 : Option Addr) (c0 : Nat) (l0 : List ByteArray) (A1 : Option Addr) (c1 : Nat) (l1 : List ByteArray) (r : Bool) (w : World) (hr0 : Kd.C Kd.string w A0 l0.length l0) (hc0 : l0.length ≤ c0) (hr1 : Kd.C Kd.string w A1 l1.length l1) (hc1 : l1.length ≤ c1) (h : siglumref09_Light.f k l0 l1 = some r) :
 Calls Tryd.prog 21 #[.slice A0 l0.length c0, .slice A1 l1.length c1] w fun e w' => e = .returned (.bool r) ∧ Below w.heap.size w w' := by
 have HR0 := Aside0.mk hr0; have HC0 := Aside0.mk hc0; clear hr0 hc0; have HR1 := Aside0.mk hr1; have HC1 := Aside0.mk hc1; clear hr1 hc1; have HB := Aside0.mk (Below.refl w.heap.size w); have H := h; clear h; unfold siglumref09_Light.f at H
 by_cases c3 : (l0.length : Int) > 1024
 ·rw [if_pos c3] at H; have c3b0 : decide (1024 < (l0.length : Int)) = true := decide_eq_true c3; have c3b1 : decide (1024 < l0.length) = true := decide_eq_true (by omega); clear c3; obtain rfl := Option.some.inj H; go_enter Tryd.func21, Tryd.ntmps21; go_wp2; go_ret; exact ⟨fi, bel⟩
 ·rw [if_neg c3] at H; have c3b0 : decide (1024 < (l0.length : Int)) = false := decide_eq_false c3; have c3b1 : decide (1024 < l0.length) = false := decide_eq_false (by omega); clear c3
  by_cases c4 : (l1.length : Int) > 1024
  ·rw [if_pos c4] at H; have c4b0 : decide (1024 < (l1.length : Int)) = true := decide_eq_true c4; have c4b1 : decide (1024 < l1.length) = true := decide_eq_true (by omega); clear c4; obtain rfl := Option.some.inj H; go_enter Tryd.func21, Tryd.ntmps21; go_wp2; go_ret; exact ⟨fi, bel⟩
  ·rw [if_neg c4] at H; have c4b0 : decide (1024 < (l1.length : Int)) = false := decide_eq_false c4; have c4b1 : decide (1024 < l1.length) = false := decide_eq_false (by omega); clear c4; replace H := ob H; obtain ⟨tU1, A5, H⟩ := H; (try dsimp only at H); replace H := ob H; obtain ⟨tU2, A6, H⟩ := H; (try dsimp only at H); obtain ⟨yU3, hyU3⟩ : ∃ y_ : List Int, y_ = (([tU1, tU2] : List Int)) := ⟨_, rfl⟩
   (try rw [← hyU3] at H); (try rw [Option.bind_some] at H); (try dsimp only at H); have NyU3 := Aside0.mk hyU3; clear hyU3; replace H := ob H; obtain ⟨tU6, A7, H⟩ := H; (try dsimp only at H); obtain rfl := Option.some.inj H; go_enter Tryd.func21, Tryd.ntmps21; go_wp2_with (first | (go_at_call 41; (with_reducible refine (siglumref09_Weight.calls k _ _ l0 tU1 _ ?side1 ?side2 A5.out).mono ?_); (case side1 => repeat (first | exact HR0.out | (with_reducible refine Kd.C_alloc ?_ _) | (with_reducible refine Kd.C_drewN ?_ _) | (with_reducible refine Kd.C_drew ?_))); (case side2 => exact HC0.out); rintro e w' ⟨rfl, ⟨nd, rfl⟩⟩) | (go_at_call 41; (with_reducible refine (siglumref09_Weight.calls k _ _ l1 tU2 _ ?side1 ?side2 A6.out).mono ?_); (case side1 => repeat (first | exact HR1.out | (with_reducible refine Kd.C_alloc ?_ _) | (with_reducible refine Kd.C_drewN ?_ _) | (with_reducible refine Kd.C_drew ?_))); (case side2 => exact HC1.out); rintro e w' ⟨rfl, ⟨nd, rfl⟩⟩) | ((with_reducible refine gd 18 ?_); (try (refine gate_guard (by rfl) ?_; dsimp only)); refine Kd.R_lit (Kd.int .i64) _ 3 ?hg (N := 18) ?hd (xs := ([tU1, tU2] : List Int)) (inner := [.int .i64 tU1, .int .i64 tU2]) (ok := fun _ => True) (okp := fun _ => True) ?hr ?hp (fun _ hk => hk) trivial (Below.refl _ _) (Nat.le_refl _) (by simp) ?_; (case hd => rfl); (case hg => rfl); (case hr => first | (go_simp; done) | (go_simp; rfl)); (case hp => exact (Reps.one (show Kd.M (Kd.int .i64) _ _ _ tU1 [.int .i64 tU1] from rfl) (Reps.one (show Kd.M (Kd.int .i64) _ _ _ tU2 [.int .i64 tU2] from rfl) (Reps.none _ _)))); intro vU4 w8 ho9 hb hg_ hnew_; clear hg_ hnew_; (first | rw [← NyU3.out] at ho9 | (simp only [Int.reduceToNat] at ho9; rw [← NyU3.out] at ho9)); have HOU5 := Aside0.mk (Kd.R_lower ho9 (below_size bel)); replace HB := bs hb; clear hb ho9; obtain ⟨Ao10, co10, eo10⟩ := Kd.R_slice HOU5.out; subst eo10) | (go_at_call 40; (with_reducible refine (siglumref09_Little.calls k _ _ yU3 tU6 _ ?side1 ?side2 A7.out).mono ?_); (case side1 => repeat (first | exact (Kd.R_reads' HOU5.out).2.2 | (with_reducible refine Kd.C_alloc ?_ _) | (with_reducible refine Kd.C_drewN ?_ _) | (with_reducible refine Kd.C_drew ?_))); (case side2 => exact (Kd.R_reads' HOU5.out).2.1); rintro e w' ⟨rfl, ⟨nd, rfl⟩⟩)); go_ret; exact ⟨fi, bel⟩
def scaleOk (g n f o : Int) : Prop := (1 ≤ g ∧ g ≤ 1000) ∧ (1 ≤ n ∧ n ≤ 1000) ∧ (1 ≤ f ∧ f ≤ 1000) ∧ 0 ≤ o ∧ o ≤ 31
instance (g n f o : Int) : Decidable (scaleOk g n f o) := by unfold scaleOk; infer_instance
def cost_Check.f (a0_0 a0_1 a0_2 a0_3 : Int) : Option Int := some (if scaleOk a0_0 a0_1 a0_2 a0_3 then 0 else 90)
set_option maxHeartbeats 8000000 in
set_option maxRecDepth 100000 in
theorem cost_Check.calls (a0_0 : Int) (a0_1 : Int) (a0_2 : Int) (a0_3 : Int) (r : Int) (w : World) (h : cost_Check.f a0_0 a0_1 a0_2 a0_3 = some r) :
 Calls Tryd.prog 18 #[.agg #[.int .i64 a0_0, .int .i64 a0_1, .int .i64 a0_2, .int .i64 a0_3]] w fun e w' => e = .returned (.int .i64 r) ∧ Below w.heap.size w w' := by
 unfold cost_Check.f at h; obtain rfl := Option.some.inj h; clear h; have ix0 : ∀ w, (Instr.index 77 (.agg #[.int .i64 a0_0, .int .i64 a0_1, .int .i64 a0_2]) (.int .i64 0)).run Tryd.prog w = .ok (.int .i64 a0_0) w := fun _ => by kernel_rfl
 have ix1 : ∀ w, (Instr.index 77 (.agg #[.int .i64 a0_0, .int .i64 a0_1, .int .i64 a0_2]) (.int .i64 1)).run Tryd.prog w = .ok (.int .i64 a0_1) w := fun _ => by kernel_rfl
 have ix2 : ∀ w, (Instr.index 77 (.agg #[.int .i64 a0_0, .int .i64 a0_1, .int .i64 a0_2]) (.int .i64 2)).run Tryd.prog w = .ok (.int .i64 a0_2) w := fun _ => by kernel_rfl
 have hu := Tryd.underlying23; obtain ⟨R, hR⟩ : ∃ R : Int, (if scaleOk a0_0 a0_1 a0_2 a0_3 then 0 else 90) = R := ⟨_, rfl⟩
 have HR := Aside0.mk hR; rw [hR]; clear hR; go_enter Tryd.func18, Tryd.ntmps18; go_wp2
 go_loop [4, 12] (fun v4 v12 => ∃ i : Nat, v12 = .int .i64 (i : Int) ∧ i ≤ 3 ∧ Aside0 (1 ≤ i → 1 ≤ a0_0 ∧ a0_0 ≤ 1000) ∧ Aside0 (2 ≤ i → 1 ≤ a0_1 ∧ a0_1 ≤ 1000) ∧ Aside0 (3 ≤ i → 1 ≤ a0_2 ∧ a0_2 ≤ 1000)) (fun _ v12 => 3 - (intOf v12).toNat)
 case atStart => exact ⟨0, rfl, by omega, ⟨fun h => by omega⟩, ⟨fun h => by omega⟩, ⟨fun h => by omega⟩⟩
 case round =>
  obtain ⟨i, rfl, hi, h1, h2, h3⟩ := hrel; have hc : i = 0 ∨ i = 1 ∨ i = 2 ∨ i = 3 := by omega
  rcases hc with rfl | rfl | rfl | rfl
  ·by_cases l0 : a0_0 < 1
   ·have l0b : decide (a0_0 < 1) = true := decide_eq_true l0; have HR90 : Aside0 (R = 90) := ⟨by rw [← HR.out, if_neg (by unfold scaleOk; omega)]⟩; go_wp2; go_ret; exact ⟨by rw [HR90.out]; rfl, (Below.refl _ w).alloc (Nat.le_refl _) _⟩
   ·have l0b : decide (a0_0 < 1) = false := decide_eq_false l0
    by_cases l1 : 1000 < a0_0
    ·have l1b : decide (a0_0 > 1000) = true := decide_eq_true l1; have l1c : decide (1000 < a0_0) = true := decide_eq_true l1; have HR90 : Aside0 (R = 90) := ⟨by rw [← HR.out, if_neg (by unfold scaleOk; omega)]⟩; go_wp2; go_ret; exact ⟨by rw [HR90.out]; rfl, (Below.refl _ w).alloc (Nat.le_refl _) _⟩
    ·have l1b : decide (a0_0 > 1000) = false := decide_eq_false l1; have l1c : decide (1000 < a0_0) = false := decide_eq_false l1; go_wp2
     go_round
     case rel => exact ⟨1, rfl, by omega, ⟨fun _ => ⟨by omega, by omega⟩⟩, ⟨fun h => by omega⟩, ⟨fun h => by omega⟩⟩
     case measure => simp [intOf]
  ·by_cases l0 : a0_1 < 1
   ·have l0b : decide (a0_1 < 1) = true := decide_eq_true l0; have HR90 : Aside0 (R = 90) := ⟨by rw [← HR.out, if_neg (by unfold scaleOk; omega)]⟩; go_wp2; go_ret; exact ⟨by rw [HR90.out]; rfl, (Below.refl _ w).alloc (Nat.le_refl _) _⟩
   ·have l0b : decide (a0_1 < 1) = false := decide_eq_false l0
    by_cases l1 : 1000 < a0_1
    ·have l1b : decide (a0_1 > 1000) = true := decide_eq_true l1; have l1c : decide (1000 < a0_1) = true := decide_eq_true l1; have HR90 : Aside0 (R = 90) := ⟨by rw [← HR.out, if_neg (by unfold scaleOk; omega)]⟩; go_wp2; go_ret; exact ⟨by rw [HR90.out]; rfl, (Below.refl _ w).alloc (Nat.le_refl _) _⟩
    ·have l1b : decide (a0_1 > 1000) = false := decide_eq_false l1; have l1c : decide (1000 < a0_1) = false := decide_eq_false l1; go_wp2
     go_round
     case rel => exact ⟨2, rfl, by omega, ⟨fun _ => h1.out (by omega)⟩, ⟨fun _ => ⟨by omega, by omega⟩⟩, ⟨fun h => by omega⟩⟩
     case measure => simp [intOf]
  ·by_cases l0 : a0_2 < 1
   ·have l0b : decide (a0_2 < 1) = true := decide_eq_true l0; have HR90 : Aside0 (R = 90) := ⟨by rw [← HR.out, if_neg (by unfold scaleOk; omega)]⟩; go_wp2; go_ret; exact ⟨by rw [HR90.out]; rfl, (Below.refl _ w).alloc (Nat.le_refl _) _⟩
   ·have l0b : decide (a0_2 < 1) = false := decide_eq_false l0
    by_cases l1 : 1000 < a0_2
    ·have l1b : decide (a0_2 > 1000) = true := decide_eq_true l1; have l1c : decide (1000 < a0_2) = true := decide_eq_true l1; have HR90 : Aside0 (R = 90) := ⟨by rw [← HR.out, if_neg (by unfold scaleOk; omega)]⟩; go_wp2; go_ret; exact ⟨by rw [HR90.out]; rfl, (Below.refl _ w).alloc (Nat.le_refl _) _⟩
    ·have l1b : decide (a0_2 > 1000) = false := decide_eq_false l1; have l1c : decide (1000 < a0_2) = false := decide_eq_false l1; go_wp2
     go_round
     case rel => exact ⟨3, rfl, by omega, ⟨fun _ => h1.out (by omega)⟩, ⟨fun _ => h2.out (by omega)⟩, ⟨fun _ => ⟨by omega, by omega⟩⟩⟩
     case measure => simp [intOf]
  ·have g1 := h1.out (by omega); have g2 := h2.out (by omega); have g3 := h3.out (by omega)
   by_cases l0 : a0_3 < 0
   ·have l0b : decide (a0_3 < 0) = true := decide_eq_true l0; have HR90 : Aside0 (R = 90) := ⟨by rw [← HR.out, if_neg (by unfold scaleOk; omega)]⟩; clear g1 g2 g3; go_wp2; go_ret; exact ⟨by rw [HR90.out]; rfl, (Below.refl _ w).alloc (Nat.le_refl _) _⟩
   ·have l0b : decide (a0_3 < 0) = false := decide_eq_false l0
    by_cases l1 : 31 < a0_3
    ·have l1b : decide (a0_3 > 31) = true := decide_eq_true l1; have l1c : decide (31 < a0_3) = true := decide_eq_true l1; have HR90 : Aside0 (R = 90) := ⟨by rw [← HR.out, if_neg (by unfold scaleOk; omega)]⟩; clear g1 g2 g3; go_wp2; go_ret; exact ⟨by rw [HR90.out]; rfl, (Below.refl _ w).alloc (Nat.le_refl _) _⟩
    ·have l1b : decide (a0_3 > 31) = false := decide_eq_false l1; have l1c : decide (31 < a0_3) = false := decide_eq_false l1; have HR90 : Aside0 (R = 0) := ⟨by rw [← HR.out, if_pos (by unfold scaleOk; omega)]⟩; clear g1 g2 g3; go_wp2; go_ret; exact ⟨by rw [HR90.out]; rfl, (Below.refl _ w).alloc (Nat.le_refl _) _⟩
def fold_wrong.f (a0 : Int) : Option (Bool) := if a0 < 0 then (some true) else (some (decide (a0 > 31)))
set_option maxHeartbeats 8000000 in
set_option maxRecDepth 100000 in
theorem fold_wrong.calls (a0 : Int) (r : Bool) (w : World) (h : fold_wrong.f a0 = some r) :
    Calls Tryd.prog 43 #[.int .i64 a0] w fun e w' => e = .returned (.bool r) ∧ Drawn0 w w' := by
  have H : (if a0 < 0 then (some true) else (some (decide (a0 > 31)))) = some r := h; clear h
  by_cases c2 : a0 < 0
  · rw [if_pos c2] at H
    have c2b0 : decide (a0 < 0) = true := decide_eq_true c2; clear c2; obtain rfl := Option.some.inj H; go_enter Tryd.func43, Tryd.ntmps43; go_wp2; go_ret; exact ⟨si, dr⟩
  · rw [if_neg c2] at H
    have c2b0 : decide (a0 < 0) = false := decide_eq_false c2; clear c2; obtain rfl := Option.some.inj H; go_enter Tryd.func43, Tryd.ntmps43; go_wp2; go_ret; exact ⟨si, dr⟩
mutual
def fold_lower.j0 : Nat → Int → Bool → Option (Int)
 | 0, _, _ => none
 | k + 1, x0, x3 => if x3 = true then (fold_lower.j2 k x0 x3) else (if 192 ≤ x0 then (if x0 ≤ 222 then (fold_lower.j1 k x0 (x0 != 215)) else (fold_lower.j1 k x0 false)) else (fold_lower.j1 k x0 false))
def fold_lower.j2 : Nat → Int → Bool → Option (Int)
 | 0, _, _ => none
 | k + 1, x0, x3 => if x3 = true then (some (wrap32 (x0 + 32))) else (if 1024 ≤ x0 then (fold_lower.j3 k x0 (decide (x0 < 1040))) else (fold_lower.j3 k x0 false))
def fold_lower.j3 : Nat → Int → Bool → Option (Int)
 | 0, _, _ => none
 | k + 1, x0, x38 => if x38 = true then (some (wrap32 (x0 + 80))) else (if x0 = 376 then (some 255) else (if x0 = 962 then (some 963) else (if 313 ≤ x0 then (fold_lower.j4 k x0 (decide (x0 ≤ 328))) else (fold_lower.j4 k x0 false))))
def fold_lower.j4 : Nat → Int → Bool → Option (Int)
 | 0, _, _ => none
 | k + 1, x0, x53 => if x53 = true then (fold_lower.j5 k x0 x53) else (if 377 ≤ x0 then (fold_lower.j5 k x0 (decide (x0 ≤ 382))) else (fold_lower.j5 k x0 false))
def fold_lower.j5 : Nat → Int → Bool → Option (Int)
 | 0, _, _ => none
 | k + 1, x0, x53 => if x53 = true then (some (wrap32 (x0 + (Go.bits .and .i32 x0 1)))) else (if 256 ≤ x0 then (fold_lower.j6 k x0 (decide (x0 ≤ 311))) else (fold_lower.j6 k x0 false))
def fold_lower.j6 : Nat → Int → Bool → Option (Int)
 | 0, _, _ => none
 | k + 1, x0, x70 => if x70 = true then (some (Go.bits .or .i32 x0 1)) else (if 330 ≤ x0 then (fold_lower.j7 k x0 (decide (x0 ≤ 375))) else (fold_lower.j7 k x0 false))
def fold_lower.j7 : Nat → Int → Bool → Option (Int)
 | 0, _, _ => none
 | k + 1, x0, x70 => if x70 = true then (some (Go.bits .or .i32 x0 1)) else (if 7680 ≤ x0 then (if x0 ≤ 7829 then (some (Go.bits .or .i32 x0 1)) else (some x0)) else (some x0))
def fold_lower.j1 : Nat → Int → Bool → Option (Int)
 | 0, _, _ => none
 | k + 1, x0, x3 => if x3 = true then (fold_lower.j2 k x0 x3) else (if 913 ≤ x0 then (if x0 ≤ 937 then (if x0 = 930 then (if 1040 ≤ x0 then (fold_lower.j2 k x0 (decide (x0 ≤ 1071))) else (fold_lower.j2 k x0 false)) else (fold_lower.j2 k x0 (x0 != 930))) else (if 1040 ≤ x0 then (fold_lower.j2 k x0 (decide (x0 ≤ 1071))) else (fold_lower.j2 k x0 false))) else (if 1040 ≤ x0 then (fold_lower.j2 k x0 (decide (x0 ≤ 1071))) else (fold_lower.j2 k x0 false)))
end
def fold_lower.f (k : Nat) (a0 : Int) : Option (Int) := if 65 ≤ a0 then (fold_lower.j0 k a0 (decide (a0 ≤ 90))) else (fold_lower.j0 k a0 false)
set_option maxHeartbeats 8000000 in
set_option maxRecDepth 100000 in
theorem fold_lower.calls (k : Nat) (a0 : Int) (r : Int) (w : World) (h : fold_lower.f k a0 = some r) :
 Calls Tryd.prog 58 #[.int .i32 a0] w fun e w' => e = .returned (.int .i32 r) ∧ Drawn0 w w' := by
 have H := h; clear h; unfold fold_lower.f at H; have HC2 := Aside0.mk H; clear H; go_enter Tryd.func58, Tryd.ntmps58
 go_upto_region 1 with (fail)
 go_cut [3] (fun v3 wc => ∃ (kq : Nat) (x3_1 : Bool), v3 = .bool x3_1 ∧ Aside0 (fold_lower.j0 kq a0 x3_1 = some r) ∧ Aside0 (kq ≤ k) ∧ Drawn0 w wc)
 case first =>
  have H := HC2.out; clear HC2
  by_cases c3 : 65 ≤ a0
  ·rw [if_pos c3] at H; have c3b0 := decide_eq_true c3; clear c3; (first | rw [c3b0] | (simp only [i64_w, i32_w]; rw [c3b0]) | (have ce_ := c3b0; rw [List.beq_nil_eq] at ce_; rw [ce_]) | skip); have H' := Aside0.mk H; clear H; go_wp2; go_meet
   case rel => exact ⟨_, (decide (a0 ≤ 90)), si, H', ⟨lk⟩, dr⟩
  ·rw [if_neg c3] at H; have c3b0 : decide (65 ≤ a0) = false := decide_eq_false c3; clear c3; (first | rw [c3b0] | (simp only [i64_w, i32_w]; rw [c3b0]) | (have ce_ := c3b0; rw [List.beq_nil_eq] at ce_; rw [ce_]) | skip); have H' := Aside0.mk H; clear H; go_wp2; go_meet
   case rel => exact ⟨_, (false), si, H', ⟨lk⟩, dr⟩
 case rest =>
  clear HC2; (try clear p2); (try clear c3); (try clear c3b0); obtain ⟨kq, x3_1, rfl, HA, HJ1, ⟨mc1, rfl⟩⟩ := hcut
  cases kq with
  | zero => exact absurd HA.out (by simp [fold_lower.j0])
  | succ kj1 =>
   have H := HA.out; clear HA; simp only [fold_lower.j0] at H; have HC4 := Aside0.mk H; clear H
   go_upto_if 3 with (fail)
   go_cut [3] (fun v3 wc => ∃ (kq : Nat) (x3_3 : Bool), v3 = .bool x3_3 ∧ Aside0 (fold_lower.j2 kq a0 x3_3 = some r) ∧ Aside0 (kq ≤ kj1) ∧ Drawn0 w wc)
   case first =>
    have H := HC4.out; clear HC4
    by_cases c5 : x3_1 = true
    ·subst c5; rw [if_pos rfl] at H; have H' := Aside0.mk H; clear H; go_wp2; go_meet
     case rel => exact ⟨_, (true), si, H', ⟨by have := HJ1.out; first | omega | exact Nat.le_refl _⟩, dr⟩
    ·replace c5 := Bool.eq_false_iff.mpr c5; subst c5; rw [if_neg nf] at H; have HC6 := Aside0.mk H; clear H
     go_upto_region 2 with (fail)
     go_cut [3] (fun v3 wc => ∃ (kq : Nat) (x3_5 : Bool), v3 = .bool x3_5 ∧ Aside0 (fold_lower.j1 kq a0 x3_5 = some r) ∧ Aside0 (kq ≤ kj1) ∧ Drawn0 w wc)
     case first =>
      have H := HC6.out; clear HC6
      by_cases c7 : 192 ≤ a0
      ·rw [if_pos c7] at H; have c7b0 := decide_eq_true c7; clear c7; (first | rw [c7b0] | (simp only [i64_w, i32_w]; rw [c7b0]) | (have ce_ := c7b0; rw [List.beq_nil_eq] at ce_; rw [ce_]) | skip)
       by_cases c8 : a0 ≤ 222
       ·rw [if_pos c8] at H; have c8b0 := decide_eq_true c8; clear c8; have H' := Aside0.mk H; clear H; go_wp2; go_meet
        case rel => exact ⟨_, ((a0 != 215)), si, H', ⟨by have := HJ1.out; first | omega | exact Nat.le_refl _⟩, dr⟩
       ·rw [if_neg c8] at H; have c8b0 : decide (a0 ≤ 222) = false := decide_eq_false c8; clear c8; have H' := Aside0.mk H; clear H; go_wp2; go_meet
        case rel => exact ⟨_, (false), si, H', ⟨by have := HJ1.out; first | omega | exact Nat.le_refl _⟩, dr⟩
      ·rw [if_neg c7] at H; have c7b0 : decide (192 ≤ a0) = false := decide_eq_false c7; clear c7; (first | rw [c7b0] | (simp only [i64_w, i32_w]; rw [c7b0]) | (have ce_ := c7b0; rw [List.beq_nil_eq] at ce_; rw [ce_]) | skip); have H' := Aside0.mk H; clear H; go_wp2; go_meet
       case rel => exact ⟨_, (false), si, H', ⟨by have := HJ1.out; first | omega | exact Nat.le_refl _⟩, dr⟩
     case rest =>
      clear HC6; (try clear c1); (try clear p2); (try clear c3); (try clear c3b0); (try clear c5); (try clear c7); (try clear c7b0); (try clear c8); (try clear c8b0); obtain ⟨kq, x3_5, rfl, HA, HJ5, ⟨mc5, rfl⟩⟩ := hcut
      cases kq with
      | zero => exact absurd HA.out (by simp [fold_lower.j1])
      | succ kj5 =>
       have H := HA.out; clear HA; simp only [fold_lower.j1] at H
       by_cases c9 : x3_5 = true
       ·subst c9; rw [if_pos rfl] at H; have H' := Aside0.mk H; clear H; go_wp2; go_meet
        case rel => exact ⟨_, (true), si, H', ⟨by have := HJ1.out; have := HJ5.out; first | omega | exact Nat.le_refl _⟩, dr⟩
       ·replace c9 := Bool.eq_false_iff.mpr c9; subst c9; rw [if_neg nf] at H
        by_cases c10 : 913 ≤ a0
        ·rw [if_pos c10] at H; have c10b0 := decide_eq_true c10; clear c10
         by_cases c11 : a0 ≤ 937
         ·rw [if_pos c11] at H; have c11b0 := decide_eq_true c11; clear c11
          by_cases c12 : a0 = 930
          ·rw [if_pos c12] at H; have c12b0 := beq_iff_eq.mpr c12; have c12b1 := bne_eq_false_iff_eq.mpr c12; clear c12
           by_cases c13 : 1040 ≤ a0
           ·rw [if_pos c13] at H; have c13b0 := decide_eq_true c13; clear c13; have H' := Aside0.mk H; clear H; go_wp2; go_meet
            case rel => exact ⟨_, (decide (a0 ≤ 1071)), si, H', ⟨by have := HJ1.out; have := HJ5.out; first | omega | exact Nat.le_refl _⟩, dr⟩
           ·rw [if_neg c13] at H; have c13b0 : decide (1040 ≤ a0) = false := decide_eq_false c13; clear c13; have H' := Aside0.mk H; clear H; go_wp2; go_meet
            case rel => exact ⟨_, (false), si, H', ⟨by have := HJ1.out; have := HJ5.out; first | omega | exact Nat.le_refl _⟩, dr⟩
          ·rw [if_neg c12] at H; have c12b0 := beq_eq_false_iff_ne.mpr c12; have c12b1 := bne_iff_ne.mpr c12; have H' := Aside0.mk H; clear H; go_wp2; go_meet
           case rel => exact ⟨_, ((a0 != 930)), si, H', ⟨by have := HJ1.out; have := HJ5.out; first | omega | exact Nat.le_refl _⟩, dr⟩
         ·rw [if_neg c11] at H; have c11b0 : decide (a0 ≤ 937) = false := decide_eq_false c11; clear c11
          by_cases c14 : 1040 ≤ a0
          ·rw [if_pos c14] at H; have c14b0 := decide_eq_true c14; clear c14; have H' := Aside0.mk H; clear H; go_wp2; go_meet
           case rel => exact ⟨_, (decide (a0 ≤ 1071)), si, H', ⟨by have := HJ1.out; have := HJ5.out; first | omega | exact Nat.le_refl _⟩, dr⟩
          ·rw [if_neg c14] at H; have c14b0 : decide (1040 ≤ a0) = false := decide_eq_false c14; clear c14; have H' := Aside0.mk H; clear H; go_wp2; go_meet
           case rel => exact ⟨_, (false), si, H', ⟨by have := HJ1.out; have := HJ5.out; first | omega | exact Nat.le_refl _⟩, dr⟩
        ·rw [if_neg c10] at H; have c10b0 : decide (913 ≤ a0) = false := decide_eq_false c10; clear c10
         by_cases c15 : 1040 ≤ a0
         ·rw [if_pos c15] at H; have c15b0 := decide_eq_true c15; clear c15; have H' := Aside0.mk H; clear H; go_wp2; go_meet
          case rel => exact ⟨_, (decide (a0 ≤ 1071)), si, H', ⟨by have := HJ1.out; have := HJ5.out; first | omega | exact Nat.le_refl _⟩, dr⟩
         ·rw [if_neg c15] at H; have c15b0 : decide (1040 ≤ a0) = false := decide_eq_false c15; clear c15; have H' := Aside0.mk H; clear H; go_wp2; go_meet
          case rel => exact ⟨_, (false), si, H', ⟨by have := HJ1.out; have := HJ5.out; first | omega | exact Nat.le_refl _⟩, dr⟩
   case rest =>
    clear HC4; (try clear c1); (try clear p2); (try clear c3); (try clear c3b0); (try clear c5); (try clear c7); (try clear c7b0); (try clear c8); (try clear c8b0); (try clear c9); (try clear c10); (try clear c10b0); (try clear c11); (try clear c11b0); (try clear c12); (try clear c12b0 c12b1); (try clear c13); (try clear c13b0); (try clear c14); (try clear c14b0); (try clear c15); (try clear c15b0); obtain ⟨kq, x3_3, rfl, HA, HJ3, ⟨mc3, rfl⟩⟩ := hcut
    cases kq with
    | zero => exact absurd HA.out (by simp [fold_lower.j2])
    | succ kj3 =>
     have H := HA.out; clear HA; simp only [fold_lower.j2] at H
     by_cases c16 : x3_3 = true
     ·subst c16; rw [if_pos rfl] at H; obtain rfl := Option.some.inj H; go_wp2; go_ret; exact ⟨si, dr⟩
     ·replace c16 := Bool.eq_false_iff.mpr c16; subst c16; rw [if_neg nf] at H; have HC17 := Aside0.mk H; clear H
      go_upto_region 6 with (fail)
      go_cut [38] (fun v38 wc => ∃ (kq : Nat) (x38_16 : Bool), v38 = .bool x38_16 ∧ Aside0 (fold_lower.j3 kq a0 x38_16 = some r) ∧ Aside0 (kq ≤ kj3) ∧ Drawn0 w wc)
      case first =>
       have H := HC17.out; clear HC17
       by_cases c18 : 1024 ≤ a0
       ·rw [if_pos c18] at H; have c18b0 := decide_eq_true c18; clear c18; (first | rw [c18b0] | (simp only [i64_w, i32_w]; rw [c18b0]) | (have ce_ := c18b0; rw [List.beq_nil_eq] at ce_; rw [ce_]) | skip); have H' := Aside0.mk H; clear H; go_wp2; go_meet
        case rel => exact ⟨_, (decide (a0 < 1040)), si, H', ⟨by have := HJ1.out; have := HJ3.out; first | omega | exact Nat.le_refl _⟩, dr⟩
       ·rw [if_neg c18] at H; have c18b0 : decide (1024 ≤ a0) = false := decide_eq_false c18; clear c18; (first | rw [c18b0] | (simp only [i64_w, i32_w]; rw [c18b0]) | (have ce_ := c18b0; rw [List.beq_nil_eq] at ce_; rw [ce_]) | skip); have H' := Aside0.mk H; clear H; go_wp2; go_meet
        case rel => exact ⟨_, (false), si, H', ⟨by have := HJ1.out; have := HJ3.out; first | omega | exact Nat.le_refl _⟩, dr⟩
      case rest =>
       clear HC17; (try clear c1); (try clear p2); (try clear c3); (try clear c3b0); (try clear p3); (try clear c5); (try clear c7); (try clear c7b0); (try clear c8); (try clear c8b0); (try clear c9); (try clear c10); (try clear c10b0); (try clear c11); (try clear c11b0); (try clear c12); (try clear c12b0 c12b1); (try clear c13); (try clear c13b0); (try clear c14); (try clear c14b0); (try clear c15); (try clear c15b0); (try clear c16); (try clear c18); (try clear c18b0); obtain ⟨kq, x38_16, rfl, HA, HJ16, ⟨mc16, rfl⟩⟩ := hcut
       cases kq with
       | zero => exact absurd HA.out (by simp [fold_lower.j3])
       | succ kj16 =>
        have H := HA.out; clear HA; simp only [fold_lower.j3] at H
        by_cases c19 : x38_16 = true
        ·subst c19; rw [if_pos rfl] at H; obtain rfl := Option.some.inj H; go_wp2; go_ret; exact ⟨si, dr⟩
        ·replace c19 := Bool.eq_false_iff.mpr c19; subst c19; rw [if_neg nf] at H
         by_cases c20 : a0 = 376
         ·rw [if_pos c20] at H; have c20b0 := beq_iff_eq.mpr c20; have c20b1 := bne_eq_false_iff_eq.mpr c20; clear c20; obtain rfl := Option.some.inj H; go_wp2; go_ret; exact ⟨si, dr⟩
         ·rw [if_neg c20] at H; have c20b0 := beq_eq_false_iff_ne.mpr c20; have c20b1 := bne_iff_ne.mpr c20
          by_cases c21 : a0 = 962
          ·rw [if_pos c21] at H; have c21b0 := beq_iff_eq.mpr c21; have c21b1 := bne_eq_false_iff_eq.mpr c21; clear c21; obtain rfl := Option.some.inj H; go_wp2; go_ret; exact ⟨si, dr⟩
          ·rw [if_neg c21] at H; have c21b0 := beq_eq_false_iff_ne.mpr c21; have c21b1 := bne_iff_ne.mpr c21; have HC22 := Aside0.mk H; clear H
           go_upto_region 12 with (fail)
           go_cut [53] (fun v53 wc => ∃ (kq : Nat) (x53_21 : Bool), v53 = .bool x53_21 ∧ Aside0 (fold_lower.j4 kq a0 x53_21 = some r) ∧ Aside0 (kq ≤ kj16) ∧ Drawn0 w wc)
           case first =>
            have H := HC22.out; clear HC22
            by_cases c23 : 313 ≤ a0
            ·rw [if_pos c23] at H; have c23b0 := decide_eq_true c23; clear c23; (first | rw [c23b0] | (simp only [i64_w, i32_w]; rw [c23b0]) | (have ce_ := c23b0; rw [List.beq_nil_eq] at ce_; rw [ce_]) | skip); have H' := Aside0.mk H; clear H; go_wp2; go_meet
             case rel => exact ⟨_, (decide (a0 ≤ 328)), si, H', ⟨by have := HJ1.out; have := HJ3.out; have := HJ16.out; first | omega | exact Nat.le_refl _⟩, dr⟩
            ·rw [if_neg c23] at H; have c23b0 : decide (313 ≤ a0) = false := decide_eq_false c23; clear c23; (first | rw [c23b0] | (simp only [i64_w, i32_w]; rw [c23b0]) | (have ce_ := c23b0; rw [List.beq_nil_eq] at ce_; rw [ce_]) | skip); have H' := Aside0.mk H; clear H; go_wp2; go_meet
             case rel => exact ⟨_, (false), si, H', ⟨by have := HJ1.out; have := HJ3.out; have := HJ16.out; first | omega | exact Nat.le_refl _⟩, dr⟩
           case rest =>
            clear HC22; (try clear c1); (try clear c2); (try clear p2); (try clear c3); (try clear c3b0); (try clear p3); (try clear c5); (try clear c7); (try clear c7b0); (try clear c8); (try clear c8b0); (try clear c9); (try clear c10); (try clear c10b0); (try clear c11); (try clear c11b0); (try clear c12); (try clear c12b0 c12b1); (try clear c13); (try clear c13b0); (try clear c14); (try clear c14b0); (try clear c15); (try clear c15b0); (try clear c16); (try clear c18); (try clear c18b0); (try clear c19); (try clear c20); (try clear c20b0 c20b1); (try clear c21); (try clear c21b0 c21b1); (try clear c23); (try clear c23b0); obtain ⟨kq, x53_21, rfl, HA, HJ21, ⟨mc21, rfl⟩⟩ := hcut
            cases kq with
            | zero => exact absurd HA.out (by simp [fold_lower.j4])
            | succ kj21 =>
             have H := HA.out; clear HA; simp only [fold_lower.j4] at H; have HC24 := Aside0.mk H; clear H
             go_upto_if 53 with (fail)
             go_cut [53] (fun v53 wc => ∃ (kq : Nat) (x53_23 : Bool), v53 = .bool x53_23 ∧ Aside0 (fold_lower.j5 kq a0 x53_23 = some r) ∧ Aside0 (kq ≤ kj21) ∧ Drawn0 w wc)
             case first =>
              have H := HC24.out; clear HC24
              by_cases c25 : x53_21 = true
              ·subst c25; rw [if_pos rfl] at H; have H' := Aside0.mk H; clear H; go_wp2; go_meet
               case rel => exact ⟨_, (true), si, H', ⟨by have := HJ1.out; have := HJ3.out; have := HJ16.out; have := HJ21.out; first | omega | exact Nat.le_refl _⟩, dr⟩
              ·replace c25 := Bool.eq_false_iff.mpr c25; subst c25; rw [if_neg nf] at H
               by_cases c26 : 377 ≤ a0
               ·rw [if_pos c26] at H; have c26b0 := decide_eq_true c26; clear c26; (first | rw [c26b0] | (simp only [i64_w, i32_w]; rw [c26b0]) | (have ce_ := c26b0; rw [List.beq_nil_eq] at ce_; rw [ce_]) | skip); have H' := Aside0.mk H; clear H; go_wp2; go_meet
                case rel => exact ⟨_, (decide (a0 ≤ 382)), si, H', ⟨by have := HJ1.out; have := HJ3.out; have := HJ16.out; have := HJ21.out; first | omega | exact Nat.le_refl _⟩, dr⟩
               ·rw [if_neg c26] at H; have c26b0 : decide (377 ≤ a0) = false := decide_eq_false c26; clear c26; (first | rw [c26b0] | (simp only [i64_w, i32_w]; rw [c26b0]) | (have ce_ := c26b0; rw [List.beq_nil_eq] at ce_; rw [ce_]) | skip); have H' := Aside0.mk H; clear H; go_wp2; go_meet
                case rel => exact ⟨_, (false), si, H', ⟨by have := HJ1.out; have := HJ3.out; have := HJ16.out; have := HJ21.out; first | omega | exact Nat.le_refl _⟩, dr⟩
             case rest =>
              clear HC24; (try clear c1); (try clear c2); (try clear p2); (try clear c3); (try clear c3b0); (try clear p3); (try clear c5); (try clear c7); (try clear c7b0); (try clear c8); (try clear c8b0); (try clear c9); (try clear c10); (try clear c10b0); (try clear c11); (try clear c11b0); (try clear c12); (try clear c12b0 c12b1); (try clear c13); (try clear c13b0); (try clear c14); (try clear c14b0); (try clear c15); (try clear c15b0); (try clear c16); (try clear c18); (try clear c18b0); (try clear c19); (try clear c20); (try clear c20b0 c20b1); (try clear c21); (try clear c21b0 c21b1); (try clear c23); (try clear c23b0); (try clear c25); (try clear c26); (try clear c26b0); obtain ⟨kq, x53_23, rfl, HA, HJ23, ⟨mc23, rfl⟩⟩ := hcut
              cases kq with
              | zero => exact absurd HA.out (by simp [fold_lower.j5])
              | succ kj23 =>
               have H := HA.out; clear HA; simp only [fold_lower.j5] at H
               by_cases c27 : x53_23 = true
               ·subst c27; rw [if_pos rfl] at H; obtain rfl := Option.some.inj H; go_wp2; go_ret; exact ⟨si, dr⟩
               ·replace c27 := Bool.eq_false_iff.mpr c27; subst c27; rw [if_neg nf] at H; have HC28 := Aside0.mk H; clear H
                go_upto_region 15 with (fail)
                go_cut [70] (fun v70 wc => ∃ (kq : Nat) (x70_27 : Bool), v70 = .bool x70_27 ∧ Aside0 (fold_lower.j6 kq a0 x70_27 = some r) ∧ Aside0 (kq ≤ kj23) ∧ Drawn0 w wc)
                case first =>
                 have H := HC28.out; clear HC28
                 by_cases c29 : 256 ≤ a0
                 ·rw [if_pos c29] at H; have c29b0 := decide_eq_true c29; clear c29; (first | rw [c29b0] | (simp only [i64_w, i32_w]; rw [c29b0]) | (have ce_ := c29b0; rw [List.beq_nil_eq] at ce_; rw [ce_]) | skip); have H' := Aside0.mk H; clear H; go_wp2; go_meet
                  case rel => exact ⟨_, (decide (a0 ≤ 311)), si, H', ⟨by have := HJ1.out; have := HJ3.out; have := HJ16.out; have := HJ21.out; have := HJ23.out; first | omega | exact Nat.le_refl _⟩, dr⟩
                 ·rw [if_neg c29] at H; have c29b0 : decide (256 ≤ a0) = false := decide_eq_false c29; clear c29; (first | rw [c29b0] | (simp only [i64_w, i32_w]; rw [c29b0]) | (have ce_ := c29b0; rw [List.beq_nil_eq] at ce_; rw [ce_]) | skip); have H' := Aside0.mk H; clear H; go_wp2; go_meet
                  case rel => exact ⟨_, (false), si, H', ⟨by have := HJ1.out; have := HJ3.out; have := HJ16.out; have := HJ21.out; have := HJ23.out; first | omega | exact Nat.le_refl _⟩, dr⟩
                case rest =>
                 clear HC28; (try clear c1); (try clear c2); (try clear p2); (try clear c3); (try clear c3b0); (try clear p3); (try clear c5); (try clear c7); (try clear c7b0); (try clear c8); (try clear c8b0); (try clear c9); (try clear c10); (try clear c10b0); (try clear c11); (try clear c11b0); (try clear c12); (try clear c12b0 c12b1); (try clear c13); (try clear c13b0); (try clear c14); (try clear c14b0); (try clear c15); (try clear c15b0); (try clear c16); (try clear c18); (try clear c18b0); (try clear c19); (try clear c20); (try clear c20b0 c20b1); (try clear c21); (try clear c21b0 c21b1); (try clear c23); (try clear c23b0); (try clear c25); (try clear c26); (try clear c26b0); (try clear c27); (try clear c29); (try clear c29b0); obtain ⟨kq, x70_27, rfl, HA, HJ27, ⟨mc27, rfl⟩⟩ := hcut
                 cases kq with
                 | zero => exact absurd HA.out (by simp [fold_lower.j6])
                 | succ kj27 =>
                  have H := HA.out; clear HA; simp only [fold_lower.j6] at H
                  by_cases c30 : x70_27 = true
                  ·subst c30; rw [if_pos rfl] at H; obtain rfl := Option.some.inj H; go_wp2; go_ret; exact ⟨si, dr⟩
                  ·replace c30 := Bool.eq_false_iff.mpr c30; subst c30; rw [if_neg nf] at H; have HC31 := Aside0.mk H; clear H
                   go_upto_region 16 with (fail)
                   go_cut [70] (fun v70 wc => ∃ (kq : Nat) (x70_30 : Bool), v70 = .bool x70_30 ∧ Aside0 (fold_lower.j7 kq a0 x70_30 = some r) ∧ Aside0 (kq ≤ kj27) ∧ Drawn0 w wc)
                   case first =>
                    have H := HC31.out; clear HC31
                    by_cases c32 : 330 ≤ a0
                    ·rw [if_pos c32] at H; have c32b0 := decide_eq_true c32; clear c32; (first | rw [c32b0] | (simp only [i64_w, i32_w]; rw [c32b0]) | (have ce_ := c32b0; rw [List.beq_nil_eq] at ce_; rw [ce_]) | skip); have H' := Aside0.mk H; clear H; go_wp2; go_meet
                     case rel => exact ⟨_, (decide (a0 ≤ 375)), si, H', ⟨by have := HJ1.out; have := HJ3.out; have := HJ16.out; have := HJ21.out; have := HJ23.out; have := HJ27.out; first | omega | exact Nat.le_refl _⟩, dr⟩
                    ·rw [if_neg c32] at H; have c32b0 : decide (330 ≤ a0) = false := decide_eq_false c32; clear c32; (first | rw [c32b0] | (simp only [i64_w, i32_w]; rw [c32b0]) | (have ce_ := c32b0; rw [List.beq_nil_eq] at ce_; rw [ce_]) | skip); have H' := Aside0.mk H; clear H; go_wp2; go_meet
                     case rel => exact ⟨_, (false), si, H', ⟨by have := HJ1.out; have := HJ3.out; have := HJ16.out; have := HJ21.out; have := HJ23.out; have := HJ27.out; first | omega | exact Nat.le_refl _⟩, dr⟩
                   case rest =>
                    clear HC31; (try clear c1); (try clear c2); (try clear p2); (try clear c3); (try clear c3b0); (try clear p3); (try clear c5); (try clear c7); (try clear c7b0); (try clear c8); (try clear c8b0); (try clear c9); (try clear c10); (try clear c10b0); (try clear c11); (try clear c11b0); (try clear c12); (try clear c12b0 c12b1); (try clear c13); (try clear c13b0); (try clear c14); (try clear c14b0); (try clear c15); (try clear c15b0); (try clear c16); (try clear c18); (try clear c18b0); (try clear c19); (try clear c20); (try clear c20b0 c20b1); (try clear c21); (try clear c21b0 c21b1); (try clear c23); (try clear c23b0); (try clear c25); (try clear c26); (try clear c26b0); (try clear c27); (try clear c29); (try clear c29b0); (try clear c30); (try clear c32); (try clear c32b0); (try clear p32); obtain ⟨kq, x70_30, rfl, HA, HJ30, ⟨mc30, rfl⟩⟩ := hcut
                    cases kq with
                    | zero => exact absurd HA.out (by simp [fold_lower.j7])
                    | succ kj30 =>
                     have H := HA.out; clear HA; simp only [fold_lower.j7] at H
                     by_cases c33 : x70_30 = true
                     ·subst c33; rw [if_pos rfl] at H; obtain rfl := Option.some.inj H; go_wp2; go_ret; exact ⟨si, dr⟩
                     ·replace c33 := Bool.eq_false_iff.mpr c33; subst c33; rw [if_neg nf] at H
                      by_cases c34 : 7680 ≤ a0
                      ·rw [if_pos c34] at H; have c34b0 := decide_eq_true c34; clear c34
                       by_cases c35 : a0 ≤ 7829
                       ·rw [if_pos c35] at H; have c35b0 := decide_eq_true c35; clear c35; obtain rfl := Option.some.inj H; go_wp2; go_ret; exact ⟨si, dr⟩
                       ·rw [if_neg c35] at H; have c35b0 : decide (a0 ≤ 7829) = false := decide_eq_false c35; clear c35; obtain rfl := Option.some.inj H; go_wp2; go_ret; exact ⟨si, dr⟩
                      ·rw [if_neg c34] at H; have c34b0 : decide (7680 ≤ a0) = false := decide_eq_false c34; clear c34; obtain rfl := Option.some.inj H; go_wp2; go_ret; exact ⟨si, dr⟩
def fold_letter.f (a0 : Int) : Option (Int) := if a0 = 118 then (some (wrap32 (a0 - 1))) else (if a0 = 86 then (some (wrap32 (a0 - 1))) else (if a0 = 106 then (some (wrap32 (a0 - 1))) else (if a0 = 74 then (some (wrap32 (a0 - 1))) else (some a0))))
set_option maxHeartbeats 8000000 in
set_option maxRecDepth 100000 in
theorem fold_letter.calls (a0 : Int) (r : Int) (w : World) (h : fold_letter.f a0 = some r) :
    Calls Tryd.prog 60 #[.int .i32 a0] w fun e w' => e = .returned (.int .i32 r) ∧ Drawn0 w w' := by
  have H : (if a0 = 118 then (some (wrap32 (a0 - 1))) else (if a0 = 86 then (some (wrap32 (a0 - 1))) else (if a0 = 106 then (some (wrap32 (a0 - 1))) else (if a0 = 74 then (some (wrap32 (a0 - 1))) else (some a0))))) = some r := h; clear h
  by_cases c2 : a0 = 118
  · rw [if_pos c2] at H
    have c2b0 := beq_iff_eq.mpr c2; have c2b1 := bne_eq_false_iff_eq.mpr c2; clear c2; obtain rfl := Option.some.inj H; go_enter Tryd.func60, Tryd.ntmps60; go_wp2; go_ret; exact ⟨si, dr⟩
  · rw [if_neg c2] at H
    have c2b0 := beq_eq_false_iff_ne.mpr c2; have c2b1 := bne_iff_ne.mpr c2
    by_cases c3 : a0 = 86
    · rw [if_pos c3] at H
      have c3b0 := beq_iff_eq.mpr c3; have c3b1 := bne_eq_false_iff_eq.mpr c3; clear c3; obtain rfl := Option.some.inj H; go_enter Tryd.func60, Tryd.ntmps60; go_wp2; go_ret; exact ⟨si, dr⟩
    · rw [if_neg c3] at H
      have c3b0 := beq_eq_false_iff_ne.mpr c3; have c3b1 := bne_iff_ne.mpr c3
      by_cases c4 : a0 = 106
      · rw [if_pos c4] at H
        have c4b0 := beq_iff_eq.mpr c4; have c4b1 := bne_eq_false_iff_eq.mpr c4; clear c4; obtain rfl := Option.some.inj H; go_enter Tryd.func60, Tryd.ntmps60; go_wp2; go_ret; exact ⟨si, dr⟩
      · rw [if_neg c4] at H
        have c4b0 := beq_eq_false_iff_ne.mpr c4; have c4b1 := bne_iff_ne.mpr c4
        by_cases c5 : a0 = 74
        · rw [if_pos c5] at H
          have c5b0 := beq_iff_eq.mpr c5; have c5b1 := bne_eq_false_iff_eq.mpr c5; clear c5; obtain rfl := Option.some.inj H; go_enter Tryd.func60, Tryd.ntmps60; go_wp2; go_ret; exact ⟨si, dr⟩
        · rw [if_neg c5] at H
          have c5b0 := beq_eq_false_iff_ne.mpr c5; have c5b1 := bne_iff_ne.mpr c5; obtain rfl := Option.some.inj H; go_enter Tryd.func60, Tryd.ntmps60; go_wp2; go_ret; exact ⟨si, dr⟩
def gCell (s : ByteArray) (i : Nat) : S91 := ⟨(i : Int), ((Utf8.decode s i).2 : Int), ((Utf8.decode s i).1 : Int), Utf.bad s i, if Utf.bad s i = true then bt s i else 0⟩
def gCells (s : ByteArray) : Nat → Nat → List S91
 | 0, _ => []
 | f + 1, i => if i < s.size then gCell s i :: gCells s f (i + (Utf8.decode s i).2) else []
def glyph_Cells.f (a0 : ByteArray) : Option (List S91) := if a0.size ≤ 4294967296 then some (gCells a0 a0.size 0) else none
theorem gCells_end (s : ByteArray) (f i : Nat) (h : ¬ i < s.size) : gCells s f i = [] := by cases f <;> simp [gCells, h]
theorem gCells_step (s : ByteArray) (f i : Nat) (h : i < s.size) : gCells s (f + 1) i = gCell s i :: gCells s f (i + (Utf8.decode s i).2) := by rw [gCells, if_pos h]
theorem R_iterAt {α : Type} {d : Kd α} {e base : Nat} {w : World} {ok : Nat → Prop} {v : Value} {xs : List α} (h : d.R e w base ok v xs) {k : Nat} {s : ByteArray} {pos : Nat} (hk : w.heap[k]? = some (.stringIter s pos)) (pos' : Nat) :
 d.R e (w.iterAt k s pos') base ok v xs :=
 Kd.R_mono (Kd.R_move (Kd.R_bound h) (fun j hj => Lib.iterAt_other w k j s pos' (fun e1 => by
  obtain ⟨_, _, _, q, _, cells, hc⟩ := hj; rw [e1, hk] at hc
  cases hc))) (fun _ hk => hk.1)
theorem R_ne_iter {α : Type} {d : Kd α} {e base : Nat} {w : World} {ok : Nat → Prop} {v : Value} {xs : List α} (h : d.R e w base ok v xs) {k : Nat} {s : ByteArray} {pos : Nat} (hk : w.heap[k]? = some (.stringIter s pos)) : some k ≠ v.ownBlock := by
 intro e1; obtain ⟨inner, ho⟩ := Kd.R_own h; obtain ⟨cells, hc⟩ := own_typed ho k e1.symm; rw [hk] at hc; cases hc
theorem iter_kept {w w1 : World} {k : Nat} {s : ByteArray} {pos : Nat} {row : Option Nat} {o : Obj} (hk : w.heap[k]? = some (.stringIter s pos)) (hg : (w.alloc o).grownBy w1 row) (hr : some k ≠ row) : w1.heap[k]? = some (.stringIter s pos) := by
 have hlt : k < w.heap.size := (Array.getElem?_eq_some_iff.1 hk).1; rw [hg.block k (by simp; omega) hr]; exact (Lib.alloc_old w o k hlt).trans hk
theorem infoCell : (Tryd.prog.info? 91).map (fun i => (i.zero, i.size, i.bytes)) = some (some (.agg #[(.int .i64 0), (.int .i64 0), (.int .i32 0), (.bool false), (.int .u8 0)]), 5, 24) := by kernel_rfl
set_option maxHeartbeats 4000000 in
set_option maxRecDepth 100000 in
theorem glyph_Cells.calls (a0 : ByteArray) (r : List S91) (w : World) (hT : Lib.Utf8Tabs 0 1 w) (h : glyph_Cells.f a0 = some r) :
 Calls Tryd.prog 45 #[.string a0] w fun e w' => ∃ v0_ : Value, e = .returned (v0_) ∧ Kd.R k91 91 w' w.heap.size (fun _ => True) v0_ r ∧ Below w.heap.size w w' := by
 unfold glyph_Cells.f at h
 by_cases hs : a0.size ≤ 4294967296
 ·rw [if_pos hs] at h; obtain rfl := Option.some.inj h; clear h; have HT := Aside0.mk hT; clear hT; go_enter Tryd.func45, Tryd.ntmps45; go_wp2
  go_loopw [3] (fun v wr => ∃ (pos fuel : Nat) (acc : List S91), Aside0 (Kd.R k91 91 wr w.heap.size (fun _ => True) v acc) ∧ wr.heap[w.heap.size]? = some (.stringIter a0 pos) ∧ Aside0 (Below w.heap.size w wr) ∧ Aside0 (acc ++ gCells a0 fuel pos = gCells a0 a0.size 0) ∧ a0.size ≤ pos + fuel ∧ acc.length ≤ pos) (fun _ wr => a0.size - wr.iterPos w.heap.size)
  case atStart =>
   exact ⟨0, a0.size, [], ⟨Kd.R_nil _ _ _ _ _⟩, World.iter_heap _ _ _, ⟨(Below.refl _ w).alloc (Nat.le_refl _) _⟩, ⟨rfl⟩, by omega, by simp⟩
  case round =>
   obtain ⟨pos, fuel, acc, HO, hit, HB, HA, hfu, hal⟩ := hrel; have hsz : w.heap.size < wr.heap.size := (Array.getElem?_eq_some_iff.1 hit).1
   by_cases hp : pos < a0.size
   ·have hnx : ∀ ty, (Instr.next (.pointer (some ⟨w.heap.size, 0, none⟩)) true ty).run Tryd.prog wr = _ := fun ty => Lib.run_next_any_at wr w.heap.size a0 pos ty hit hp
    have hw1 := Utf.width_pos a0 pos hp; have hw2 := Utf.width_le a0 pos hp; have hr1 := Utf.rune_le a0 pos; obtain ⟨f, rfl⟩ : ∃ f, fuel = f + 1 := ⟨fuel - 1, by omega⟩
    have HA2 : Aside0 ((acc ++ [gCell a0 pos]) ++ gCells a0 f (pos + (Utf8.decode a0 pos).2) = gCells a0 a0.size 0) := ⟨by have := HA.out; rw [gCells_step a0 f pos hp] at this; rw [← this]; simp⟩; have HO1 := Aside0.mk (R_iterAt HO.out hit (pos + (Utf8.decode a0 pos).2)); have hit1 := Aside0.mk (Lib.iterAt_heap wr w.heap.size a0 pos (pos + (Utf8.decode a0 pos).2) hit); have HB1 := Aside0.mk (Lib.below_iterAt HB.out (Nat.le_refl _) a0 (pos + (Utf8.decode a0 pos).2)); have hz1 := Aside0.mk (Lib.iterAt_size wr w.heap.size a0 (pos + (Utf8.decode a0 pos).2)); have hG : Aside0 (gCell a0 pos = ⟨(pos : Int), ((Utf8.decode a0 pos).2 : Int), ((Utf8.decode a0 pos).1 : Int), Utf.bad a0 pos, if Utf.bad a0 pos = true then bt a0 pos else 0⟩) := ⟨rfl⟩; have hdg := Aside0.mk (Utf.decodeGo_tail a0 pos hp); have hbd := Aside0.mk (Utf.bad_iff a0 pos); have hrl := Aside0.mk (Utf.runeLen_good a0 pos); have hby := Aside0.mk (bt_at a0 (pos : Int)); clear HO HB HA; obtain ⟨R, hR⟩ : ∃ R, (Utf8.decode a0 pos).1 = R := ⟨_, rfl⟩
    obtain ⟨K, hK⟩ : ∃ K, (Utf8.decode a0 pos).2 = K := ⟨_, rfl⟩
    have hD : Aside0 (Utf8.decode a0 pos = (R, K)) := ⟨by rw [← hR, ← hK]⟩; rw [hR, hK] at hG hbd; rw [hK] at hw1 hw2 HA2 HO1 hit1 HB1 hz1; rw [hR] at hr1; rw [hD.out] at hdg hrl; simp only [hR, hK] at hnx; clear hR hK; obtain ⟨W1, hW1⟩ : ∃ W1, W1 = wr.iterAt w.heap.size a0 (pos + K) := ⟨_, rfl⟩
    rw [← hW1] at hnx HO1 hit1 HB1 hz1; clear hW1
    by_cases hb : R = 65533
    ·subst hb
     by_cases hk1 : K = 1
     ·subst hk1; have hbf : Utf.bad a0 pos = true := hbd.out.2 ⟨rfl, rfl⟩; obtain ⟨Y, hY⟩ : ∃ Y, bt a0 (pos : Int) = Y := ⟨_, rfl⟩
      have hG2 : Aside0 (gCell a0 pos = ⟨(pos : Int), 1, 65533, true, Y⟩) := ⟨by rw [hG.out, hbf, ← hY]; rfl⟩; have hy0 : ((a0[pos]'hp).toNat : Int) = Y := (hby.out hp).trans hY; clear hbf hG hbd hrl hby hD hY; go_wp2_with (first | (go_at_call 61; refine (Tryd.utf8_RuneLen _ _).mono ?_; rintro e w' ⟨rfl, rfl⟩; rw [show Lib.runeLen 65533 = 3 from by decide]) | (go_at_call 62; refine (Tryd.utf8_DecodeRuneInString _ _ (Utf.tabs_step HT.out HB1.out)).mono ?_; rintro e w2 ⟨rfl, hb2⟩; rw [hdg.out]; clear hdg; have HO2 := Aside0.mk (Kd.R_below HO1.out hb2); have HB2 := Aside0.mk (below_step HB1.out hb2); have hit2 := Aside0.mk ((hb2.block w.heap.size (by have := hz1.out; omega)).trans hit1.out); clear hb2 HO1 HB1 hit1) | (at_builtin; refine Kd.R_append k91 (w0 := w) w.heap.size rfl (.tmp 40) (.tmp 42) 88 91 (.agg #[(.int .i64 0), (.int .i64 0), (.int .i32 0), (.bool false), (.int .u8 0)]) 24 rfl Tryd.underlying88 infoCell rfl (by decide) (by omega) u3 acc (⟨(pos : Int), 1, 65533, true, Y⟩ : S91) [.int .i64 (pos : Int), .int .i64 1, .int .i32 65533, .bool true, .int .u8 Y] (fun _ => True) (fun _ => False) rfl (by first | (go_simp; done) | (go_simp; rfl)) ?aP (fun _ h => h.elim) (fun _ _ => trivial) ?aO ?aB ?aS ?aL ?_; (case aP => exact k91_mkM _ _ _ (⟨(pos : Int), 1, 65533, true, Y⟩ : S91)); (case aO => exact Kd.R_alloc HO2.out _); (case aB => exact HB2.out.alloc (by have := HB2.out.size; omega) _); (case aS => have := HB2.out.size; simp; omega); (case aL => omega); intro v1 w1 hown hbel hgrow _; obtain ⟨A1, c1, rfl⟩ := Kd.R_slice hown)); have hit3 := iter_kept hit2.out hgrow (R_ne_iter HO2.out hit2.out)
      go_roundw
      case rel => exact ⟨pos + 1, f, acc ++ [(⟨(pos : Int), 1, 65533, true, Y⟩ : S91)], ⟨by rw [List.length_append] at hown; exact hown⟩, hit3, ⟨hbel⟩, ⟨by rw [← hG2.out]; exact HA2.out⟩, by omega, by simp; omega⟩
      case measure =>
       simp only [World.iterPos, hit3, hit]
       omega
     ·have hbf : Utf.bad a0 pos = false := Bool.eq_false_iff.2 (fun e => hk1 (hbd.out.1 e).2); have hG2 : Aside0 (gCell a0 pos = ⟨(pos : Int), (K : Int), 65533, false, 0⟩) := ⟨by rw [hG.out, hbf]; rfl⟩; have hK3 : K = 3 := by have := hrl.out hbf; rw [show Lib.runeLen ((65533 : Nat) : Int) = 3 from by decide] at this; dsimp only at this; omega
      subst hK3; have hG2 : Aside0 (gCell a0 pos = ⟨(pos : Int), 3, 65533, false, 0⟩) := ⟨hG2.out⟩; clear hbf hG hbd hrl hby hD; go_wp2_with (first | (go_at_call 61; refine (Tryd.utf8_RuneLen _ _).mono ?_; rintro e w' ⟨rfl, rfl⟩; rw [show Lib.runeLen 65533 = 3 from by decide]) | (go_at_call 62; refine (Tryd.utf8_DecodeRuneInString _ _ (Utf.tabs_step HT.out HB1.out)).mono ?_; rintro e w2 ⟨rfl, hb2⟩; rw [hdg.out]; clear hdg; have HO2 := Aside0.mk (Kd.R_below HO1.out hb2); have HB2 := Aside0.mk (below_step HB1.out hb2); have hit2 := Aside0.mk ((hb2.block w.heap.size (by have := hz1.out; omega)).trans hit1.out); clear hb2 HO1 HB1 hit1) | (at_builtin; refine Kd.R_append k91 (w0 := w) w.heap.size rfl (.tmp 40) (.tmp 42) 88 91 (.agg #[(.int .i64 0), (.int .i64 0), (.int .i32 0), (.bool false), (.int .u8 0)]) 24 rfl Tryd.underlying88 infoCell rfl (by decide) (by omega) u3 acc (⟨(pos : Int), 3, 65533, false, 0⟩ : S91) [.int .i64 (pos : Int), .int .i64 3, .int .i32 65533, .bool false, .int .u8 0] (fun _ => True) (fun _ => False) rfl (by first | (go_simp; done) | (go_simp; rfl)) ?aP (fun _ h => h.elim) (fun _ _ => trivial) ?aO ?aB ?aS ?aL ?_; (case aP => exact k91_mkM _ _ _ (⟨(pos : Int), 3, 65533, false, 0⟩ : S91)); (case aO => exact Kd.R_alloc HO2.out _); (case aB => exact HB2.out.alloc (by have := HB2.out.size; omega) _); (case aS => have := HB2.out.size; simp; omega); (case aL => omega); intro v1 w1 hown hbel hgrow _; obtain ⟨A1, c1, rfl⟩ := Kd.R_slice hown)); have hit3 := iter_kept hit2.out hgrow (R_ne_iter HO2.out hit2.out)
      go_roundw
      case rel => exact ⟨pos + 3, f, acc ++ [(⟨(pos : Int), 3, 65533, false, 0⟩ : S91)], ⟨by rw [List.length_append] at hown; exact hown⟩, hit3, ⟨hbel⟩, ⟨by rw [← hG2.out]; exact HA2.out⟩, by omega, by simp; omega⟩
      case measure =>
       simp only [World.iterPos, hit3, hit]
       omega
    ·have hbf : Utf.bad a0 pos = false := Bool.eq_false_iff.2 (fun e => hb (hbd.out.1 e).1); have hrn : Lib.runeLen (R : Int) = (K : Int) := hrl.out hbf; have hG2 : Aside0 (gCell a0 pos = ⟨(pos : Int), (K : Int), (R : Int), false, 0⟩) := ⟨by rw [hG.out, hbf]; rfl⟩; clear hbf hG hdg hbd hrl hby hD; have hbi : ((R : Int) == 65533) = false := beq_eq_false_iff_ne.2 (by omega); go_wp2_with (first | (go_at_call 61; refine (Tryd.utf8_RuneLen _ _).mono ?_; rintro e w' ⟨rfl, rfl⟩; rw [hrn]; clear hrn) | (at_builtin; refine Kd.R_append k91 (w0 := w) w.heap.size rfl (.tmp 40) (.tmp 42) 88 91 (.agg #[(.int .i64 0), (.int .i64 0), (.int .i32 0), (.bool false), (.int .u8 0)]) 24 rfl Tryd.underlying88 infoCell rfl (by decide) (by omega) u3 acc (⟨(pos : Int), (K : Int), (R : Int), false, 0⟩ : S91) [.int .i64 (pos : Int), .int .i64 (K : Int), .int .i32 (R : Int), .bool false, .int .u8 0] (fun _ => True) (fun _ => False) rfl (by first | (go_simp; done) | (go_simp; rfl)) ?aP (fun _ h => h.elim) (fun _ _ => trivial) ?aO ?aB ?aS ?aL ?_; (case aP => exact k91_mkM _ _ _ (⟨(pos : Int), (K : Int), (R : Int), false, 0⟩ : S91)); (case aO => exact Kd.R_alloc HO1.out _); (case aB => exact HB1.out.alloc (by have := HB1.out.size; omega) _); (case aS => have := HB1.out.size; simp; omega); (case aL => omega); intro v1 w1 hown hbel hgrow _; obtain ⟨A1, c1, rfl⟩ := Kd.R_slice hown)); have hit2 := iter_kept hit1.out hgrow (R_ne_iter HO1.out hit1.out)
     go_roundw
     case rel => exact ⟨pos + K, f, acc ++ [(⟨(pos : Int), (K : Int), (R : Int), false, 0⟩ : S91)], ⟨by rw [List.length_append] at hown; exact hown⟩, hit2, ⟨hbel⟩, ⟨by rw [← hG2.out]; exact HA2.out⟩, by omega, by simp; omega⟩
     case measure =>
      simp only [World.iterPos, hit2, hit]
      omega
   ·have hnx : ∀ ty, (Instr.next (.pointer (some ⟨w.heap.size, 0, none⟩)) true ty).run Tryd.prog wr = _ := fun ty => Lib.run_next_end_at wr w.heap.size a0 pos ty hit hp
    go_wp2; go_ret; have HA' := HA.out; rw [gCells_end a0 fuel pos hp, List.append_nil] at HA'; rw [← HA']; exact ⟨_, rfl, HO.out, HB.out⟩
 ·rw [if_neg hs] at h; cases h
def kind_in.f (a0 : Int) (a1 : Int) (a2 : Int) : Option (Bool) := if a1 ≤ a0 then (some (decide (a0 ≤ a2))) else (some false)
set_option maxHeartbeats 8000000 in
set_option maxRecDepth 100000 in
theorem kind_in.calls (a0 : Int) (a1 : Int) (a2 : Int) (r : Bool) (w : World) (h : kind_in.f a0 a1 a2 = some r) :
    Calls Tryd.prog 81 #[.int .i32 a0, .int .i32 a1, .int .i32 a2] w fun e w' => e = .returned (.bool r) ∧ Drawn0 w w' := by
  have H : (if a1 ≤ a0 then (some (decide (a0 ≤ a2))) else (some false)) = some r := h; clear h
  by_cases c4 : a1 ≤ a0
  · rw [if_pos c4] at H
    have c4b0 : decide (a1 ≤ a0) = true := decide_eq_true c4; clear c4; obtain rfl := Option.some.inj H; go_enter Tryd.func81, Tryd.ntmps81; go_wp2; go_ret; exact ⟨si, dr⟩
  · rw [if_neg c4] at H
    have c4b0 : decide (a1 ≤ a0) = false := decide_eq_false c4; clear c4; obtain rfl := Option.some.inj H; go_enter Tryd.func81, Tryd.ntmps81; go_wp2; go_ret; exact ⟨si, dr⟩
mutual
def kind_Of.j0 : Nat → Int → Int → Bool → Option (Int)
 | 0, _, _, _ => none
 | k + 1, x0, x3, x4 => if x4 = true then (some 4) else (if x3 = 10 then (kind_Of.j1 k x0 x3 (x3 == 10)) else (if x3 = 13 then (kind_Of.j1 k x0 x3 (x3 == 13)) else (if x3 = 133 then (kind_Of.j1 k x0 x3 (x3 == 133)) else (if x3 = 8232 then (kind_Of.j1 k x0 x3 (x3 == 8232)) else (kind_Of.j1 k x0 x3 (x3 == 8233))))))
def kind_Of.j1 : Nat → Int → Int → Bool → Option (Int)
 | 0, _, _, _ => none
 | k + 1, x0, x3, x11 => if x11 = true then (some 6) else (if x3 = 9 then (kind_Of.j2 k x0 x3 (x3 == 9)) else (if x3 = 11 then (kind_Of.j2 k x0 x3 (x3 == 11)) else (if x3 = 12 then (kind_Of.j2 k x0 x3 (x3 == 12)) else (if x3 = 32 then (kind_Of.j2 k x0 x3 (x3 == 32)) else (if x3 = 160 then (kind_Of.j2 k x0 x3 (x3 == 160)) else (if x3 = 8239 then (kind_Of.j2 k x0 x3 (x3 == 8239)) else (kind_Of.j2 k x0 x3 (x3 == 12288))))))))
def kind_Of.j2 : Nat → Int → Int → Bool → Option (Int)
 | 0, _, _, _ => none
 | k + 1, x0, x3, x17 => if x17 = true then (some 5) else (if x3 = 170 then (kind_Of.j3 k x0 x3 (x3 == 170)) else (if x3 = 181 then (kind_Of.j3 k x0 x3 (x3 == 181)) else (if x3 = 186 then (kind_Of.j3 k x0 x3 (x3 == 186)) else (kind_Of.j3 k x0 x3 (x3 == 9676)))))
def kind_Of.j3 : Nat → Int → Int → Bool → Option (Int)
 | 0, _, _, _ => none
 | k + 1, x0, x3, x25 => if x25 = true then (some 1) else (if x3 = 215 then (kind_Of.j4 k x0 x3 (x3 == 215)) else (kind_Of.j4 k x0 x3 (x3 == 247)))
def kind_Of.j4 : Nat → Int → Int → Bool → Option (Int)
 | 0, _, _, _ => none
 | k + 1, x0, x3, x30 => if x30 = true then (some 0) else (if x3 = 894 then (some 0) else (if x3 = 903 then (some 7) else ((kind_in.f x0 48 57).bind fun tU1 => (if tU1 = true then (kind_Of.j5 k x0 tU1) else ((kind_in.f x0 1632 1641).bind fun tU2 => (kind_Of.j5 k x0 tU2))))))
def kind_Of.j5 : Nat → Int → Bool → Option (Int)
 | 0, _, _ => none
 | k + 1, x0, x37 => if x37 = true then (some 3) else ((kind_in.f x0 65 90).bind fun tU3 => (if tU3 = true then (kind_Of.j6 k x0 tU3) else ((kind_in.f x0 97 122).bind fun tU4 => (if tU4 = true then (kind_Of.j6 k x0 tU4) else ((kind_in.f x0 192 687).bind fun tU5 => (if tU5 = true then (kind_Of.j6 k x0 tU5) else ((kind_in.f x0 880 1153).bind fun tU6 => (if tU6 = true then (kind_Of.j6 k x0 tU6) else ((kind_in.f x0 1162 1327).bind fun tU7 => (if tU7 = true then (kind_Of.j6 k x0 tU7) else ((kind_in.f x0 7680 8191).bind fun tU8 => (if tU8 = true then (kind_Of.j6 k x0 tU8) else ((kind_in.f x0 64256 64262).bind fun tU9 => (kind_Of.j6 k x0 tU9))))))))))))))
def kind_Of.j6 : Nat → Int → Bool → Option (Int)
 | 0, _, _ => none
 | k + 1, x0, x42 => if x42 = true then (some 1) else ((kind_in.f x0 768 879).bind fun tU10 => (if tU10 = true then (kind_Of.j7 k x0 tU10) else ((kind_in.f x0 1155 1161).bind fun tU11 => (if tU11 = true then (kind_Of.j7 k x0 tU11) else ((kind_in.f x0 7616 7679).bind fun tU12 => (if tU12 = true then (kind_Of.j7 k x0 tU12) else ((kind_in.f x0 8400 8447).bind fun tU13 => (kind_Of.j7 k x0 tU13))))))))
def kind_Of.j7 : Nat → Int → Bool → Option (Int)
 | 0, _, _ => none
 | k + 1, x0, x57 => if x57 = true then (some 2) else ((kind_in.f x0 8194 8202).bind fun tU14 => (if tU14 = true then (some 5) else ((kind_in.f x0 33 126).bind fun tU15 => (if tU15 = true then (some 7) else ((kind_in.f x0 161 191).bind fun tU16 => (if tU16 = true then (some 7) else ((kind_in.f x0 8208 8231).bind fun tU17 => (if tU17 = true then (some 7) else ((kind_in.f x0 8240 8286).bind fun tU18 => (if tU18 = true then (some 7) else (some 0)))))))))))
end
def kind_Of.f (k : Nat) (a0 : Int) : Option (Int) := if a0 = 39 then (kind_Of.j0 k a0 a0 (a0 == 39)) else (if a0 = 45 then (kind_Of.j0 k a0 a0 (a0 == 45)) else (if a0 = 173 then (kind_Of.j0 k a0 a0 (a0 == 173)) else (if a0 = 8204 then (kind_Of.j0 k a0 a0 (a0 == 8204)) else (if a0 = 8205 then (kind_Of.j0 k a0 a0 (a0 == 8205)) else (kind_Of.j0 k a0 a0 (a0 == 8217))))))
theorem be_ (x y : Int) : (x == y) = decide (x = y) := rfl
def inB (x lo hi : Int) : Bool := decide (lo ≤ x ∧ x ≤ hi)
theorem in_s (x lo hi : Int) : kind_in.f x lo hi = some (inB x lo hi) := by
 unfold kind_in.f inB
 by_cases h : lo ≤ x
 ·rw [if_pos h]; simp [h]
 ·rw [if_neg h]; simp [h]
def kv7 (x : Int) (b : Bool) : Int := if b then 2 else if inB x 8194 8202 then 5 else if inB x 33 126 then 7 else if inB x 161 191 then 7 else if inB x 8208 8231 then 7 else if inB x 8240 8286 then 7 else 0
def kv6 (x : Int) (b : Bool) : Int := if b then 1 else kv7 x (inB x 768 879 || inB x 1155 1161 || inB x 7616 7679 || inB x 8400 8447)
def kv5 (x : Int) (b : Bool) : Int := if b then 3 else kv6 x (inB x 65 90 || inB x 97 122 || inB x 192 687 || inB x 880 1153 || inB x 1162 1327 || inB x 7680 8191 || inB x 64256 64262)
def kv4 (x : Int) (b : Bool) : Int := if b then 0 else if x == 894 then 0 else if x == 903 then 7 else kv5 x (inB x 48 57 || inB x 1632 1641)
def kv3 (x : Int) (b : Bool) : Int := if b then 1 else kv4 x (x == 215 || x == 247)
def kv2 (x : Int) (b : Bool) : Int := if b then 5 else kv3 x (x == 170 || x == 181 || x == 186 || x == 9676)
def kv1 (x : Int) (b : Bool) : Int := if b then 6 else kv2 x (x == 9 || x == 11 || x == 12 || x == 32 || x == 160 || x == 8239 || x == 12288)
def kv0 (x : Int) (b : Bool) : Int := if b then 4 else kv1 x (x == 10 || x == 13 || x == 133 || x == 8232 || x == 8233)
def kvF (x : Int) : Int := kv0 x (x == 39 || x == 45 || x == 173 || x == 8204 || x == 8205 || x == 8217)
theorem kv7_eq (k : Nat) (x : Int) (b : Bool) (r : Int) (h : kind_Of.j7 k x b = some r) : r = kv7 x b := by
 cases k with
 | zero => simp [kind_Of.j7] at h
 | succ k =>
  rw [kind_Of.j7] at h; try simp only [in_s, Option.bind_some] at h
  repeat' split at h
  all_goals first | (obtain rfl := Option.some.inj h; simp_all [kv7, be_])
theorem kv6_eq (k : Nat) (x : Int) (b : Bool) (r : Int) (h : kind_Of.j6 k x b = some r) : r = kv6 x b := by
 cases k with
 | zero => simp [kind_Of.j6] at h
 | succ k =>
  rw [kind_Of.j6] at h; try simp only [in_s, Option.bind_some] at h
  repeat' split at h
  all_goals first | (obtain rfl := Option.some.inj h; simp_all [kv6, be_]) | (have h2 := kv7_eq _ _ _ _ h; rw [h2]; clear h2 h; simp_all [kv6, be_])
theorem kv5_eq (k : Nat) (x : Int) (b : Bool) (r : Int) (h : kind_Of.j5 k x b = some r) : r = kv5 x b := by
 cases k with
 | zero => simp [kind_Of.j5] at h
 | succ k =>
  rw [kind_Of.j5] at h; try simp only [in_s, Option.bind_some] at h
  repeat' split at h
  all_goals first | (obtain rfl := Option.some.inj h; simp_all [kv5, be_]) | (have h2 := kv6_eq _ _ _ _ h; rw [h2]; clear h2 h; simp_all [kv5, be_])
theorem kv4_eq (k : Nat) (x : Int) (b : Bool) (r : Int) (h : kind_Of.j4 k x x b = some r) : r = kv4 x b := by
 cases k with
 | zero => simp [kind_Of.j4] at h
 | succ k =>
  rw [kind_Of.j4] at h; try simp only [in_s, Option.bind_some] at h
  repeat' split at h
  all_goals first | (obtain rfl := Option.some.inj h; simp_all [kv4, be_]) | (have h2 := kv5_eq _ _ _ _ h; rw [h2]; clear h2 h; simp_all [kv4, be_])
theorem kv3_eq (k : Nat) (x : Int) (b : Bool) (r : Int) (h : kind_Of.j3 k x x b = some r) : r = kv3 x b := by
 cases k with
 | zero => simp [kind_Of.j3] at h
 | succ k =>
  rw [kind_Of.j3] at h; try simp only [in_s, Option.bind_some] at h
  repeat' split at h
  all_goals first | (obtain rfl := Option.some.inj h; simp_all [kv3, be_]) | (have h2 := kv4_eq _ _ _ _ h; rw [h2]; clear h2 h; simp_all [kv3, be_])
theorem kv2_eq (k : Nat) (x : Int) (b : Bool) (r : Int) (h : kind_Of.j2 k x x b = some r) : r = kv2 x b := by
 cases k with
 | zero => simp [kind_Of.j2] at h
 | succ k =>
  rw [kind_Of.j2] at h; try simp only [in_s, Option.bind_some] at h
  repeat' split at h
  all_goals first | (obtain rfl := Option.some.inj h; simp_all [kv2, be_]) | (have h2 := kv3_eq _ _ _ _ h; rw [h2]; clear h2 h; simp_all [kv2, be_])
theorem kv1_eq (k : Nat) (x : Int) (b : Bool) (r : Int) (h : kind_Of.j1 k x x b = some r) : r = kv1 x b := by
 cases k with
 | zero => simp [kind_Of.j1] at h
 | succ k =>
  rw [kind_Of.j1] at h; try simp only [in_s, Option.bind_some] at h
  repeat' split at h
  all_goals first | (obtain rfl := Option.some.inj h; simp_all [kv1, be_]) | (have h2 := kv2_eq _ _ _ _ h; rw [h2]; clear h2 h; simp_all [kv1, be_])
theorem kv0_eq (k : Nat) (x : Int) (b : Bool) (r : Int) (h : kind_Of.j0 k x x b = some r) : r = kv0 x b := by
 cases k with
 | zero => simp [kind_Of.j0] at h
 | succ k =>
  rw [kind_Of.j0] at h; try simp only [in_s, Option.bind_some] at h
  repeat' split at h
  all_goals first | (obtain rfl := Option.some.inj h; simp_all [kv0, be_]) | (have h2 := kv1_eq _ _ _ _ h; rw [h2]; clear h2 h; simp_all [kv0, be_])
theorem kvF_eq (k : Nat) (x r : Int) (h : kind_Of.f k x = some r) : r = kvF x := by
 unfold kind_Of.f at h
 repeat' split at h
 all_goals (have h2 := kv0_eq _ _ _ _ h; rw [h2]; clear h2 h; simp_all [kvF, be_])
set_option maxHeartbeats 8000000 in
set_option maxRecDepth 100000 in
theorem kind_Of.calls (k : Nat) (a0 : Int) (r : Int) (w : World) (h : kind_Of.f k a0 = some r) :
 Calls Tryd.prog 64 #[.int .i32 a0] w fun e w' => e = .returned (.int .i64 r) ∧ Drawn0 w w' := by
 have HR := Aside0.mk (kvF_eq k a0 r h); clear h; go_enter Tryd.func64, Tryd.ntmps64; go_wp2_with (go_at_call 81; (with_reducible refine (kind_in.calls a0 _ _ _ _ (in_s a0 _ _)).mono ?_); rintro e w' ⟨rfl, ⟨nd, rfl⟩⟩)
 all_goals (go_ret; exact ⟨by rw [HR.out]; simp_all [be_, kvF, kv0, kv1, kv2, kv3, kv4, kv5, kv6, kv7], dr⟩)
end Go.Proofs.YtcpbalnbgmjhjaaDoor.Q
