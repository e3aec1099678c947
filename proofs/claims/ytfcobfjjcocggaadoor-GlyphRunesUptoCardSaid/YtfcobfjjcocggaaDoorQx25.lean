-- Printed by hprint.py (this session's program over the kit's print) out of the translation; the parts 'by hand' are the session's own.
import Derived.Test.YtfcobfjjcocggaaDoorQx0
namespace Go.Proofs.YtfcobfjjcocggaaDoor.Q
open Go.RowKit Go.Proofs.YtfcobfjjcocggaaDoorW.PrintWords Go.Proofs.YtfcobfjjcocggaaDoorW.PrintLast Go.Proofs.YtfcobfjjcocggaaDoorW.PrintMore
attribute [local go_sem] max2_int min2_int max_two min_two max_three min_three max_four min_four   -- for this text's walks alone
set_option linter.unusedVariables false
set_option linter.unusedSimpArgs false

/-! ### glyph_Back: function 18: by hand -/
def gBack (l : List Int) : List UInt8 := l.flatMap (fun x => (Utf8.encode x).data.toList)
def glyph_Back.f (a0 : List Int) : Option ByteArray := some ⟨(gBack a0).toArray⟩
theorem run_forIn_runes {P : Program} {w : World} (f : Value → ByteArray → Sem (ForInStep ByteArray))
    (hf : ∀ n r, (f (.int .i32 n) r).run P w = .ok (.yield (r ++ Utf8.encode n)) w) : ∀ (ns : List Int) (r0 : ByteArray),
    (forIn (ns.map (Value.int .i32)) r0 f).run P w = .ok (ns.foldl (fun r n => r ++ Utf8.encode n) r0) w
  | [], r0 => by simp [Sem.run_pure]
  | n :: ns, r0 => by
    simp only [List.map_cons, List.forIn_cons, Sem.run_bind, hf, Result.andThen, List.foldl_cons]
    exact run_forIn_runes f hf ns _
theorem run_runesToString {P : Program} (w : World) (a : Addr) (len cap : Nat) (ns : List Int)
    (h : (loadCells a len).run P w = .ok (ns.map (Value.int .i32)).toArray w) :
    (Conv.runesToString (.slice (some a) len cap)).run P w = .ok (.string (ns.foldl (fun r n => r ++ Utf8.encode n) ByteArray.empty)) w := by
  unfold Conv.runesToString
  simp only [Sem.run_bind, h, Result.andThen, List.forIn_toArray]
  rw [run_forIn_runes _ (by intro n r; simp [Sem.run_pure])]
  simp [Sem.run_pure]
theorem foldl_back : ∀ (ns : List Int) (r0 : ByteArray), (ns.foldl (fun r n => r ++ Utf8.encode n) r0).data.toList = r0.data.toList ++ gBack ns
  | [], r0 => by simp [gBack]
  | n :: ns, r0 => by
    rw [List.foldl_cons, foldl_back ns]
    simp [gBack, ByteArray.data_append]
theorem string_of_runes {P : Program} {w : World} {src dst e : TypeId} {A : Option Addr} {n c : Nat} {xs : List Int} (hs : P.underlying src = some (.slice e)) (he : P.underlying e = some (.int .i32)) (hd : P.underlying dst = some .string)
    (h0 : (Kd.int .i32).C w A n xs) : (convert src dst (.slice A n c)).run P w = .ok (.string ⟨(gBack xs).toArray⟩) w := by
  have h : ReadsInt w .i32 A n xs := Kd.reads_of_C (enc := Value.int .i32) (d := (0 : Int)) (h1 := fun _ => rfl) h0
  have hn : xs.length = n := h.1
  rcases A with _ | ad
  · have h0 : n = 0 := by
      rcases Nat.eq_zero_or_pos n with h0 | h0
      · exact h0
      · obtain ⟨ad, h', _⟩ := h.2.2 h0
        cases h'
    subst h0
    obtain rfl : xs = [] := List.eq_nil_of_length_eq_zero hn
    simp [convert, run_underlying hs, run_underlying he, run_underlying hd, Conv.runesToString, Sem.run_pure, gBack]
    rfl
  · have hl : (loadCells ad n).run P w = .ok (xs.map (Value.int .i32)).toArray w := by
      have := run_loadCells_list (P := P) w ad (xs.map (Value.int .i32)) (fun j v hj => by
        have hjl : j < xs.length := by
          rcases Nat.lt_or_ge j xs.length with h' | h'
          · exact h'
          · rw [List.getElem?_eq_none (by rw [List.length_map]; exact h')] at hj
            cases hj
        obtain ⟨ad', he', hc⟩ := h.2.2 (by omega)
        injection he' with he'
        subst he'
        rw [hc j (by omega)]
        rw [List.getElem?_map, List.getElem?_eq_getElem hjl] at hj
        simp at hj
        subst hj
        simp [List.getD_eq_getElem?_getD, List.getElem?_eq_getElem hjl])
      simpa [hn] using this
    have hr := run_runesToString (P := P) w ad n c xs hl
    have hb : (xs.foldl (fun r n => r ++ Utf8.encode n) ByteArray.empty) = ⟨(gBack xs).toArray⟩ := by
      apply ByteArray.ext
      apply Array.ext'
      rw [foldl_back]
      simp
    rw [hb] at hr
    simp [convert, run_underlying hs, run_underlying he, run_underlying hd, hr]
set_option maxHeartbeats 1000000 in
set_option maxRecDepth 100000 in
theorem glyph_Back.calls (A0 : Option Addr) (c0 : Nat) (l0 : List Int) (r : ByteArray) (w : World) (hr0 : Kd.C (Kd.int .i32) w A0 l0.length l0) (hc0 : l0.length ≤ c0) (h : glyph_Back.f l0 = some r) :
    Calls Tryd.prog 18 #[.slice A0 l0.length c0] w fun e w' => e = .returned (.string r) ∧ Below w.heap.size w w' := by
  obtain rfl := Option.some.inj h
  clear h
  have hcv := string_of_runes (P := Tryd.prog) (c := c0) Tryd.underlying26 Tryd.underlying21 Tryd.underlying9 hr0
  clear hr0 hc0
  obtain ⟨T, hT⟩ : ∃ T, gBack l0 = T := ⟨_, rfl⟩
  rw [hT] at hcv ⊢
  clear hT
  go_enter Tryd.func18, Tryd.ntmps18
  go_wp2
  go_ret
  exact ⟨rfl, Below.refl _ _⟩

end Go.Proofs.YtfcobfjjcocggaaDoor.Q
