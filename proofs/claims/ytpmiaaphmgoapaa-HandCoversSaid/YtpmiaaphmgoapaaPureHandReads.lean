/-
  Every Read, and how many words are lost: the pieces' text by both ways.
-/
import Derived.Test.YtpmiaaphmgoapaaPureHand
import Derived.Test.YtpmiaaphmgoapaaHxf22
import Derived.Test.YtpmiaaphmgoapaaHxf14
import Derived.Test.YtpmiaaphmgoapaaHxf25
import Derived.Test.YtpmiaaphmgoapaaHxf16
import Derived.Test.YtpmiaaphmgoapaaHxf15
import Derived.Test.YtpmiaaphmgoapaaHxf5
import Derived.Test.YtpmiaaphmgoapaaHxf12
import Derived.Test.YtpmiaaphmgoapaaHxf9
namespace Go.Proofs.Ytpmiaaphmgoapaa.Pure
open Go.RowKit Go.Proofs Go.Proofs.Ytpmiaaphmgoapaa.H Go.Proofs.YtpmiaaphmgoapaaW.PrintWords Go.Proofs.YtpmiaaphmgoapaaW.PrintLast Go.Proofs.YtpmiaaphmgoapaaW.PrintMore
def numsH (l : List UInt8) : List Int := l.map fun b => (b.toNat : Int)
theorem numsH_bytes (l : List UInt8) (s : ByteArray) : numsH l ++ bytesOf s = numsH (l ++ s.data.toList) := by
  unfold numsH bytesOf
  rw [List.map_append]
theorem numsH_str (l : List UInt8) : strOfNums (numsH l) = ⟨l.toArray⟩ := by
  unfold strOfNums numsH
  congr 1
  simp [List.map_map, Function.comp_def]
theorem numsH_len (l : List UInt8) : (numsH l).length = l.length := by unfold numsH; rw [List.length_map]
theorem lost_cat (i : Nat) : (⟨(lostL i).toArray⟩ : ByteArray) ++ (⟨#[226, 151, 140, 32]⟩ : ByteArray) = ⟨(lostL (i + 1)).toArray⟩ := by
  apply ByteArray.ext
  rw [lostL_add]
  simp [lostL]
theorem refgives_loop (p0 : Int) (l : List ByteArray) (p2 : Nat) (hp : p2 ≤ 99) : ∀ (d i k : Nat), i + d = p2 → d + 1 ≤ k → siglumref06_gives.l0 k (⟨(lostL i).toArray⟩ : ByteArray) (i : Int) p0 l (p2 : Int) = some ⟨(lostL p2).toArray⟩
  | 0, i, k, hd, hk => by
    obtain ⟨k, rfl⟩ : ∃ m, k = m + 1 := ⟨k - 1, by omega⟩
    rw [siglumref06_gives.l0, if_neg (by omega), show i = p2 by omega]
  | d + 1, i, k, hd, hk => by
    obtain ⟨k, rfl⟩ : ∃ m, k = m + 1 := ⟨k - 1, by omega⟩
    have e2 : ((i + 1 : Nat) : Int) = (i : Int) + 1 := by omega
    have hz : (⟨(lostL i).toArray⟩ : ByteArray).size = 4 * i := by show (lostL i).toArray.size = _; simp [lostL_length]
    rw [siglumref06_gives.l0, if_pos (by omega), if_pos (by rw [hz]; omega), ws _ (by omega) (by omega), ← e2, lost_cat, refgives_loop p0 l p2 hp d (i + 1) k (by omega) (by omega)]
theorem refgives_eq (b : Int) (p : S37) (h : Int) (hh : 0 ≤ h) (hr : rightB b p = true) (k : Nat) (hk : 100 ≤ k) : siglumref06_gives.f k p.f0 p.f1 p.f2 h = some (givesS p h) := by
  unfold siglumref06_gives.f givesS givesP
  unfold rightB at hr
  by_cases h2 : p.f0 = 2
  · have hr' : p.f1.length = 0 ∧ 1 ≤ p.f2 ∧ p.f2 ≤ 99 := by
      rw [if_neg (by omega), if_neg (by omega), if_pos h2] at hr
      simp at hr
      exact ⟨by simp [hr.1.1], hr.1.2, hr.2⟩
    rw [if_pos h2, if_pos h2]
    obtain ⟨m, hm⟩ : ∃ m : Nat, p.f2 = (m : Int) := ⟨p.f2.toNat, by omega⟩
    rw [hm, Int.toNat_natCast]
    exact refgives_loop p.f0 p.f1 m (by omega) m 0 k (by omega) (by omega)
  · rw [if_neg h2, if_neg h2]
    by_cases h3 : p.f0 = 3
    · have hr' : 2 ≤ p.f1.length ∧ p.f1.length ≤ 4 := by
        rw [if_neg (by omega), if_neg (by omega), if_neg h2, if_pos h3] at hr
        simp at hr
        exact hr.1
      rw [if_pos h3]
      by_cases hl : h < (p.f1.length : Int)
      · rw [if_pos hl, if_pos hh]
        by_cases hq : h < (p.f1.length : Int) - 1
        · rw [if_pos hq]
        · rw [if_neg hq, show h = (p.f1.length : Int) - 1 by omega]
      · rw [if_neg hl, ws _ (by omega) (by omega), if_pos (by omega), if_pos (by omega), if_neg (by omega)]
    · have hr' : p.f1.length = 1 := by
        by_cases h1 : p.f0 = 1
        · rw [if_pos h1] at hr
          simp at hr
          omega
        · by_cases h4 : p.f0 = 4
          · rw [if_neg h1, if_pos h4] at hr
            simp at hr
            omega
          · rw [if_neg h1, if_neg h4, if_neg h2, if_neg h3] at hr
            cases hr
      rw [if_neg h3, if_pos (by omega), if_neg (by omega), hr']
      rfl
/-- Is the text not too long? -/
def okG (h : Int) : List S37 → Int → Bool
  | [], _ => true
  | p :: l, a => if a + (givesS p h).size > 65536 then false else okG h l (a + (givesS p h).size)
theorem okG_cons (h : Int) (p : S37) (l : List S37) (a : Int) : okG h (p :: l) a = if a + (givesS p h).size > 65536 then false else okG h l (a + (givesS p h).size) := rfl
theorem okG_spans (h : Int) : ∀ (l : List S37) (a : Int) (acc : List (Int × Int)), (spansG h l a acc).isSome = okG h l a
  | [], _, _ => rfl
  | p :: l, a, acc => by
    unfold spansG okG
    split
    · rfl
    · exact okG_spans h l _ _
theorem okG_len (h : Int) : ∀ (l : List S37) (a : Int), a ≤ 65536 → okG h l a = true → a + (givesT h l).length ≤ 65536
  | [], a, ha, _ => by simp [givesT]; exact ha
  | p :: l, a, ha, hk => by
    unfold okG at hk
    split at hk
    · cases hk
    · rename_i hb
      have ih := okG_len h l _ (by omega) hk
      have e : givesT h (p :: l) = (givesS p h).data.toList ++ givesT h l := by simp [givesT]
      have e2 : (givesS p h).data.toList.length = (givesS p h).size := by rw [Array.length_toList]; rfl
      rw [e, List.length_append, e2]
      omega
/-- What Read answers. -/
def readP (h : Int) (L : List S37) : ByteArray × Int := if rightL 0 L = true then (if 0 ≤ h ∧ h < 4 then (if okG h L 0 = true then (⟨(givesT h L).toArray⟩, 0) else (⟨#[]⟩, 1)) else (⟨#[]⟩, 2)) else (⟨#[]⟩, 51)
theorem read_eq (L : List S37) (h : Int) (hl : L.length ≤ 4398046511104) (hs : rightL 0 L = true → ∀ p ∈ L, (givesS p h).size ≤ 140737488355328) (k : Nat) (hk : L.length + 1 ≤ k) : hand_Read.f k L h = some (readP h L) := by
  unfold hand_Read.f hand_Spans.f readP
  rw [hands_eq L hl k hk, Option.bind_some]
  by_cases hr : rightL 0 L = true
  · rw [if_pos hr, if_pos hr]
    dsimp only
    rw [if_pos rfl]
    by_cases hh : 0 ≤ h ∧ h < 4
    · have hpc : (∀ p ∈ L, pieceOk h p) ∧ L.length ≤ 4294967296 * 1024 := ⟨fun p hp => by
        obtain ⟨b, hb⟩ := right_mem L 0 hr p hp
        exact ⟨right_gives b p h hh.1 hb, hs hr p hp⟩, by omega⟩
      rw [if_pos hh, if_pos hh, if_pos hpc, Option.bind_some]
      have hi := okG_spans h L 0 []
      cases hg : spansG h L 0 [] with
      | none =>
        rw [hg] at hi
        have h0 : okG h L 0 = false := hi.symm
        rw [h0]
        rfl
      | some q =>
        rw [hg] at hi
        have h0 : okG h L 0 = true := hi.symm
        rw [h0]
        rfl
    · rw [if_neg hh, if_neg hh, Option.bind_some]
      rfl
  · rw [if_neg hr, if_neg hr]
    dsimp only
    rw [if_neg (by decide), Option.bind_some]
    rfl
theorem refread_l1 (L : List S37) (h : Int) (hh : 0 ≤ h) (hl : L.length ≤ 4398046511104) (hr : ∀ p ∈ L, ∃ b, rightB b p = true) (hT : (givesT h L).length ≤ 65536) : ∀ (d i k : Nat) (acc : List UInt8), i + d = L.length → acc ++ givesT h (L.drop i) = givesT h L → d + 101 ≤ k →
    siglumref06_Read.l1 k L h (numsH acc) (i : Int) = some (⟨(givesT h L).toArray⟩, 0)
  | 0, i, k, acc, hd, ha, hk => by
    obtain ⟨k, rfl⟩ : ∃ m, k = m + 1 := ⟨k - 1, by omega⟩
    rw [siglumref06_Read.l1, if_neg (by omega), numsH_str]
    rw [List.drop_of_length_le (by omega)] at ha
    have : givesT h ([] : List S37) = [] := rfl
    rw [this, List.append_nil] at ha
    rw [ha]
  | d + 1, i, k, acc, hd, ha, hk => by
    obtain ⟨k, rfl⟩ : ∃ m, k = m + 1 := ⟨k - 1, by omega⟩
    have hi : i < L.length := by omega
    have e2 : ((i + 1 : Nat) : Int) = (i : Int) + 1 := by omega
    obtain ⟨b, hb⟩ := hr L[i] (List.getElem_mem hi)
    have hc : givesT h (L.drop i) = (givesS L[i] h).data.toList ++ givesT h (L.drop (i + 1)) := by unfold givesT; rw [List.drop_eq_getElem_cons hi, List.flatMap_cons]
    rw [hc, ← List.append_assoc] at ha
    have hlen : acc.length + (givesS L[i] h).size ≤ 65536 := by
      have h1 := congrArg List.length ha
      simp only [List.length_append] at h1
      have e3 : (givesS L[i] h).data.toList.length = (givesS L[i] h).size := by rw [Array.length_toList]; rfl
      omega
    rw [siglumref06_Read.l1, if_pos (by omega), if_pos (by omega), rdP L i hi, refgives_eq b L[i] h hh hb k (by omega), Option.bind_some, if_pos (by rw [numsH_len]; omega), ws _ (by omega) (by omega), ← e2, numsH_bytes, refread_l1 L h hh hl hr hT d (i + 1) k _ (by omega) ha (by omega)]
theorem refread_l0 (L : List S37) (h : Int) (hh : 0 ≤ h) (hl : L.length ≤ 4398046511104) (hr : ∀ p ∈ L, ∃ b, rightB b p = true) (hs : ∀ p ∈ L, (givesS p h).size ≤ 140737488355328) : ∀ (d i k : Nat) (a : Int), i + d = L.length → 0 ≤ a → a ≤ 65536 → (okG h (L.drop i) a = okG h L 0) → d + L.length + 202 ≤ k →
    siglumref06_Read.l0 k L h a (i : Int) = some (if okG h L 0 = true then (⟨(givesT h L).toArray⟩, 0) else (⟨#[]⟩, 1))
  | 0, i, k, a, hd, h0, h1, ha, hk => by
    obtain ⟨k, rfl⟩ : ∃ m, k = m + 1 := ⟨k - 1, by omega⟩
    rw [List.drop_of_length_le (by omega)] at ha
    have hok : okG h L 0 = true := ha.symm
    have hT := okG_len h L 0 (by omega) hok
    rw [siglumref06_Read.l0, if_neg (by omega), if_pos hok]
    exact refread_l1 L h hh hl hr (by omega) L.length 0 k [] (by omega) (by simp) (by omega)
  | d + 1, i, k, a, hd, h0, h1, ha, hk => by
    obtain ⟨k, rfl⟩ : ∃ m, k = m + 1 := ⟨k - 1, by omega⟩
    have hi : i < L.length := by omega
    have e2 : ((i + 1 : Nat) : Int) = (i : Int) + 1 := by omega
    obtain ⟨b, hb⟩ := hr L[i] (List.getElem_mem hi)
    have hz := hs L[i] (List.getElem_mem hi)
    rw [List.drop_eq_getElem_cons hi, okG_cons] at ha
    rw [siglumref06_Read.l0, if_pos (by omega), if_pos (by omega), rdP L i hi, refgives_eq b L[i] h hh hb k (by omega), Option.bind_some, ws (65536 - a) (by omega) (by omega)]
    by_cases hbig : a + ((givesS L[i] h).size : Int) > 65536
    · rw [if_pos hbig] at ha
      rw [if_pos (by omega), if_neg (by rw [← ha]; decide)]
    · rw [if_neg hbig] at ha
      have ha' : okG h (L.drop (i + 1)) (a + ((givesS L[i] h).size : Int)) = okG h L 0 := ha
      rw [if_neg (by omega), ws (a + _) (by omega) (by omega), ws ((i : Int) + 1) (by omega) (by omega), ← e2, refread_l0 L h hh hl hr hs d (i + 1) k _ (by omega) (by omega) (by omega) ha' (by omega)]
theorem refread_eq (L : List S37) (h : Int) (hl : L.length ≤ 4398046511104) (hs : rightL 0 L = true → ∀ p ∈ L, (givesS p h).size ≤ 140737488355328) (k : Nat) (hk : 3 * L.length + 300 ≤ k) : siglumref06_Read.f k L h = some (readP h L) := by
  unfold siglumref06_Read.f readP siglumref06_hand.f
  rw [ref_right_eq L hl k (by omega), Option.bind_some]
  by_cases hr : rightL 0 L = true
  · rw [if_pos hr, if_pos hr]
    by_cases h0 : h ≥ 0
    · rw [if_pos h0, Option.bind_some]
      by_cases h4 : h < 4
      · rw [if_pos (by simpa using h4), if_pos ⟨h0, h4⟩]
        exact refread_l0 L h h0 hl (right_mem L 0 hr) (hs hr) L.length 0 k 0 (by omega) (by omega) (by omega) (by simp) (by omega)
      · rw [if_neg (by simpa using h4), if_neg (fun e => h4 e.2)]
    · rw [if_neg h0, Option.bind_some, if_neg (by decide), if_neg (fun e => h0 e.1)]
  · rw [if_neg hr, if_neg hr]
/-- How many words are lost. -/
def lostP : List S37 → Int
  | [] => 0
  | p :: l => (if p.f0 = 2 then p.f2 else 0) + lostP l
theorem lost_range : ∀ (L : List S37) (a : Int), rightL a L = true → 0 ≤ lostP L ∧ lostP L ≤ 99 * (L.length : Int)
  | [], _, _ => by simp [lostP]
  | p :: l, a, h => by
    unfold rightL at h
    rw [Bool.and_eq_true] at h
    have ih := lost_range l p.f0 h.2
    have h1 := h.1
    unfold rightB at h1
    unfold lostP
    rw [List.length_cons]
    by_cases h2 : p.f0 = 2
    · rw [if_neg (by omega), if_neg (by omega), if_pos h2] at h1
      simp at h1
      rw [if_pos h2]
      omega
    · rw [if_neg h2]
      omega
theorem lost_n (b : Int) (p : S37) (hr : rightB b p = true) : (if p.f0 = 2 then p.f2 else 0) = p.f2 := by
  by_cases h2 : p.f0 = 2
  · rw [if_pos h2]
  · rw [if_neg h2]
    unfold rightB at hr
    split at hr
    · simp at hr; omega
    · split at hr
      · simp at hr; omega
      · split at hr
        · simp at hr; omega
        · cases hr
theorem lost_loop (L : List S37) (hl : L.length ≤ 4398046511104) (hr : ∀ p ∈ L, ∃ b, rightB b p = true) : ∀ (d i k : Nat) (n : Int), i + d = L.length → 0 ≤ n → n ≤ 99 * (i : Int) → d + 1 ≤ k → hand_Lost.l0 k n L (L.length : Int) (i : Int) = some (n + lostP (L.drop i), 0)
  | 0, i, k, n, hd, h0, h1, hk => by
    obtain ⟨k, rfl⟩ : ∃ m, k = m + 1 := ⟨k - 1, by omega⟩
    rw [hand_Lost.l0, if_neg (by omega), List.drop_of_length_le (by omega)]
    simp [lostP]
  | d + 1, i, k, n, hd, h0, h1, hk => by
    obtain ⟨k, rfl⟩ : ∃ m, k = m + 1 := ⟨k - 1, by omega⟩
    have hi : i < L.length := by omega
    have e2 : ((i + 1 : Nat) : Int) = (i : Int) + 1 := by omega
    obtain ⟨b, hb⟩ := hr L[i] (List.getElem_mem hi)
    have hc : lostP (L.drop i) = (if L[i].f0 = 2 then L[i].f2 else 0) + lostP (L.drop (i + 1)) := by rw [List.drop_eq_getElem_cons hi]; rfl
    have hz : 0 ≤ (if L[i].f0 = 2 then L[i].f2 else 0) ∧ (if L[i].f0 = 2 then L[i].f2 else 0) ≤ 99 := by
      by_cases h2 : L[i].f0 = 2
      · have h3 := hb
        unfold rightB at h3
        rw [if_neg (by omega), if_neg (by omega), if_pos h2] at h3
        simp at h3
        rw [if_pos h2]
        omega
      · rw [if_neg h2]; omega
    rw [hand_Lost.l0, if_pos (by omega), if_pos (by omega), if_pos (by omega), rdP L i hi, hc]
    by_cases h2 : L[i].f0 = 2
    · rw [if_pos h2] at hz ⊢
      rw [if_pos h2, ws (n + _) (by omega) (by omega), ws _ (by omega) (by omega), ← e2, lost_loop L hl hr d (i + 1) k _ (by omega) (by omega) (by omega) (by omega)]
      congr 2
      omega
    · rw [if_neg h2, if_neg h2, ws _ (by omega) (by omega), ← e2, lost_loop L hl hr d (i + 1) k n (by omega) h0 (by omega) (by omega)]
      congr 2
      omega
theorem reflost_loop (L : List S37) (hl : L.length ≤ 4398046511104) (hr : ∀ p ∈ L, ∃ b, rightB b p = true) : ∀ (d i k : Nat) (n : Int), i + d = L.length → 0 ≤ n → n ≤ 99 * (i : Int) → d + 1 ≤ k → siglumref06_Lost.l0 k L n (i : Int) = some (n + lostP (L.drop i), 0)
  | 0, i, k, n, hd, h0, h1, hk => by
    obtain ⟨k, rfl⟩ : ∃ m, k = m + 1 := ⟨k - 1, by omega⟩
    rw [siglumref06_Lost.l0, if_neg (by omega), List.drop_of_length_le (by omega)]
    simp [lostP]
  | d + 1, i, k, n, hd, h0, h1, hk => by
    obtain ⟨k, rfl⟩ : ∃ m, k = m + 1 := ⟨k - 1, by omega⟩
    have hi : i < L.length := by omega
    have e2 : ((i + 1 : Nat) : Int) = (i : Int) + 1 := by omega
    obtain ⟨b, hb⟩ := hr L[i] (List.getElem_mem hi)
    have hc : lostP (L.drop i) = (if L[i].f0 = 2 then L[i].f2 else 0) + lostP (L.drop (i + 1)) := by rw [List.drop_eq_getElem_cons hi]; rfl
    have hn := lost_n b L[i] hb
    have hz : 0 ≤ L[i].f2 ∧ L[i].f2 ≤ 99 := by
      rw [← hn]
      by_cases h2 : L[i].f0 = 2
      · have h3 := hb
        unfold rightB at h3
        rw [if_neg (by omega), if_neg (by omega), if_pos h2] at h3
        simp at h3
        rw [if_pos h2]
        omega
      · rw [if_neg h2]; omega
    rw [hn] at hc
    rw [siglumref06_Lost.l0, if_pos (by omega), if_pos (by omega), rdP L i hi, hc, ws (n + _) (by omega) (by omega), ws _ (by omega) (by omega), ← e2, reflost_loop L hl hr d (i + 1) k _ (by omega) (by omega) (by omega) (by omega)]
    congr 2
    omega
def lostAll (L : List S37) : Int × Int := if rightL 0 L = true then (lostP L, 0) else (0, 51)
theorem lost_eq (L : List S37) (hl : L.length ≤ 4398046511104) (k : Nat) (hk : L.length + 1 ≤ k) : hand_Lost.f k L = some (lostAll L) := by
  unfold hand_Lost.f lostAll
  rw [hands_eq L hl k hk, Option.bind_some]
  by_cases hr : rightL 0 L = true
  · rw [if_pos hr, if_pos hr]
    dsimp only
    rw [if_pos rfl]
    have := lost_loop L hl (right_mem L 0 hr) L.length 0 k 0 (by omega) (by omega) (by omega) hk
    simpa using this
  · rw [if_neg hr, if_neg hr]
    dsimp only
    rw [if_neg (by decide)]
theorem reflost_eq (L : List S37) (hl : L.length ≤ 4398046511104) (k : Nat) (hk : 3 * L.length + 1 ≤ k) : siglumref06_Lost.f k L = some (lostAll L) := by
  unfold siglumref06_Lost.f lostAll
  rw [ref_right_eq L hl k hk, Option.bind_some]
  by_cases hr : rightL 0 L = true
  · rw [if_pos hr, if_pos hr]
    have := reflost_loop L hl (right_mem L 0 hr) L.length 0 k 0 (by omega) (by omega) (by omega) (by omega)
    simpa using this
  · rw [if_neg hr, if_neg hr]
theorem aw6 : readP 0 [⟨3, [⟨#[97]⟩, ⟨#[98]⟩], 0⟩, ⟨2, [], 1⟩] = (⟨#[97, 226, 151, 140, 32]⟩, 0) ∧ readP 3 [⟨3, [⟨#[97]⟩, ⟨#[98]⟩], 0⟩, ⟨2, [], 1⟩] = (⟨#[98, 226, 151, 140, 32]⟩, 0) ∧ readP 4 [⟨3, [⟨#[97]⟩, ⟨#[98]⟩], 0⟩, ⟨2, [], 1⟩] = (⟨#[]⟩, 2) := by decide +kernel
theorem awake6 (k : Nat) (hk : 3 ≤ k) : siglumlaw06_awake.f k = some true := by
  unfold siglumlaw06_awake.f
  obtain ⟨a0, a3, a4⟩ := aw6
  have hz : ∀ h : Int, ∀ p ∈ ([⟨3, [⟨#[97]⟩, ⟨#[98]⟩], 0⟩, ⟨2, [], 1⟩] : List S37), (givesS p h).size ≤ 140737488355328 := by
    intro h p hp
    simp at hp
    rcases hp with rfl | rfl
    · unfold givesS givesP
      rw [if_neg (by decide)]
      dsimp only
      unfold rdOf
      generalize (if h < (([⟨#[97]⟩, ⟨#[98]⟩] : List ByteArray).length : Int) - 1 then h else (([⟨#[97]⟩, ⟨#[98]⟩] : List ByteArray).length : Int) - 1).toNat = q
      match q with
      | 0 => decide
      | 1 => decide
      | q + 2 => simp
    · unfold givesS givesP
      rw [if_pos (by decide)]
      decide
  rw [Option.bind_some, read_eq _ 0 (by decide) (fun _ => hz 0) k hk, Option.bind_some, read_eq _ 3 (by decide) (fun _ => hz 3) k hk, Option.bind_some, read_eq _ 4 (by decide) (fun _ => hz 4) k hk, Option.bind_some, a0, a3, a4]
  decide +kernel
theorem HandReadsP (L : List S37) (h : Int) (hl : L.length ≤ 4398046511104) (hs : rightL 0 L = true → ∀ p ∈ L, (givesS p h).size ≤ 140737488355328) : ∃ k, siglumlaw06_HandReads.f k L h = some true := by
  refine ⟨3 * L.length + 300, ?_⟩
  unfold siglumlaw06_HandReads.f
  rw [awake6 _ (by omega), Option.bind_some, if_pos rfl, read_eq L h hl hs _ (by omega), Option.bind_some, refread_eq L h hl hs _ (by omega), Option.bind_some, lost_eq L hl _ (by omega), Option.bind_some, reflost_eq L hl _ (by omega), Option.bind_some, if_pos rfl, if_pos rfl, if_pos rfl]
  simp
theorem gives_size (b : Int) (p : S37) (h : Int) (hr : rightB b p = true) (hz : ∀ z ∈ p.f1, z.size ≤ 140737488351232) : (givesS p h).size ≤ 140737488355328 := by
  have hrd : ∀ j : Int, (rdOf ByteArray.empty p.f1 j).size ≤ 140737488351232 := by
    intro j
    unfold rdOf
    rw [List.getD_eq_getElem?_getD]
    cases hq : p.f1[j.toNat]? with
    | none => exact Nat.zero_le _
    | some z => exact hz z (List.mem_of_getElem? hq)
  unfold givesS givesP
  by_cases h2 : p.f0 = 2
  · rw [if_pos h2]
    unfold rightB at hr
    rw [if_neg (by omega), if_neg (by omega), if_pos h2] at hr
    simp at hr
    show (lostL p.f2.toNat).toArray.size ≤ _
    rw [List.size_toArray, lostL_length]
    omega
  · rw [if_neg h2]
    exact Nat.le_trans (hrd _) (by decide)
theorem HandReads (L : List S37) (h : Int) (g : (∀ y ∈ L, (((Lit.int .i64 y.f0).wf = true) ∧ ((∀ z ∈ y.f1, (z.size ≤ 140737488351232)) ∧ y.f1.length * 16 ≤ 140737488351232) ∧ ((Lit.int .i64 y.f2).wf = true))) ∧ L.length * 40 ≤ 140737488351232) (_ : (Lit.int .i64 h).wf = true) : ∃ k, siglumlaw06_HandReads.f k L h = some true :=
  HandReadsP L h (by omega) fun hr p hp => by
    obtain ⟨b, hb⟩ := right_mem L 0 hr p hp
    exact gives_size b p h hb (g.1 p hp).2.1.1
end Go.Proofs.Ytpmiaaphmgoapaa.Pure
