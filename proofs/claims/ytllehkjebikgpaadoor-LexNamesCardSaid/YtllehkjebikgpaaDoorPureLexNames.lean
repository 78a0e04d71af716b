/- The plain law LexNames: the program's IsName and IsWord tell what the document's do; no conditions beyond those in each theorem's head. -/
import Derived.Test.YtllehkjebikgpaaDoorLX
import Derived.Test.YtllehkjebikgpaaDoorPFLLexNames
import Derived.Test.YtllehkjebikgpaaDoorMC
namespace Go.Proofs.YtllehkjebikgpaaDoor.PS
open Go.RowKit Go.Proofs.YtllehkjebikgpaaDoorW.PrintWords Go.Proofs.YtllehkjebikgpaaDoorW.PrintLast Go.Proofs.YtllehkjebikgpaaDoorW.PrintMore Go.Proofs.YtllehkjebikgpaaDoorX Go.Proofs.YtllehkjebikgpaaDoorL Go.Proofs.YtllehkjebikgpaaDoor.PA
set_option linter.unusedVariables false
set_option linter.unusedSimpArgs false
theorem small_all : ∀ c : Fin 256, unisonref10_small.f (c.val : Int) = some (clsI (c.val : Int) == 3) := by decide +kernel
theorem digit_all : ∀ c : Fin 256, unisonref10_digit.f (c.val : Int) = some (clsI (c.val : Int) == 2) := by decide +kernel
theorem small_u8 (c : UInt8) : unisonref10_small.f (c.toNat : Int) = some (cls c == 3) := small_all ⟨c.toNat, c.toNat_lt⟩
theorem digit_u8 (c : UInt8) : unisonref10_digit.f (c.toNat : Int) = some (cls c == 2) := digit_all ⟨c.toNat, c.toNat_lt⟩
theorem rname_loop (s : ByteArray) (hs : s.size ≤ 140737488351232) : ∀ (d i : Nat), 1 ≤ i → i + d = s.size → ∀ k, d + 8 ≤ k → unisonref10_IsName.l0 k s (i : Int) = some (((bl s).drop i).all inName)
  | d, i, h1, hd, 0, hk => by omega
  | 0, i, h1, hd, k + 1, hk => by
    rw [unisonref10_IsName.l0, if_neg (by omega), List.drop_of_length_le (by rw [bl_length]; omega), List.all_nil]
  | d + 1, i, h1, hd, k + 1, hk => by
    have hi : i < (bl s).length := by rw [bl_length]; omega
    have ih := rname_loop s hs d (i + 1) (by omega) (by omega) k (by omega)
    have hw := wn1 (n := i) (by omega)
    rw [unisonref10_IsName.l0, if_pos (by omega), if_pos (by omega), bt_bl hi, List.drop_eq_getElem_cons hi, List.all_cons, small_u8, digit_u8]
    simp only [some_bind, hw, ih]
    have hn : inName (bl s)[i] = (cls (bl s)[i] == 3 || (cls (bl s)[i] == 2 || (bl s)[i].toNat == 95)) := rfl
    rw [hn]
    by_cases h3 : cls (bl s)[i] = 3
    · simp [h3]
    · rw [if_neg (by simpa using h3), if_neg (by omega)]
      by_cases h2 : cls (bl s)[i] = 2
      · simp [h2]
      · rw [if_neg (by simpa using h2)]
        by_cases h9 : (((bl s)[i]).toNat : Int) = 95
        · rw [if_pos h9]
          have : ((bl s)[i]).toNat = 95 := by omega
          simp [this]
        · rw [if_neg h9]
          have : ¬ ((bl s)[i]).toNat = 95 := by omega
          simp [h3, h2, this]
theorem rname_eq (s : ByteArray) (hs : s.size ≤ 140737488351232) {k : Nat} (hk : s.size + 20 ≤ k) : unisonref10_IsName.f k s = some (nameL (bl s)) := by
  obtain ⟨k, rfl⟩ : ∃ j, k = j + 1 + 1 := ⟨k - 2, by omega⟩
  unfold unisonref10_IsName.f
  have hlen := bl_length s
  cases e : bl s with
  | nil =>
    rw [e] at hlen
    have h0 : s.size = 0 := hlen.symm
    rw [if_pos (by omega), unisonref10_IsName.j0, if_pos rfl]
    rfl
  | cons c r =>
    rw [e, List.length_cons] at hlen
    rw [if_neg (by omega), unisonref10_IsName.j0, nameL]
    by_cases h16 : s.size ≤ 16
    · have d16 : decide (r.length < 16) = true := decide_eq_true (by omega)
      rw [if_neg (by rw [decide_eq_true_iff]; omega), d16, Bool.and_true]
      have hi : 0 < (bl s).length := by rw [bl_length]; omega
      have hc0 : (bl s)[0]'hi = c := by simp [e]
      have hb : bt s 0 = (c.toNat : Int) := by have := bt_bl hi; rw [hc0] at this; exact this
      have ih := rname_loop s hs (s.size - 1) 1 (by omega) (by omega) k (by omega)
      have hw : wrap64 ((0 : Int) + 1) = ((1 : Nat) : Int) := by rw [wrap64_of (by omega) (by omega)]; rfl
      rw [unisonref10_IsName.l0, if_pos (by omega), if_pos (by omega), hb, small_u8, digit_u8]
      simp only [some_bind, hw, ih]
      by_cases h3 : cls c = 3
      · rw [e]; simp [h3]
      · simp [h3]
    · have d16 : decide (r.length < 16) = false := decide_eq_false (by omega)
      rw [if_pos (by rw [decide_eq_true_iff]; omega), d16, Bool.and_false]
theorem rword_loop (s : ByteArray) (l : List ByteArray) (hl : l.length ≤ 1000) : ∀ (d i : Nat), i + d = l.length → ∀ k, d + 1 ≤ k → unisonref10_IsWord.l0 k s l (i : Int) = some ((l.drop i).any fun b => b.toList == bl s)
  | d, i, hd, 0, hk => by omega
  | 0, i, hd, k + 1, hk => by
    rw [unisonref10_IsWord.l0, if_neg (by omega), List.drop_of_length_le (by omega), List.any_nil]
  | d + 1, i, hd, k + 1, hk => by
    have hi : i < l.length := by omega
    have ih := rword_loop s l hl d (i + 1) (by omega) k (by omega)
    have hw := wn1 (n := i) (by omega)
    have hr : rdOf ByteArray.empty l (i : Int) = l[i] := by simp [rdOf, List.getD_eq_getElem?_getD, List.getElem?_eq_getElem hi]
    rw [unisonref10_IsWord.l0, if_pos (by omega), if_pos (by omega), hr, hw, ih, show l.drop i = l[i] :: l.drop (i + 1) from List.drop_eq_getElem_cons hi, toList_bl s, List.any_cons]
    by_cases h : l[i].toList = bl s
    · rw [if_pos h, beq_iff_eq.mpr h]; rfl
    · rw [if_neg h, beq_eq_false_iff_ne.mpr h]; rfl
theorem rword_eq (s : ByteArray) {k : Nat} (hk : 30 ≤ k) : unisonref10_IsWord.f k s = some (wordL (bl s)) := rword_loop s wordsL (by decide) 27 0 rfl k (by omega)
end Go.Proofs.YtllehkjebikgpaaDoor.PS
namespace Go.Proofs.YtllehkjebikgpaaDoor.Pure
open Go.RowKit Go.Proofs.YtllehkjebikgpaaDoorW.PrintWords Go.Proofs.YtllehkjebikgpaaDoorW.PrintLast Go.Proofs.YtllehkjebikgpaaDoorW.PrintMore Go.Proofs.YtllehkjebikgpaaDoorX Go.Proofs.YtllehkjebikgpaaDoorL Go.Proofs.YtllehkjebikgpaaDoor.PA Go.Proofs.YtllehkjebikgpaaDoor.PS
theorem LexNames : ∀ (a0 : ByteArray), a0.size ≤ 140737488351232 → ∃ k, unisonlaw10_LexNames.f k a0 = some true := by
  intro s hs
  refine ⟨s.size + 3000, ?_⟩
  unfold unisonlaw10_LexNames.f
  rw [awake_all (by omega), some_bind, name_eq s hs (by omega), some_bind, word_eq s (by omega), some_bind, rname_eq s hs (by omega), some_bind, rword_eq s (by omega), some_bind, if_pos rfl]
  simp
end Go.Proofs.YtllehkjebikgpaaDoor.Pure
