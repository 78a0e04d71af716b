/- The law KeyNexts: its program answers true at every two texts; no conditions beyond those in the theorem's head. -/
import Derived.Test.YtohknmlcleifpaaDoorPS8
import Derived.Test.YtohknmlcleifpaaDoorPAx19
namespace Go.Proofs.YtohknmlcleifpaaDoor.Pure
open Go.RowKit Go.Proofs.YtohknmlcleifpaaDoorW.PrintWords Go.Proofs.YtohknmlcleifpaaDoorW.PrintLast Go.Proofs.YtohknmlcleifpaaDoorW.PrintMore Go.Proofs.YtohknmlcleifpaaDoorX Go.Proofs.YtohknmlcleifpaaDoorL Go.Proofs.YtohknmlcleifpaaDoor.PA Go.Proofs.YtohknmlcleifpaaDoor.PS
set_option linter.unusedVariables false
set_option linter.unusedSimpArgs false

theorem nexts_loop (s : ByteArray) (hs : s.size < 1000000000000000) (is b l : Bool) (hbl : b = l) : ∀ (d i : Nat) (a : Bool), i + d = s.size → (a = true ↔ ∀ x ∈ (bytesOf s).take i, x = 255) → (is = true ↔ ¬ ∀ x ∈ bytesOf s, x = 255) → ∀ k, d + 1 ≤ k →
    unisonlaw02_KeyNexts.l0 k s true is b l a (i : Int) = some true
  | d, i, a, hd, ha, hi, 0, hk => by omega
  | 0, i, a, hd, ha, hi, k + 1, hk => by
    rw [List.take_of_length_le (by rw [bytesOf_length]; omega)] at ha
    rw [unisonlaw02_KeyNexts.l0, if_neg (by omega), if_pos rfl, hbl, beq_self_eq_true, if_pos rfl]
    have e : (a = true ↔ ¬ is = true) := by rw [ha, hi]; exact Classical.not_not.symm
    clear ha hi
    cases is <;> cases a <;> simp at e ⊢
  | d + 1, i, a, hd, ha, hi, k + 1, hk => by
    have hn : i < (bytesOf s).length := by rw [bytesOf_length]; omega
    have hg : bt s (i : Int) = (bytesOf s)[i] := by rw [bt_eq, rd_get (by rw [Int.toNat_natCast]; exact hn)]; rfl
    have ht : (bytesOf s).take (i + 1) = (bytesOf s).take i ++ [bt s (i : Int)] := by rw [List.take_add_one, List.getElem?_eq_getElem hn, ← hg]; rfl
    rw [unisonlaw02_KeyNexts.l0, if_pos (by omega), if_pos (by omega), w1 (by omega)]
    by_cases e : bt s (i : Int) = 255
    · rw [if_pos e]
      refine nexts_loop s hs is b l hbl d (i + 1) a (by omega) ?_ hi k (by omega)
      rw [ht, ha]
      constructor
      · intro h x hx
        rcases List.mem_append.1 hx with hx | hx
        · exact h x hx
        · rw [List.mem_singleton.1 hx]; exact e
      · intro h x hx
        exact h x (List.mem_append_left _ hx)
    · rw [if_neg e]
      refine nexts_loop s hs is b l hbl d (i + 1) false (by omega) ?_ hi k (by omega)
      rw [ht]
      constructor
      · intro h; cases h
      · intro h; exact absurd (h _ (List.mem_append_right _ (List.mem_singleton.2 rfl))) e
theorem KeyNexts : ∀ (a0 : ByteArray) (a1 : ByteArray), a0.size ≤ 140737488351232 → a1.size ≤ 140737488351232 → ∃ k, unisonlaw02_KeyNexts.f k a0 a1 = some true := by
  intro s t hs ht
  refine ⟨s.size + 400 + 1 + 1 + 1, ?_⟩
  unfold unisonlaw02_KeyNexts.f
  have done : ∀ k, unisonlaw02_KeyNexts.j0 (k + 1) s t true = some true := fun k => by rw [unisonlaw02_KeyNexts.j0, if_pos rfl]
  by_cases hx : (s.size : Int) > 2147483647
  · rw [if_pos hx]; exact done _
  · rw [if_neg hx]
    by_cases hy : (t.size : Int) > 2147483647
    · rw [decide_eq_true hy]; exact done _
    · rw [decide_eq_false hy, unisonlaw02_KeyNexts.j0, if_neg (by decide), awake_all (by omega), some_bind, next_row s (by omega) (by omega), some_bind]
      obtain ⟨hB, hI⟩ := nexts s t
      have last : ∀ (b l : Bool), b = l → unisonlaw02_KeyNexts.j2 (s.size + 400 + 1) s true (nxt s s.size).2 b l = some true := fun b l h => by
        rw [unisonlaw02_KeyNexts.j2]
        exact nexts_loop s (by omega) _ b l h s.size 0 true (by omega) (by simp) hI _ (by omega)
      have mid : ∀ b : Bool, (b = true ↔ (bytesOf t).take s.size = bytesOf s) → unisonlaw02_KeyNexts.j1 (s.size + 400 + 1 + 1) s t true (nxt s s.size).1 (nxt s s.size).2 b = some true := fun b hb => by
        rw [hB] at hb
        rw [unisonlaw02_KeyNexts.j1, bytesLess_eq, bytesLess_eq]
        by_cases h1 : ltI (bytesOf t) (bytesOf s) = true
        · rw [if_pos h1]
          refine last _ _ ?_
          rw [Bool.eq_false_iff]
          intro h
          rw [(hb.1 h).1] at h1; cases h1
        · rw [if_neg h1]
          have h1' : ltI (bytesOf t) (bytesOf s) = false := by simpa using h1
          by_cases h2 : (nxt s s.size).2 = true
          · rw [if_pos h2]
            refine last _ _ ?_
            rw [Bool.eq_iff_iff, hb]
            exact ⟨fun h => h.2 h2, fun h => ⟨h1', fun _ => h⟩⟩
          · rw [if_neg h2]
            refine last _ _ ?_
            rw [hb]
            exact ⟨h1', fun h => absurd h h2⟩
      by_cases hl : (t.size : Int) ≥ (s.size : Int)
      · rw [if_pos hl, if_pos (by omega), if_pos (by omega), Int.toNat_natCast]
        refine mid _ ?_
        rw [beq_iff_eq, toList_inj]
        constructor
        · intro h
          rw [← bytesOf_extract_front, h]
        · intro h
          apply bytesOf_inj
          rw [bytesOf_extract_front, h]
      · rw [if_neg hl]
        refine mid _ ⟨fun h => (by cases h), fun h => ?_⟩
        have := congrArg List.length h
        rw [List.length_take, bytesOf_length, bytesOf_length] at this
        omega
end Go.Proofs.YtohknmlcleifpaaDoor.Pure
