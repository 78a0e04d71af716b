/- The law RowBack: its program answers true at every two rows; no conditions beyond those in the theorem's head. -/
import Derived.Test.YtlgobbofiingnaaPS3
import Derived.Test.YtlgobbofiingnaaPS4
import Derived.Test.YtlgobbofiingnaaPAx15
import Derived.Test.YtlgobbofiingnaaXV
namespace Go.Proofs.Ytlgobbofiingnaa.Pure
open Go.RowKit Go.Proofs.YtlgobbofiingnaaW.PrintWords Go.Proofs.YtlgobbofiingnaaW.PrintLast Go.Proofs.YtlgobbofiingnaaW.PrintMore Go.Proofs.YtlgobbofiingnaaX Go.Proofs.YtlgobbofiingnaaL Go.Proofs.Ytlgobbofiingnaa.PA Go.Proofs.Ytlgobbofiingnaa.PS Go.Proofs.YtlgobbofiingnaaV
set_option linter.unusedVariables false
set_option linter.unusedSimpArgs false

theorem encR_of {L : List S25} (h : (encR L).2 = 0) : OK L ∧ (encR L).1 = strOfNums (enc L) := by
  unfold encR at h ⊢
  by_cases h16 : L.length > 16
  · rw [if_pos h16] at h; simp at h
  · rw [if_neg h16] at h ⊢
    by_cases hr : ∀ v ∈ L, right v = true
    · rw [if_pos hr] at h ⊢; exact ⟨⟨by omega, hr⟩, rfl⟩
    · rw [if_neg hr] at h; simp at h
theorem front_iff {x y : List S25} (hx : OK x) (hy : OK y) (hl : (enc x).length ≤ (enc y).length) : (((strOfNums (enc y)).extract 0 (enc x).length).toList == (strOfNums (enc x)).toList) = decide (x = y) := by
  rw [Bool.eq_iff_iff, beq_iff_eq, decide_eq_true_iff, toList_inj]
  constructor
  · intro h
    have h2 := congrArg bytesOf h
    rw [bytesOf_extract_front, bytesOf_strOfNums (enc_bytes hx), bytesOf_strOfNums (enc_bytes hy)] at h2
    have h3 : enc x ++ (enc y).drop (enc x).length = enc y ++ [] := by
      rw [List.append_nil]
      conv => lhs; lhs; rw [← h2]
      exact List.take_append_drop _ _
    exact (enc_inj hx hy h3).1
  · rintro rfl
    apply bytesOf_inj
    rw [bytesOf_extract_front, bytesOf_strOfNums (enc_bytes hx), List.take_length]
theorem RowBack : ∀ (l0 l1 : List S25), (∀ x ∈ l0, Fine x) → l0.length * 32 ≤ 140737488351232 → (∀ x ∈ l1, Fine x) → l1.length * 32 ≤ 140737488351232 → ∃ k, unisonlaw03_RowBack.f k l0 l1 = some true := by
  intro x y _ _ _ _
  refine ⟨x.length + 400 + 1 + 1 + 1 + 1, ?_⟩
  unfold unisonlaw03_RowBack.f
  have done : ∀ k, unisonlaw03_RowBack.j0 (k + 1) x y true = some true := fun k => by rw [unisonlaw03_RowBack.j0, if_pos rfl]
  by_cases hx : (x.length : Int) > 2147483647
  · rw [if_pos hx]; exact done _
  · rw [if_neg hx]
    by_cases hy : (y.length : Int) > 2147483647
    · rw [decide_eq_true hy]; exact done _
    · rw [decide_eq_false hy, unisonlaw03_RowBack.j0, if_neg (by simp), awake_all (by omega), some_bind, encode_row x (by omega), some_bind, encode_row y (by omega), some_bind, encode_ref x (by omega), some_bind, encode_ref y (by omega), some_bind,
        if_pos rfl, unisonlaw03_RowBack.j1, show ((encR y).2 != (encR y).2) = false from by rw [bne_self_eq_false], if_neg (by simp)]
      have done2 : ∀ k s t, unisonlaw03_RowBack.j2 (k + 1) x y true s t true = some true := fun k s t => by rw [unisonlaw03_RowBack.j2, if_pos rfl]
      by_cases h0 : (encR x).2 = 0
      · rw [if_pos h0]
        by_cases h1 : (encR y).2 = 0
        · rw [show ((encR y).2 != 0) = false from by rw [h1]; rfl]
          obtain ⟨ox, ex⟩ := encR_of h0
          obtain ⟨oy, ey⟩ := encR_of h1
          rw [unisonlaw03_RowBack.j2, if_neg (by simp), ex, ey]
          obtain ⟨R, e, d1, d2⟩ := decode_row (strOfNums (enc x)) (k := x.length + 400 + 1) (by omega)
          rw [bytesOf_strOfNums (enc_bytes ox)] at d2
          obtain ⟨rfl, rfl⟩ := RowRd.one d2 (.inl ⟨rfl, ox, rfl⟩)
          rw [d1, some_bind, same_all R R (by omega) (by omega), some_bind, decide_eq_true rfl, same_all _ _ (by omega) (by omega), some_bind]
          rw [show row_Size.f (R.length + 400 + 1) R = some (((encR R).1.size : Int), (encR R).2) from by unfold row_Size.f; rw [encode_row R (by omega)]; rfl, some_bind]
          simp only [ex, h0, size_strOfNums]
          have fin : ∀ k b, b = decide (R = y) → unisonlaw03_RowBack.j3 (k + 1) true (strOfNums (enc R)) 0 true (decide (R = y)) ((enc R).length : Int) 0 b = some true := fun k b hb => by
            subst hb
            rw [unisonlaw03_RowBack.j3, if_pos rfl, if_pos rfl, if_pos rfl, if_pos (by simp), if_pos (by rw [size_strOfNums])]; rfl
          by_cases hl : ((enc R).length : Int) ≤ ((enc y).length : Int)
          · rw [if_pos hl, if_pos (by omega), Int.toNat_natCast, front_iff ox oy (by omega)]
            exact fin _ _ rfl
          · rw [if_neg hl]
            refine fin _ _ ?_
            rw [decide_eq_false (fun e => hl (by rw [e]; exact Int.le_refl _))]
        · rw [show ((encR y).2 != 0) = true from by simp [h1]]
          exact done2 _ _ _
      · rw [if_neg h0]
        exact done2 _ _ _
end Go.Proofs.Ytlgobbofiingnaa.Pure
