/- The law RowReads: its program answers true at every text; no conditions beyond those in the theorem's head. -/
import Derived.Test.YtlgobbofiingnaaPS5
import Derived.Test.YtlgobbofiingnaaPAx14
namespace Go.Proofs.Ytlgobbofiingnaa.Pure
open Go.RowKit Go.Proofs.YtlgobbofiingnaaW.PrintWords Go.Proofs.YtlgobbofiingnaaW.PrintLast Go.Proofs.YtlgobbofiingnaaW.PrintMore Go.Proofs.YtlgobbofiingnaaX Go.Proofs.YtlgobbofiingnaaL Go.Proofs.Ytlgobbofiingnaa.PA Go.Proofs.Ytlgobbofiingnaa.PS
set_option linter.unusedVariables false
set_option linter.unusedSimpArgs false

theorem RowRd.short {s : List Int} {R : List S25} {e : Int} (h : RowRd s R e) : R.length ≤ 16 := by
  rcases h with ⟨_, h, _⟩ | ⟨rfl, _, _⟩
  · exact h.1
  · simp
theorem reads_loop (s : ByteArray) (R : List S25) (e : Int) (hR : RowRd (bytesOf s) R e) : ∀ (d i : Nat) (L : List S25), i + d = L.length → L.length ≤ 16 → ∀ k, d + 300 ≤ k → unisonlaw03_RowReads.l0 k s true L e R e true (i : Int) = some true
  | d, i, L, hi, hL, 0, hk => by omega
  | 0, i, L, hi, hL, k + 1, hk => by
    obtain ⟨k, rfl⟩ : ∃ j, k = j + 1 := ⟨k - 1, by omega⟩
    have hs := RowRd.short hR
    rw [unisonlaw03_RowReads.l0, if_neg (by omega), show unisonlaw03_number.f 5 = some (1, 5, ⟨#[]⟩) from rfl, some_bind, if_pos (by omega)]
    obtain ⟨R', e', h1, h2⟩ := decode_row s (k := k + 1) (by omega)
    obtain ⟨rfl, rfl⟩ := RowRd.one h2 hR
    rw [h1, some_bind, same_all R' R' (by omega) (by omega), some_bind, decide_eq_true rfl, unisonlaw03_RowReads.j1, if_pos rfl, if_pos rfl, if_pos rfl, if_pos rfl, beq_self_eq_true]
  | d + 1, i, L, hi, hL, k + 1, hk => by
    rw [unisonlaw03_RowReads.l0, if_pos (by omega), show unisonlaw03_number.f (-9) = some (1, -9, ⟨#[]⟩) from rfl, some_bind, if_pos (by omega), w_next (by omega)]
    exact reads_loop s R e hR d (i + 1) _ (by rw [List.length_set]; omega) (by rw [List.length_set]; exact hL) k (by omega)
theorem RowReads : ∀ (a0 : ByteArray), a0.size ≤ 140737488351232 → ∃ k, unisonlaw03_RowReads.f k a0 = some true := by
  intro s _
  refine ⟨400, ?_⟩
  unfold unisonlaw03_RowReads.f
  by_cases h : (s.size : Int) > 2147483647
  · rw [if_pos h]
  · rw [if_neg h, awake_all (by omega), some_bind]
    obtain ⟨R, e, h1, h2⟩ := decode_row s (k := 400) (by omega)
    obtain ⟨R', e', g1, g2⟩ := decode_ref s (k := 400) (by omega)
    obtain ⟨rfl, rfl⟩ := RowRd.one g2 h2
    have hs := RowRd.short h2
    rw [h1, some_bind, g1, some_bind, same_all R' R' (by omega) (by omega), some_bind, decide_eq_true rfl]
    exact reads_loop s R' e' h2 R'.length 0 R' (by omega) hs 400 (by omega)
end Go.Proofs.Ytlgobbofiingnaa.Pure
