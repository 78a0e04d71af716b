/- The law KeyReads: its program answers true at every text; no conditions beyond those in the theorem's head. -/
import Derived.Test.YtohknmlcleifpaaDoorPS4
import Derived.Test.YtohknmlcleifpaaDoorPAx14
namespace Go.Proofs.YtohknmlcleifpaaDoor.Pure
open Go.RowKit Go.Proofs.YtohknmlcleifpaaDoorW.PrintWords Go.Proofs.YtohknmlcleifpaaDoorW.PrintLast Go.Proofs.YtohknmlcleifpaaDoorW.PrintMore Go.Proofs.YtohknmlcleifpaaDoorX Go.Proofs.YtohknmlcleifpaaDoorL Go.Proofs.YtohknmlcleifpaaDoor.PA Go.Proofs.YtohknmlcleifpaaDoor.PS
set_option linter.unusedVariables false
set_option linter.unusedSimpArgs false

theorem Rd.short {s : List Int} {R : List S25 × Int} (h : Rd s R) : R.1.length ≤ 8 := by
  rcases h with ⟨l, rfl, h, _⟩ | ⟨rfl, _⟩
  · exact h.1
  · simp
theorem reads_loop (s : ByteArray) (hs : s.size ≤ 140737488351232) (R : List S25) (e : Int) (hR : Rd (bytesOf s) (R, e)) : ∀ (d i : Nat) (L : List S25), i + d = L.length → L.length ≤ 8 → ∀ k, d + 300 ≤ k → unisonlaw02_KeyReads.l0 k s true L e R e true (i : Int) = some true
  | d, i, L, hi, hL, 0, hk => by omega
  | 0, i, L, hi, hL, k + 1, hk => by
    obtain ⟨k, rfl⟩ : ∃ j, k = j + 1 := ⟨k - 1, by omega⟩
    have hs8 : R.length ≤ 8 := Rd.short hR
    rw [unisonlaw02_KeyReads.l0, if_neg (by omega), show unisonlaw02_number.f 5 = some (1, 5, ⟨#[]⟩) from rfl, some_bind, if_pos (by omega)]
    obtain ⟨R', h1, h2⟩ := decode_row hs (k := k + 1) (by omega)
    have := Rd.one h2 hR
    subst this
    rw [h1, some_bind, same_all R R (by omega) (by show R.length + 1 ≤ _; have : R.length ≤ 8 := hs8; omega), some_bind, decide_eq_true rfl, unisonlaw02_KeyReads.j1, if_pos rfl, if_pos rfl, if_pos rfl, if_pos rfl, beq_self_eq_true]
  | d + 1, i, L, hi, hL, k + 1, hk => by
    rw [unisonlaw02_KeyReads.l0, if_pos (by omega), show unisonlaw02_number.f (-9) = some (1, -9, ⟨#[]⟩) from rfl, some_bind, if_pos (by omega), w1 (by omega)]
    exact reads_loop s hs R e hR d (i + 1) _ (by rw [List.length_set]; omega) (by rw [List.length_set]; exact hL) k (by omega)
theorem KeyReads : ∀ (a0 : ByteArray), a0.size ≤ 140737488351232 → ∃ k, unisonlaw02_KeyReads.f k a0 = some true := by
  intro s hs
  refine ⟨2 * s.size + 400, ?_⟩
  unfold unisonlaw02_KeyReads.f
  by_cases h : (s.size : Int) > 2147483647
  · rw [if_pos h]
  · rw [if_neg h, awake_all (by omega), some_bind]
    obtain ⟨⟨R, e⟩, h1, h2⟩ := decode_row hs (k := 2 * s.size + 400) (by omega)
    obtain ⟨R', g1, g2⟩ := decode_ref hs (k := 2 * s.size + 400) (by omega)
    have := Rd.one g2 h2
    subst this
    have hs8 : R.length ≤ 8 := Rd.short h2
    rw [h1, some_bind, g1, some_bind, same_all R R (by omega) (by omega), some_bind, decide_eq_true rfl]
    exact reads_loop s hs R e h2 R.length 0 R (by omega) hs8 _ (by omega)
end Go.Proofs.YtohknmlcleifpaaDoor.Pure
