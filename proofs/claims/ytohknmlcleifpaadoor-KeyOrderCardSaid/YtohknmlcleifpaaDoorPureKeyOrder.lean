/- The law KeyOrder: its program answers true at every two lists; no conditions beyond those in the theorem's head. -/
import Derived.Test.YtohknmlcleifpaaDoorPS3
import Derived.Test.YtohknmlcleifpaaDoorPS7
import Derived.Test.YtohknmlcleifpaaDoorPAx17
import Derived.Test.YtohknmlcleifpaaDoorXV
namespace Go.Proofs.YtohknmlcleifpaaDoor.Pure
open Go.RowKit Go.Proofs.YtohknmlcleifpaaDoorW.PrintWords Go.Proofs.YtohknmlcleifpaaDoorW.PrintLast Go.Proofs.YtohknmlcleifpaaDoorW.PrintMore Go.Proofs.YtohknmlcleifpaaDoorX Go.Proofs.YtohknmlcleifpaaDoorL Go.Proofs.YtohknmlcleifpaaDoor.PA Go.Proofs.YtohknmlcleifpaaDoor.PS Go.Proofs.YtohknmlcleifpaaDoorV
set_option linter.unusedVariables false
set_option linter.unusedSimpArgs false

theorem KeyOrder : ∀ (l0 l1 : List S25), (∀ x ∈ l0, Fine x) → l0.length * 32 ≤ 140737488351232 → (∀ x ∈ l1, Fine x) → l1.length * 32 ≤ 140737488351232 → ∃ k, unisonlaw02_KeyOrder.f k l0 l1 = some true := by
  intro x y _ _ _ _
  refine ⟨x.length + 400 + 1 + 1 + 1 + 1, ?_⟩
  unfold unisonlaw02_KeyOrder.f
  have done : ∀ k, unisonlaw02_KeyOrder.j0 (k + 1) x y true = some true := fun k => by rw [unisonlaw02_KeyOrder.j0, if_pos rfl]
  by_cases hx : (x.length : Int) > 2147483647
  · rw [if_pos hx]; exact done _
  · rw [if_neg hx]
    by_cases hy : (y.length : Int) > 2147483647
    · rw [decide_eq_true hy]; exact done _
    · rw [decide_eq_false hy, unisonlaw02_KeyOrder.j0, if_neg (by decide), awake_all (by omega), some_bind, encode_row x (by omega), some_bind, encode_row y (by omega), some_bind, encode_ref x (by omega), some_bind, encode_ref y (by omega), some_bind,
        if_pos rfl, unisonlaw02_KeyOrder.j1, bne_self_eq_false, if_neg (by decide)]
      have done2 : ∀ k s t, unisonlaw02_KeyOrder.j2 (k + 1) x y true s t true = some true := fun k s t => by rw [unisonlaw02_KeyOrder.j2, if_pos rfl]
      by_cases h0 : (encK x).2 = 0
      · rw [if_pos h0]
        by_cases h1 : (encK y).2 = 0
        · rw [show ((encK y).2 != 0) = false from by rw [h1]; rfl]
          obtain ⟨ox, ex⟩ := encK_of h0
          obtain ⟨oy, ey⟩ := encK_of h1
          have hlx := enc_length ox.2
          have hx8 := ox.1
          rw [unisonlaw02_KeyOrder.j2, if_neg (by decide), ex, ey]
          obtain ⟨R, d1, d2⟩ := decode_row (s := strOfNums (enc x)) (by rw [size_strOfNums]; omega) (k := x.length + 400 + 1) (by omega)
          rw [bytesOf_strOfNums (enc_bytes x)] at d2
          have e := Rd.one d2 (.inl ⟨x, rfl, ox, rfl⟩)
          subst e
          obtain ⟨o1, o2⟩ := enc_order ox.2 oy.2
          rw [d1, some_bind, same_all x x (by omega) (by omega), some_bind, decide_eq_true rfl, order_row x y (by omega) (by omega), some_bind, bytesLess_eq, bytesLess_eq, bytesOf_strOfNums (enc_bytes x), bytesOf_strOfNums (enc_bytes y), o1, o2]
          by_cases c1 : cmpL x y = -1
          · rw [if_pos (decide_eq_true c1), if_pos rfl, if_pos rfl, if_pos rfl, c1]; rfl
          · rw [if_neg (by rw [decide_eq_false c1]; decide)]
            by_cases c2 : cmpL x y = 1
            · rw [if_pos (decide_eq_true c2), if_pos rfl, if_pos rfl, if_pos rfl, c2]; rfl
            · rw [if_neg (by rw [decide_eq_false c2]; decide), same_all x y (by omega) (by omega), some_bind]
              have c0 : cmpL x y = 0 := by rcases cmpL_is x y with h | h | h <;> omega
              rw [unisonlaw02_KeyOrder.j3, if_pos rfl, if_pos rfl, if_pos rfl, if_pos c0, decide_eq_true (cmpL_eq c0)]
        · rw [show ((encK y).2 != 0) = true from bne_iff_ne.2 h1]
          exact done2 _ _ _
      · rw [if_neg h0]
        exact done2 _ _ _
end Go.Proofs.YtohknmlcleifpaaDoor.Pure
