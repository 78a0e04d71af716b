/- The law KeyOrders: its program answers true at every two lists and text; no conditions beyond those in the theorem's head. -/
import Derived.Test.YtohknmlcleifpaaDoorPS5
import Derived.Test.YtohknmlcleifpaaDoorPB2
import Derived.Test.YtohknmlcleifpaaDoorXV
namespace Go.Proofs.YtohknmlcleifpaaDoor.Pure
open Go.RowKit Go.Proofs.YtohknmlcleifpaaDoorW.PrintWords Go.Proofs.YtohknmlcleifpaaDoorW.PrintLast Go.Proofs.YtohknmlcleifpaaDoorW.PrintMore Go.Proofs.YtohknmlcleifpaaDoorX Go.Proofs.YtohknmlcleifpaaDoorL Go.Proofs.YtohknmlcleifpaaDoor.PA Go.Proofs.YtohknmlcleifpaaDoor.PS Go.Proofs.YtohknmlcleifpaaDoorV
set_option linter.unusedVariables false
set_option linter.unusedSimpArgs false

theorem copy_front {l : List S25} (n : Nat) (hn : n = l.length + 1) : cpy (List.replicate n z25) l = l ++ [z25] := by
  unfold cpy
  rw [List.length_replicate, List.take_of_length_le (by omega), List.drop_replicate, show n - l.length = 1 from by omega]; rfl
theorem KeyOrders : ∀ (l0 l1 : List S25) (a2 : ByteArray), (∀ x ∈ l0, Fine x) → l0.length * 32 ≤ 140737488351232 → (∀ x ∈ l1, Fine x) → l1.length * 32 ≤ 140737488351232 → a2.size ≤ 140737488351232 → ∃ k, unisonlaw02_KeyOrders.f k l0 l1 a2 = some true := by
  intro x y s _ _ _ _ _
  refine ⟨2 * x.length + y.length + s.size + 400 + 1 + 1, ?_⟩
  unfold unisonlaw02_KeyOrders.f
  have done : ∀ k, unisonlaw02_KeyOrders.j0 (k + 1) x y s true = some true := fun k => by rw [unisonlaw02_KeyOrders.j0, if_pos rfl]
  by_cases hx : (x.length : Int) > 2147483647
  · rw [if_pos hx]; exact done _
  · rw [if_neg hx]
    by_cases hy : (y.length : Int) > 2147483647
    · rw [if_pos hy]; exact done _
    · rw [if_neg hy]
      by_cases hs : (s.size : Int) > 2147483647
      · rw [decide_eq_true hs]; exact done _
      · have ex : wrap64 ((x.length : Int) + 1) = ((x.length + 1 : Nat) : Int) := w1 (by omega)
        have ey : wrap64 ((y.length : Int) + 1) = ((y.length + 1 : Nat) : Int) := w1 (by omega)
        rw [decide_eq_false hs, unisonlaw02_KeyOrders.j0, if_neg (by decide), awake_all (by omega), some_bind, ex, ey, if_pos (by omega), Int.toNat_natCast, if_pos (by omega), copy_front _ rfl, some_bind,
          if_pos (by omega), Int.toNat_natCast, if_pos (by omega), copy_front _ rfl, some_bind, if_pos (by omega), if_pos (by rw [List.length_append]; omega), Int.toNat_natCast, List.take_left, some_bind,
          if_pos (by omega), if_pos (by rw [List.length_append]; omega), Int.toNat_natCast, List.take_left, some_bind]
        rw [order_row x y (by omega) (by omega), some_bind, order_ref x y (by omega) (by omega), some_bind, same_all x x (by omega) (by omega), some_bind, same_all y y (by omega) (by omega), some_bind,
          next_row s (by omega) (by omega), some_bind, next_ref s (by omega) (by omega), some_bind, unisonlaw02_KeyOrders.j1, if_pos rfl, if_pos (decide_eq_true rfl), if_pos (decide_eq_true rfl), if_pos rfl, if_pos rfl, beq_self_eq_true]
end Go.Proofs.YtohknmlcleifpaaDoor.Pure
