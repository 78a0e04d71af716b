/- The law ValueLogic: its program answers true at every list; no conditions beyond those in the theorem's head. -/
import Derived.Test.YteehcopkljiikaaDoorPFLValueLogic
import Derived.Test.YteehcopkljiikaaDoorPS6
import Derived.Test.YteehcopkljiikaaDoorPS5
import Derived.Test.YteehcopkljiikaaDoorXV
namespace Go.Proofs.YteehcopkljiikaaDoor.Pure
open Go.RowKit Go.Proofs.YteehcopkljiikaaDoorW.PrintWords Go.Proofs.YteehcopkljiikaaDoorW.PrintLast Go.Proofs.YteehcopkljiikaaDoorW.PrintMore Go.Proofs.YteehcopkljiikaaDoorX Go.Proofs.YteehcopkljiikaaDoorL Go.Proofs.YteehcopkljiikaaDoor.PA Go.Proofs.YteehcopkljiikaaDoor.PS Go.Proofs.YteehcopkljiikaaDoorV
set_option linter.unusedVariables false
set_option linter.unusedSimpArgs false

theorem ValueLogic : ∀ (l0 : List S23), (∀ x ∈ l0, Fine x) → l0.length * 32 ≤ 140737488351232 → ∃ k, unisonlaw01_ValueLogic.f k l0 = some true := by
  intro l _ _
  by_cases h : (l.length : Int) > 2147483647
  · exact ⟨0, by unfold unisonlaw01_ValueLogic.f; rw [if_pos h]⟩
  · refine ⟨4 * l.length + 400 + 1, ?_⟩
    unfold unisonlaw01_ValueLogic.f
    rw [if_neg h, awake_all (by omega), some_bind, lent_row l (by omega), some_bind, if_pos (by omega), if_pos (by rw [lent_length]; omega), lent_take, some_bind, and_row l (by omega) (by omega), some_bind, and_ref l (by omega) (by omega), some_bind,
      or_row l (by omega) (by omega), some_bind, or_ref l (by omega) (by omega), some_bind, kept_row l (by omega) (by omega), some_bind]
    have same : ∀ x y : Int × Int × ByteArray × Int, (if true = true then (if (x.1 == x.1 && (x.2.1 == x.2.1 && (x.2.2.1.toList == x.2.2.1.toList))) = true then (if x.2.2.2 = x.2.2.2 then (if (y.1 == y.1 && (y.2.1 == y.2.1 && (y.2.2.1.toList == y.2.2.1.toList))) = true then (some (y.2.2.2 == y.2.2.2)) else (none)) else (none)) else (none)) else (none)) = some true := by
      intro x y
      simp
    by_cases g : (l.length : Int) > 0
    · rw [if_pos g, if_pos (by omega), not_row _ (by omega), some_bind, not_ref _ (by omega), some_bind, if_pos rfl, if_pos (by simp), if_pos rfl]
      exact same _ _
    · rw [if_neg g, if_pos rfl]
      exact same _ _
end Go.Proofs.YteehcopkljiikaaDoor.Pure
