/- The law ValueSums: its program answers true at every list; no conditions beyond those in the theorem's head. -/
import Derived.Test.YteehcopkljiikaaDoorPFLValueSums
import Derived.Test.YteehcopkljiikaaDoorPS8
import Derived.Test.YteehcopkljiikaaDoorPS5
import Derived.Test.YteehcopkljiikaaDoorXV
namespace Go.Proofs.YteehcopkljiikaaDoor.Pure
open Go.RowKit Go.Proofs.YteehcopkljiikaaDoorW.PrintWords Go.Proofs.YteehcopkljiikaaDoorW.PrintLast Go.Proofs.YteehcopkljiikaaDoorW.PrintMore Go.Proofs.YteehcopkljiikaaDoorX Go.Proofs.YteehcopkljiikaaDoorL Go.Proofs.YteehcopkljiikaaDoor.PA Go.Proofs.YteehcopkljiikaaDoor.PS Go.Proofs.YteehcopkljiikaaDoorV
set_option linter.unusedVariables false
set_option linter.unusedSimpArgs false

theorem ValueSums : ∀ (l0 : List S23), (∀ x ∈ l0, Fine x) → l0.length * 32 ≤ 140737488351232 → ∃ k, unisonlaw01_ValueSums.f k l0 = some true := by
  intro l _ _
  by_cases h : (l.length : Int) > 2147483647
  · exact ⟨0, by unfold unisonlaw01_ValueSums.f; rw [if_pos h]⟩
  · refine ⟨4 * l.length + 400 + 1, ?_⟩
    unfold unisonlaw01_ValueSums.f
    rw [if_neg h, awake_all (by omega), some_bind, lent_row l (by omega), some_bind, if_pos (by omega), if_pos (by rw [lent_length]; omega), lent_take, sum_row l (by omega) (by omega), some_bind, sum_ref l (by omega) (by omega), some_bind, kept_row l (by omega) (by omega), some_bind,
      unisonlaw01_ValueSums.j0, if_pos rfl, if_pos rfl, if_pos (by simp), beq_self_eq_true]
end Go.Proofs.YteehcopkljiikaaDoor.Pure
