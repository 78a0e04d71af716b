/- The law ValueSays: its program answers true at every value and text; no conditions beyond those in the theorem's head. -/
import Derived.Test.YteehcopkljiikaaDoorMP
import Derived.Test.YteehcopkljiikaaDoorPFLValueSays
namespace Go.Proofs.YteehcopkljiikaaDoor.Pure
open Go.RowKit Go.Proofs.YteehcopkljiikaaDoorW.PrintWords Go.Proofs.YteehcopkljiikaaDoorW.PrintLast Go.Proofs.YteehcopkljiikaaDoorW.PrintMore Go.Proofs.YteehcopkljiikaaDoorX Go.Proofs.YteehcopkljiikaaDoorL Go.Proofs.YteehcopkljiikaaDoor.PA Go.Proofs.YteehcopkljiikaaDoor.PS
set_option linter.unusedVariables false
set_option linter.unusedSimpArgs false

theorem ValueSays : ∀ (a0_0 a0_1 : Int) (a0_2 : ByteArray) (a1 : ByteArray), (Lit.int .i64 a0_0).wf = true → (Lit.int .i64 a0_1).wf = true → a1.size ≤ 140737488351232 → ∃ k, unisonlaw01_ValueSays.f k a0_0 a0_1 a0_2 a1 = some true := by
  intro a b c s _ _ _
  by_cases h : (s.size : Int) > 2147483647
  · exact ⟨0, by unfold unisonlaw01_ValueSays.f; rw [if_pos h]⟩
  · obtain ⟨r, h1, h2⟩ := parse_both s (by omega)
    refine ⟨2 * s.size + 1000, ?_⟩
    have p1 := print_eq ⟨a, b, c⟩
    have p2 := print_ref ⟨a, b, c⟩ (k := 2 * s.size + 1000) (by omega)
    simp only at p1 p2
    unfold unisonlaw01_ValueSays.f
    rw [if_neg h, awake_all (by omega), some_bind, p1, some_bind, p2, some_bind, h1, some_bind, h2 _ (by omega), some_bind, if_pos rfl, if_pos rfl, if_pos rfl, if_pos (by simp), beq_self_eq_true]
end Go.Proofs.YteehcopkljiikaaDoor.Pure
