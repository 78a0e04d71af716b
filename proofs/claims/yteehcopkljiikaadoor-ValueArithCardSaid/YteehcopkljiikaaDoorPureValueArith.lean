/- The law ValueArith: its program answers true at every number and two values; no conditions beyond those in the theorem's head. -/
import Derived.Test.YteehcopkljiikaaDoorPFLValueArith
import Derived.Test.YteehcopkljiikaaDoorPS4
namespace Go.Proofs.YteehcopkljiikaaDoor.Pure
open Go.RowKit Go.Proofs.YteehcopkljiikaaDoorW.PrintWords Go.Proofs.YteehcopkljiikaaDoorW.PrintLast Go.Proofs.YteehcopkljiikaaDoorW.PrintMore Go.Proofs.YteehcopkljiikaaDoorX Go.Proofs.YteehcopkljiikaaDoorL Go.Proofs.YteehcopkljiikaaDoor.PA Go.Proofs.YteehcopkljiikaaDoor.PS
set_option linter.unusedVariables false
set_option linter.unusedSimpArgs false

theorem ValueArith : ∀ (a0 : Int) (a1_0 a1_1 : Int) (a1_2 : ByteArray) (a2_0 a2_1 : Int) (a2_2 : ByteArray), (Lit.int .i64 a0).wf = true → (Lit.int .i64 a1_0).wf = true → (Lit.int .i64 a1_1).wf = true → (Lit.int .i64 a2_0).wf = true → (Lit.int .i64 a2_1).wf = true → ∃ k, unisonlaw01_ValueArith.f k a0 a1_0 a1_1 a1_2 a2_0 a2_1 a2_2 = some true := by
  intro op a b c d e f _ _ _ _ _
  refine ⟨400, ?_⟩
  unfold unisonlaw01_ValueArith.f
  have h1 := arith_row op ⟨a, b, c⟩ ⟨d, e, f⟩ (k := 400) (by omega)
  have h2 := arith_ref op ⟨a, b, c⟩ ⟨d, e, f⟩ (k := 400) (by omega)
  have h3 := neg_row ⟨a, b, c⟩ (k := 400) (by omega)
  have h4 := neg_ref ⟨a, b, c⟩ (k := 400) (by omega)
  simp only at h1 h2 h3 h4
  rw [awake_all (by omega), some_bind, h1, some_bind, h2, some_bind, h3, some_bind, h4, some_bind, if_pos rfl, if_pos (by simp), if_pos rfl, if_pos (by simp), beq_self_eq_true]
end Go.Proofs.YteehcopkljiikaaDoor.Pure
