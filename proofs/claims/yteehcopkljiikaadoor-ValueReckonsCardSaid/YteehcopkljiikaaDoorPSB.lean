/- The document's Bool; no conditions beyond those in each theorem's head. -/
import Derived.Test.YteehcopkljiikaaDoorMB
import Derived.Test.YteehcopkljiikaaDoorPS1
namespace Go.Proofs.YteehcopkljiikaaDoor.PS
open Go.RowKit Go.Proofs.YteehcopkljiikaaDoorW.PrintWords Go.Proofs.YteehcopkljiikaaDoorW.PrintLast Go.Proofs.YteehcopkljiikaaDoorW.PrintMore Go.Proofs.YteehcopkljiikaaDoorX Go.Proofs.YteehcopkljiikaaDoorL Go.Proofs.YteehcopkljiikaaDoor.PA
set_option linter.unusedVariables false
set_option linter.unusedSimpArgs false

theorem bool_eq (b : Bool) : unisonref01_Bool.f b = some (2, (if b = true then 1 else 0), ⟨#[]⟩) := by cases b <;> rfl
end Go.Proofs.YteehcopkljiikaaDoor.PS
