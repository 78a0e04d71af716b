/- Waking, where all of Print is told; no conditions beyond those in each theorem's head. -/
import Derived.Test.YteehcopkljiikaaDoorPS0
import Derived.Test.YteehcopkljiikaaDoorPFLAwakeG
namespace Go.Proofs.YteehcopkljiikaaDoor.PS
open Go.RowKit Go.Proofs.YteehcopkljiikaaDoorW.PrintWords Go.Proofs.YteehcopkljiikaaDoorW.PrintLast Go.Proofs.YteehcopkljiikaaDoorW.PrintMore Go.Proofs.YteehcopkljiikaaDoorX Go.Proofs.YteehcopkljiikaaDoorL Go.Proofs.YteehcopkljiikaaDoor.PA
set_option linter.unusedVariables false
set_option linter.unusedSimpArgs false

theorem awake_300 : unisonlaw01_awake.f 300 = some true := by decide +kernel
theorem awake_all {k : Nat} (hk : 300 ≤ k) : unisonlaw01_awake.f k = some true := at_rounds unisonlaw01_awake.mono hk awake_300
end Go.Proofs.YteehcopkljiikaaDoor.PS
