/- A type's zero value, its size; no conditions. -/
import Derived.Test.YteehcopkljiikaaDoorPAx0
namespace Go.Proofs.YteehcopkljiikaaDoor.PA
open Go.RowKit
theorem info5 : (Tryd.prog.info? 5).map (fun i => (i.zero, i.size, i.bytes)) = some (some (.int .u8 0), 1, 1) := by kernel_rfl
end Go.Proofs.YteehcopkljiikaaDoor.PA
