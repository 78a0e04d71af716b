/- The numbers of package api are those of the document: the statement Names of unisontop, a closed one: no conditions. -/
import Derived.Test.YtdoinielfgcnbaaPNamesx1
namespace Go.Proofs.Ytdoinielfgcnbaa.Pure
open Go.RowKit Go.Proofs.Ytdoinielfgcnbaa.PNames Go.Proofs.YtdoinielfgcnbaaW.PrintWords Go.Proofs.YtdoinielfgcnbaaW.PrintLast

/-- YOURS: unisontop_Names.f  = some true
What it reaches (each with k first where it has rounds; `.mono`: more rounds tell the same; `.l0`, ..: its loops, with `.mono_l`): unisontop_heldA.f, unisontop_heldB.f, unisontop_heldC.f, unisontop_heldD.f, unisontop_heldE.f, unisontop_heldF.f, unisontop_heldG.f, unisontop_heldH.f, unisontop_heldI.f, unisontop_Names.f -/
theorem Names : unisontop_Names.Pure := by
  rfl

end Go.Proofs.Ytdoinielfgcnbaa.Pure
