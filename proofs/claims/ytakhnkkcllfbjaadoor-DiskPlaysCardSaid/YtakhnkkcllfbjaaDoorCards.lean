/-
  DERIVED. GIVEN WITH THE SEED: THE CARDS: each row of YtakhnkkcllfbjaaDoorRows.lean that lists a variable, with what it lists TIED to the program's text (the seventh form; the later family's looks); each row that meets fmt, with fmt's text TOLD by the authors' own Lean function (tested against real Go, not proved from fmt's source: count such statements apart). THE CARD IS WHAT COUNTS. Prove the row's statement (the work); the ties are given (YtakhnkkcllfbjaaDoorTie.lean); close each card by the builder's one call (the guide's Derived/Test/ToyasCard.lean, 'card_holds'). Laid BY PROGRAM, IN A SANDBOX (cutbox-door.mjs). By AI agents, Wed Nov 11 2026. No macro, syntax, notation, axiom, sorry.
-/
import Derived.Test.YtakhnkkcllfbjaaDoorRows
import GoSem.ClaimSeven
namespace Go.Proofs.YtakhnkkcllfbjaaDoor
namespace Rows

/-- THE TIED CARD OF 'unisonlaw04.DiskGrows'. -/
def diskGrowsCard : Claim7 := { stood := { row := diskGrowsRow, standIns := [], harness := (true, "970f53f0fcb91533600d341555ee3541c10e57ba612e998be3940599362fab2f"), looks := false }, kinds := [], alts := [], laidByText := true, laidKinds := [.data, .pinned], laidTests := true, laidLooks := .later }
def DiskGrowsCardSaid : Prop := Claim7.holds Tryd.pinned (.plain (OpenSpec.ofChange diskGrowsSpec)) diskGrowsCard

/-- THE TIED CARD OF 'unisonlaw04.DiskAtomic'. -/
def diskAtomicCard : Claim7 := { stood := { row := diskAtomicRow, standIns := [], harness := (true, "970f53f0fcb91533600d341555ee3541c10e57ba612e998be3940599362fab2f"), looks := false }, kinds := [], alts := [], laidByText := true, laidKinds := [.data, .pinned], laidTests := true, laidLooks := .later }
def DiskAtomicCardSaid : Prop := Claim7.holds Tryd.pinned (.plain (OpenSpec.ofChange diskAtomicSpec)) diskAtomicCard

/-- THE TIED CARD OF 'unisonlaw04.DiskCrashes'. -/
def diskCrashesCard : Claim7 := { stood := { row := diskCrashesRow, standIns := [], harness := (true, "970f53f0fcb91533600d341555ee3541c10e57ba612e998be3940599362fab2f"), looks := false }, kinds := [], alts := [], laidByText := true, laidKinds := [.data, .pinned], laidTests := true, laidLooks := .later }
def DiskCrashesCardSaid : Prop := Claim7.holds Tryd.pinned (.plain (OpenSpec.ofChange diskCrashesSpec)) diskCrashesCard

/-- THE TIED CARD OF 'unisonlaw04.DiskArmed'. -/
def diskArmedCard : Claim7 := { stood := { row := diskArmedRow, standIns := [], harness := (true, "970f53f0fcb91533600d341555ee3541c10e57ba612e998be3940599362fab2f"), looks := false }, kinds := [], alts := [], laidByText := true, laidKinds := [.data, .pinned], laidTests := true, laidLooks := .later }
def DiskArmedCardSaid : Prop := Claim7.holds Tryd.pinned (.plain (OpenSpec.ofChange diskArmedSpec)) diskArmedCard

/-- THE TIED CARD OF 'unisonlaw04.DiskPlays'. -/
def diskPlaysCard : Claim7 := { stood := { row := diskPlaysRow, standIns := [], harness := (true, "970f53f0fcb91533600d341555ee3541c10e57ba612e998be3940599362fab2f"), looks := false }, kinds := [], alts := [], laidByText := true, laidKinds := [.data, .pinned], laidTests := true, laidLooks := .later }
def DiskPlaysCardSaid : Prop := Claim7.holds Tryd.pinned (.plain (OpenSpec.ofChange diskPlaysSpec)) diskPlaysCard

/-- THE SECOND FORM's CARD OF 'unisonlaw04.DiskGrows'. -/
def diskGrowsUptoCard : Claim7 := { stood := { row := diskGrowsUptoRow, standIns := [], harness := (true, "970f53f0fcb91533600d341555ee3541c10e57ba612e998be3940599362fab2f"), looks := false }, kinds := [], alts := [], laidByText := true, laidKinds := [.data, .pinned], laidTests := true, laidLooks := .later }
def DiskGrowsUptoCardSaid : Prop := Claim7.holds Tryd.pinned (.plain (OpenSpec.upto diskGrowsSpec)) diskGrowsUptoCard

/-- THE SECOND FORM's CARD OF 'unisonlaw04.DiskAtomic'. -/
def diskAtomicUptoCard : Claim7 := { stood := { row := diskAtomicUptoRow, standIns := [], harness := (true, "970f53f0fcb91533600d341555ee3541c10e57ba612e998be3940599362fab2f"), looks := false }, kinds := [], alts := [], laidByText := true, laidKinds := [.data, .pinned], laidTests := true, laidLooks := .later }
def DiskAtomicUptoCardSaid : Prop := Claim7.holds Tryd.pinned (.plain (OpenSpec.upto diskAtomicSpec)) diskAtomicUptoCard

/-- THE SECOND FORM's CARD OF 'unisonlaw04.DiskCrashes'. -/
def diskCrashesUptoCard : Claim7 := { stood := { row := diskCrashesUptoRow, standIns := [], harness := (true, "970f53f0fcb91533600d341555ee3541c10e57ba612e998be3940599362fab2f"), looks := false }, kinds := [], alts := [], laidByText := true, laidKinds := [.data, .pinned], laidTests := true, laidLooks := .later }
def DiskCrashesUptoCardSaid : Prop := Claim7.holds Tryd.pinned (.plain (OpenSpec.upto diskCrashesSpec)) diskCrashesUptoCard

/-- THE SECOND FORM's CARD OF 'unisonlaw04.DiskArmed'. -/
def diskArmedUptoCard : Claim7 := { stood := { row := diskArmedUptoRow, standIns := [], harness := (true, "970f53f0fcb91533600d341555ee3541c10e57ba612e998be3940599362fab2f"), looks := false }, kinds := [], alts := [], laidByText := true, laidKinds := [.data, .pinned], laidTests := true, laidLooks := .later }
def DiskArmedUptoCardSaid : Prop := Claim7.holds Tryd.pinned (.plain (OpenSpec.upto diskArmedSpec)) diskArmedUptoCard

/-- THE SECOND FORM's CARD OF 'unisonlaw04.DiskPlays'. -/
def diskPlaysUptoCard : Claim7 := { stood := { row := diskPlaysUptoRow, standIns := [], harness := (true, "970f53f0fcb91533600d341555ee3541c10e57ba612e998be3940599362fab2f"), looks := false }, kinds := [], alts := [], laidByText := true, laidKinds := [.data, .pinned], laidTests := true, laidLooks := .later }
def DiskPlaysUptoCardSaid : Prop := Claim7.holds Tryd.pinned (.plain (OpenSpec.upto diskPlaysSpec)) diskPlaysUptoCard
end Rows
end Go.Proofs.YtakhnkkcllfbjaaDoor
