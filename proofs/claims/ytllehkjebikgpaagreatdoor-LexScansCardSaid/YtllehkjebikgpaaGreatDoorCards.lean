/-
  DERIVED. GIVEN WITH THE SEED: THE CARDS: each row of YtllehkjebikgpaaGreatDoorRows.lean that lists a variable, with what it lists TIED to the program's text (the seventh form; the later family's looks); each row that meets fmt, with fmt's text TOLD by the authors' own Lean function (tested against real Go, not proved from fmt's source: count such statements apart). THE CARD IS WHAT COUNTS. Prove the row's statement (the work); the ties are given (YtllehkjebikgpaaGreatDoorTie.lean); close each card by the builder's one call (the guide's Derived/Test/ToyasCard.lean, 'card_holds'). Laid BY PROGRAM, IN A SANDBOX (cutbox-door.mjs). By AI agents, Wed Nov 11 2026. No macro, syntax, notation, axiom, sorry.
-/
import Derived.Test.YtllehkjebikgpaaGreatDoorRows
import GoSem.ClaimSeven
namespace Go.Proofs.YtllehkjebikgpaaGreatDoor
namespace Rows

/-- THE TIED CARD OF 'unisonlaw10.LexScans'. -/
def lexScansCard : Claim7 := { stood := { row := lexScansRow, standIns := [], harness := (true, "35e8b9959d92f0a735dc7258c948e3de69b6b5ae67f1a7e8940b3da8ce4a8044"), looks := true }, kinds := [], alts := [], laidByText := true, laidKinds := [.data, .data, .data, .data, .sentinel, .sentinel, .pinned, .pinned], laidTests := true, laidLooks := .later }
def LexScansCardSaid : Prop := Claim7.holds Tryz.pinned (.plain (OpenSpec.ofChange lexScansSpec)) lexScansCard

/-- THE SECOND FORM's CARD OF 'unisonlaw10.LexScans'. -/
def lexScansUptoCard : Claim7 := { stood := { row := lexScansUptoRow, standIns := [], harness := (true, "35e8b9959d92f0a735dc7258c948e3de69b6b5ae67f1a7e8940b3da8ce4a8044"), looks := true }, kinds := [], alts := [], laidByText := true, laidKinds := [.data, .data, .data, .data, .sentinel, .sentinel, .pinned, .pinned], laidTests := true, laidLooks := .later }
def LexScansUptoCardSaid : Prop := Claim7.holds Tryz.pinned (.plain (OpenSpec.upto lexScansSpec)) lexScansUptoCard
end Rows
end Go.Proofs.YtllehkjebikgpaaGreatDoor
