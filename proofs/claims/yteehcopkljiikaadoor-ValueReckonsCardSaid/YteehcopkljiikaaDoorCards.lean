/-
  DERIVED. GIVEN WITH THE SEED: THE CARDS: each row of YteehcopkljiikaaDoorRows.lean that lists a variable, with what it lists TIED to the program's text (the seventh form; the later family's looks); each row that meets fmt, with fmt's text TOLD by the authors' own Lean function (tested against real Go, not proved from fmt's source: count such statements apart). THE CARD IS WHAT COUNTS. Prove the row's statement (the work); the ties are given (YteehcopkljiikaaDoorTie.lean); close each card by the builder's one call (the guide's Derived/Test/ToyasCard.lean, 'card_holds'). Laid BY PROGRAM, IN A SANDBOX (cutbox-door.mjs). By AI agents, Wed Nov 11 2026. No macro, syntax, notation, axiom, sorry.
-/
import Derived.Test.YteehcopkljiikaaDoorRows
import GoSem.ClaimSeven
namespace Go.Proofs.YteehcopkljiikaaDoor
namespace Rows

/-- THE TIED CARD OF 'unisonlaw01.ValueOrders'. -/
def valueOrdersCard : Claim7 := { stood := { row := valueOrdersRow, standIns := [], harness := (true, "e3911ffb57493da0e5445cda139b07fd88490141209d8ca4e541fc2d96613dd5"), looks := true }, kinds := [], alts := [], laidByText := true, laidKinds := [.data, .data, .data, .data, .pinned, .pinned], laidTests := true, laidLooks := .later }
def ValueOrdersCardSaid : Prop := Claim7.holds Tryd.pinned (.plain (OpenSpec.ofChange valueOrdersSpec)) valueOrdersCard

/-- THE TIED CARD OF 'unisonlaw01.ValueSums'. -/
def valueSumsCard : Claim7 := { stood := { row := valueSumsRow, standIns := [], harness := (true, "e3911ffb57493da0e5445cda139b07fd88490141209d8ca4e541fc2d96613dd5"), looks := true }, kinds := [], alts := [], laidByText := true, laidKinds := [.data, .data, .data, .data, .pinned, .pinned], laidTests := true, laidLooks := .later }
def ValueSumsCardSaid : Prop := Claim7.holds Tryd.pinned (.plain (OpenSpec.ofChange valueSumsSpec)) valueSumsCard

/-- THE TIED CARD OF 'unisonlaw01.ValueOrderly'. -/
def valueOrderlyCard : Claim7 := { stood := { row := valueOrderlyRow, standIns := [], harness := (true, "e3911ffb57493da0e5445cda139b07fd88490141209d8ca4e541fc2d96613dd5"), looks := true }, kinds := [], alts := [], laidByText := true, laidKinds := [.data, .data, .data, .data, .pinned, .pinned], laidTests := true, laidLooks := .later }
def ValueOrderlyCardSaid : Prop := Claim7.holds Tryd.pinned (.plain (OpenSpec.ofChange valueOrderlySpec)) valueOrderlyCard

/-- THE TIED CARD OF 'unisonlaw01.ValueReckons'. -/
def valueReckonsCard : Claim7 := { stood := { row := valueReckonsRow, standIns := [], harness := (true, "e3911ffb57493da0e5445cda139b07fd88490141209d8ca4e541fc2d96613dd5"), looks := true }, kinds := [], alts := [], laidByText := true, laidKinds := [.data, .data, .data, .data, .pinned, .pinned], laidTests := true, laidLooks := .later }
def ValueReckonsCardSaid : Prop := Claim7.holds Tryd.pinned (.plain (OpenSpec.ofChange valueReckonsSpec)) valueReckonsCard

/-- THE TIED CARD OF 'unisonlaw01.ValueArith'. -/
def valueArithCard : Claim7 := { stood := { row := valueArithRow, standIns := [], harness := (true, "e3911ffb57493da0e5445cda139b07fd88490141209d8ca4e541fc2d96613dd5"), looks := true }, kinds := [], alts := [], laidByText := true, laidKinds := [.data, .data, .data, .data, .pinned, .pinned], laidTests := true, laidLooks := .later }
def ValueArithCardSaid : Prop := Claim7.holds Tryd.pinned (.plain (OpenSpec.ofChange valueArithSpec)) valueArithCard

/-- THE TIED CARD OF 'unisonlaw01.ValueLogic'. -/
def valueLogicCard : Claim7 := { stood := { row := valueLogicRow, standIns := [], harness := (true, "e3911ffb57493da0e5445cda139b07fd88490141209d8ca4e541fc2d96613dd5"), looks := true }, kinds := [], alts := [], laidByText := true, laidKinds := [.data, .data, .data, .data, .pinned, .pinned], laidTests := true, laidLooks := .later }
def ValueLogicCardSaid : Prop := Claim7.holds Tryd.pinned (.plain (OpenSpec.ofChange valueLogicSpec)) valueLogicCard

/-- THE TIED CARD OF 'unisonlaw01.ValueKleene'. -/
def valueKleeneCard : Claim7 := { stood := { row := valueKleeneRow, standIns := [], harness := (true, "e3911ffb57493da0e5445cda139b07fd88490141209d8ca4e541fc2d96613dd5"), looks := true }, kinds := [], alts := [], laidByText := true, laidKinds := [.data, .data, .data, .data, .pinned, .pinned], laidTests := true, laidLooks := .later }
def ValueKleeneCardSaid : Prop := Claim7.holds Tryd.pinned (.plain (OpenSpec.ofChange valueKleeneSpec)) valueKleeneCard

/-- THE TIED CARD OF 'unisonlaw01.ValueSays'. -/
def valueSaysCard : Claim7 := { stood := { row := valueSaysRow, standIns := [], harness := (true, "e3911ffb57493da0e5445cda139b07fd88490141209d8ca4e541fc2d96613dd5"), looks := true }, kinds := [], alts := [], laidByText := true, laidKinds := [.data, .data, .data, .data, .sentinel, .sentinel, .pinned, .pinned], laidTests := true, laidLooks := .later }
def ValueSaysCardSaid : Prop := Claim7.holds Tryd.pinned (.plain (OpenSpec.ofChange valueSaysSpec)) valueSaysCard

/-- THE TIED CARD OF 'unisonlaw01.ValueBack'. -/
def valueBackCard : Claim7 := { stood := { row := valueBackRow, standIns := [], harness := (true, "e3911ffb57493da0e5445cda139b07fd88490141209d8ca4e541fc2d96613dd5"), looks := true }, kinds := [], alts := [], laidByText := true, laidKinds := [.data, .data, .data, .data, .sentinel, .sentinel, .pinned, .pinned], laidTests := true, laidLooks := .later }
def ValueBackCardSaid : Prop := Claim7.holds Tryd.pinned (.plain (OpenSpec.ofChange valueBackSpec)) valueBackCard

/-- THE SECOND FORM's CARD OF 'unisonlaw01.ValueOrders'. -/
def valueOrdersUptoCard : Claim7 := { stood := { row := valueOrdersUptoRow, standIns := [], harness := (true, "e3911ffb57493da0e5445cda139b07fd88490141209d8ca4e541fc2d96613dd5"), looks := true }, kinds := [], alts := [], laidByText := true, laidKinds := [.data, .data, .data, .data, .pinned, .pinned], laidTests := true, laidLooks := .later }
def ValueOrdersUptoCardSaid : Prop := Claim7.holds Tryd.pinned (.plain (OpenSpec.upto valueOrdersSpec)) valueOrdersUptoCard

/-- THE SECOND FORM's CARD OF 'unisonlaw01.ValueSums'. -/
def valueSumsUptoCard : Claim7 := { stood := { row := valueSumsUptoRow, standIns := [], harness := (true, "e3911ffb57493da0e5445cda139b07fd88490141209d8ca4e541fc2d96613dd5"), looks := true }, kinds := [], alts := [], laidByText := true, laidKinds := [.data, .data, .data, .data, .pinned, .pinned], laidTests := true, laidLooks := .later }
def ValueSumsUptoCardSaid : Prop := Claim7.holds Tryd.pinned (.plain (OpenSpec.upto valueSumsSpec)) valueSumsUptoCard

/-- THE SECOND FORM's CARD OF 'unisonlaw01.ValueOrderly'. -/
def valueOrderlyUptoCard : Claim7 := { stood := { row := valueOrderlyUptoRow, standIns := [], harness := (true, "e3911ffb57493da0e5445cda139b07fd88490141209d8ca4e541fc2d96613dd5"), looks := true }, kinds := [], alts := [], laidByText := true, laidKinds := [.data, .data, .data, .data, .pinned, .pinned], laidTests := true, laidLooks := .later }
def ValueOrderlyUptoCardSaid : Prop := Claim7.holds Tryd.pinned (.plain (OpenSpec.upto valueOrderlySpec)) valueOrderlyUptoCard

/-- THE SECOND FORM's CARD OF 'unisonlaw01.ValueReckons'. -/
def valueReckonsUptoCard : Claim7 := { stood := { row := valueReckonsUptoRow, standIns := [], harness := (true, "e3911ffb57493da0e5445cda139b07fd88490141209d8ca4e541fc2d96613dd5"), looks := true }, kinds := [], alts := [], laidByText := true, laidKinds := [.data, .data, .data, .data, .pinned, .pinned], laidTests := true, laidLooks := .later }
def ValueReckonsUptoCardSaid : Prop := Claim7.holds Tryd.pinned (.plain (OpenSpec.upto valueReckonsSpec)) valueReckonsUptoCard

/-- THE SECOND FORM's CARD OF 'unisonlaw01.ValueArith'. -/
def valueArithUptoCard : Claim7 := { stood := { row := valueArithUptoRow, standIns := [], harness := (true, "e3911ffb57493da0e5445cda139b07fd88490141209d8ca4e541fc2d96613dd5"), looks := true }, kinds := [], alts := [], laidByText := true, laidKinds := [.data, .data, .data, .data, .pinned, .pinned], laidTests := true, laidLooks := .later }
def ValueArithUptoCardSaid : Prop := Claim7.holds Tryd.pinned (.plain (OpenSpec.upto valueArithSpec)) valueArithUptoCard

/-- THE SECOND FORM's CARD OF 'unisonlaw01.ValueLogic'. -/
def valueLogicUptoCard : Claim7 := { stood := { row := valueLogicUptoRow, standIns := [], harness := (true, "e3911ffb57493da0e5445cda139b07fd88490141209d8ca4e541fc2d96613dd5"), looks := true }, kinds := [], alts := [], laidByText := true, laidKinds := [.data, .data, .data, .data, .pinned, .pinned], laidTests := true, laidLooks := .later }
def ValueLogicUptoCardSaid : Prop := Claim7.holds Tryd.pinned (.plain (OpenSpec.upto valueLogicSpec)) valueLogicUptoCard

/-- THE SECOND FORM's CARD OF 'unisonlaw01.ValueKleene'. -/
def valueKleeneUptoCard : Claim7 := { stood := { row := valueKleeneUptoRow, standIns := [], harness := (true, "e3911ffb57493da0e5445cda139b07fd88490141209d8ca4e541fc2d96613dd5"), looks := true }, kinds := [], alts := [], laidByText := true, laidKinds := [.data, .data, .data, .data, .pinned, .pinned], laidTests := true, laidLooks := .later }
def ValueKleeneUptoCardSaid : Prop := Claim7.holds Tryd.pinned (.plain (OpenSpec.upto valueKleeneSpec)) valueKleeneUptoCard

/-- THE SECOND FORM's CARD OF 'unisonlaw01.ValueSays'. -/
def valueSaysUptoCard : Claim7 := { stood := { row := valueSaysUptoRow, standIns := [], harness := (true, "e3911ffb57493da0e5445cda139b07fd88490141209d8ca4e541fc2d96613dd5"), looks := true }, kinds := [], alts := [], laidByText := true, laidKinds := [.data, .data, .data, .data, .sentinel, .sentinel, .pinned, .pinned], laidTests := true, laidLooks := .later }
def ValueSaysUptoCardSaid : Prop := Claim7.holds Tryd.pinned (.plain (OpenSpec.upto valueSaysSpec)) valueSaysUptoCard

/-- THE SECOND FORM's CARD OF 'unisonlaw01.ValueBack'. -/
def valueBackUptoCard : Claim7 := { stood := { row := valueBackUptoRow, standIns := [], harness := (true, "e3911ffb57493da0e5445cda139b07fd88490141209d8ca4e541fc2d96613dd5"), looks := true }, kinds := [], alts := [], laidByText := true, laidKinds := [.data, .data, .data, .data, .sentinel, .sentinel, .pinned, .pinned], laidTests := true, laidLooks := .later }
def ValueBackUptoCardSaid : Prop := Claim7.holds Tryd.pinned (.plain (OpenSpec.upto valueBackSpec)) valueBackUptoCard
end Rows
end Go.Proofs.YteehcopkljiikaaDoor
