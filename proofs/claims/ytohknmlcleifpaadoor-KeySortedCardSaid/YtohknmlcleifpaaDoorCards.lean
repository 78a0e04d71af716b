/-
  DERIVED. GIVEN WITH THE SEED: THE CARDS: each row of YtohknmlcleifpaaDoorRows.lean that lists a variable, with what it lists TIED to the program's text (the seventh form; the later family's looks); each row that meets fmt, with fmt's text TOLD by the authors' own Lean function (tested against real Go, not proved from fmt's source: count such statements apart). THE CARD IS WHAT COUNTS. Prove the row's statement (the work); the ties are given (YtohknmlcleifpaaDoorTie.lean); close each card by the builder's one call (the guide's Derived/Test/ToyasCard.lean, 'card_holds'). Laid BY PROGRAM, IN A SANDBOX (cutbox-door.mjs). By AI agents, Wed Nov 11 2026. No macro, syntax, notation, axiom, sorry.
-/
import Derived.Test.YtohknmlcleifpaaDoorRows
import GoSem.ClaimSeven
namespace Go.Proofs.YtohknmlcleifpaaDoor
namespace Rows

/-- THE TIED CARD OF 'unisonlaw02.KeyWrites'. -/
def keyWritesCard : Claim7 := { stood := { row := keyWritesRow, standIns := [], harness := (true, "e5297a2c1476f6d7829575b029cca7ad28b810d7b5cb562e591ea13c5b37bf3e"), looks := false }, kinds := [], alts := [], laidByText := true, laidKinds := [.data, .pinned], laidTests := true, laidLooks := .later }
def KeyWritesCardSaid : Prop := Claim7.holds Tryd.pinned (.plain (OpenSpec.ofChange keyWritesSpec)) keyWritesCard

/-- THE TIED CARD OF 'unisonlaw02.KeyReads'. -/
def keyReadsCard : Claim7 := { stood := { row := keyReadsRow, standIns := [], harness := (true, "e5297a2c1476f6d7829575b029cca7ad28b810d7b5cb562e591ea13c5b37bf3e"), looks := false }, kinds := [], alts := [], laidByText := true, laidKinds := [.data, .pinned], laidTests := true, laidLooks := .later }
def KeyReadsCardSaid : Prop := Claim7.holds Tryd.pinned (.plain (OpenSpec.ofChange keyReadsSpec)) keyReadsCard

/-- THE TIED CARD OF 'unisonlaw02.KeyOrders'. -/
def keyOrdersCard : Claim7 := { stood := { row := keyOrdersRow, standIns := [], harness := (true, "e5297a2c1476f6d7829575b029cca7ad28b810d7b5cb562e591ea13c5b37bf3e"), looks := false }, kinds := [], alts := [], laidByText := true, laidKinds := [.data, .pinned], laidTests := true, laidLooks := .later }
def KeyOrdersCardSaid : Prop := Claim7.holds Tryd.pinned (.plain (OpenSpec.ofChange keyOrdersSpec)) keyOrdersCard

/-- THE TIED CARD OF 'unisonlaw02.KeyOrder'. -/
def keyOrderCard : Claim7 := { stood := { row := keyOrderRow, standIns := [], harness := (true, "e5297a2c1476f6d7829575b029cca7ad28b810d7b5cb562e591ea13c5b37bf3e"), looks := false }, kinds := [], alts := [], laidByText := true, laidKinds := [.data, .pinned], laidTests := true, laidLooks := .later }
def KeyOrderCardSaid : Prop := Claim7.holds Tryd.pinned (.plain (OpenSpec.ofChange keyOrderSpec)) keyOrderCard

/-- THE TIED CARD OF 'unisonlaw02.KeyBegins'. -/
def keyBeginsCard : Claim7 := { stood := { row := keyBeginsRow, standIns := [], harness := (true, "e5297a2c1476f6d7829575b029cca7ad28b810d7b5cb562e591ea13c5b37bf3e"), looks := false }, kinds := [], alts := [], laidByText := true, laidKinds := [.data, .pinned], laidTests := true, laidLooks := .later }
def KeyBeginsCardSaid : Prop := Claim7.holds Tryd.pinned (.plain (OpenSpec.ofChange keyBeginsSpec)) keyBeginsCard

/-- THE TIED CARD OF 'unisonlaw02.KeyNexts'. -/
def keyNextsCard : Claim7 := { stood := { row := keyNextsRow, standIns := [], harness := (true, "e5297a2c1476f6d7829575b029cca7ad28b810d7b5cb562e591ea13c5b37bf3e"), looks := false }, kinds := [], alts := [], laidByText := true, laidKinds := [.data, .pinned], laidTests := true, laidLooks := .later }
def KeyNextsCardSaid : Prop := Claim7.holds Tryd.pinned (.plain (OpenSpec.ofChange keyNextsSpec)) keyNextsCard

/-- THE TIED CARD OF 'unisonlaw02.KeySorted'. -/
def keySortedCard : Claim7 := { stood := { row := keySortedRow, standIns := [], harness := (true, "e5297a2c1476f6d7829575b029cca7ad28b810d7b5cb562e591ea13c5b37bf3e"), looks := false }, kinds := [], alts := [], laidByText := true, laidKinds := [.data, .pinned], laidTests := true, laidLooks := .later }
def KeySortedCardSaid : Prop := Claim7.holds Tryd.pinned (.plain (OpenSpec.ofChange keySortedSpec)) keySortedCard

/-- THE SECOND FORM's CARD OF 'unisonlaw02.KeyWrites'. -/
def keyWritesUptoCard : Claim7 := { stood := { row := keyWritesUptoRow, standIns := [], harness := (true, "e5297a2c1476f6d7829575b029cca7ad28b810d7b5cb562e591ea13c5b37bf3e"), looks := false }, kinds := [], alts := [], laidByText := true, laidKinds := [.data, .pinned], laidTests := true, laidLooks := .later }
def KeyWritesUptoCardSaid : Prop := Claim7.holds Tryd.pinned (.plain (OpenSpec.upto keyWritesSpec)) keyWritesUptoCard

/-- THE SECOND FORM's CARD OF 'unisonlaw02.KeyReads'. -/
def keyReadsUptoCard : Claim7 := { stood := { row := keyReadsUptoRow, standIns := [], harness := (true, "e5297a2c1476f6d7829575b029cca7ad28b810d7b5cb562e591ea13c5b37bf3e"), looks := false }, kinds := [], alts := [], laidByText := true, laidKinds := [.data, .pinned], laidTests := true, laidLooks := .later }
def KeyReadsUptoCardSaid : Prop := Claim7.holds Tryd.pinned (.plain (OpenSpec.upto keyReadsSpec)) keyReadsUptoCard

/-- THE SECOND FORM's CARD OF 'unisonlaw02.KeyOrders'. -/
def keyOrdersUptoCard : Claim7 := { stood := { row := keyOrdersUptoRow, standIns := [], harness := (true, "e5297a2c1476f6d7829575b029cca7ad28b810d7b5cb562e591ea13c5b37bf3e"), looks := false }, kinds := [], alts := [], laidByText := true, laidKinds := [.data, .pinned], laidTests := true, laidLooks := .later }
def KeyOrdersUptoCardSaid : Prop := Claim7.holds Tryd.pinned (.plain (OpenSpec.upto keyOrdersSpec)) keyOrdersUptoCard

/-- THE SECOND FORM's CARD OF 'unisonlaw02.KeyOrder'. -/
def keyOrderUptoCard : Claim7 := { stood := { row := keyOrderUptoRow, standIns := [], harness := (true, "e5297a2c1476f6d7829575b029cca7ad28b810d7b5cb562e591ea13c5b37bf3e"), looks := false }, kinds := [], alts := [], laidByText := true, laidKinds := [.data, .pinned], laidTests := true, laidLooks := .later }
def KeyOrderUptoCardSaid : Prop := Claim7.holds Tryd.pinned (.plain (OpenSpec.upto keyOrderSpec)) keyOrderUptoCard

/-- THE SECOND FORM's CARD OF 'unisonlaw02.KeyBegins'. -/
def keyBeginsUptoCard : Claim7 := { stood := { row := keyBeginsUptoRow, standIns := [], harness := (true, "e5297a2c1476f6d7829575b029cca7ad28b810d7b5cb562e591ea13c5b37bf3e"), looks := false }, kinds := [], alts := [], laidByText := true, laidKinds := [.data, .pinned], laidTests := true, laidLooks := .later }
def KeyBeginsUptoCardSaid : Prop := Claim7.holds Tryd.pinned (.plain (OpenSpec.upto keyBeginsSpec)) keyBeginsUptoCard

/-- THE SECOND FORM's CARD OF 'unisonlaw02.KeyNexts'. -/
def keyNextsUptoCard : Claim7 := { stood := { row := keyNextsUptoRow, standIns := [], harness := (true, "e5297a2c1476f6d7829575b029cca7ad28b810d7b5cb562e591ea13c5b37bf3e"), looks := false }, kinds := [], alts := [], laidByText := true, laidKinds := [.data, .pinned], laidTests := true, laidLooks := .later }
def KeyNextsUptoCardSaid : Prop := Claim7.holds Tryd.pinned (.plain (OpenSpec.upto keyNextsSpec)) keyNextsUptoCard

/-- THE SECOND FORM's CARD OF 'unisonlaw02.KeySorted'. -/
def keySortedUptoCard : Claim7 := { stood := { row := keySortedUptoRow, standIns := [], harness := (true, "e5297a2c1476f6d7829575b029cca7ad28b810d7b5cb562e591ea13c5b37bf3e"), looks := false }, kinds := [], alts := [], laidByText := true, laidKinds := [.data, .pinned], laidTests := true, laidLooks := .later }
def KeySortedUptoCardSaid : Prop := Claim7.holds Tryd.pinned (.plain (OpenSpec.upto keySortedSpec)) keySortedUptoCard
end Rows
end Go.Proofs.YtohknmlcleifpaaDoor
