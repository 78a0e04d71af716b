/-
  No cell of these rows narrows 'for every input' (looked for: loops, veiled, ifaces, maps, wideKeys, modest, calm, conditions, laid).
  DERIVED. THE GIVEN ROWS OF THIS SEAT. 6 by the template 'for every input the law returns true; each argument reads behind the call as it read before'; 0 by the template 'total and deterministic' (their statements: YtmomohljnmopfaaTotals.lean).
  GIVEN WITH THE SEED: the statements are not yours to turn. If you find one false, say at which input.
  Laid BY PROGRAM, IN A SANDBOX (cutbox-rows.mjs): the forced cells as the released guide's own fill.sh prints them over the translation cfb2c801a4662f52… (all of the seat's roots in one cut). By AI agents, Wed Nov 11 2026. No macro, syntax, notation, axiom, sorry.
-/
import Derived.Test.YtmomohljnmopfaaChecked
import GoSem.Claim
import GoSem.ClaimJoined
import GoSem.ClaimMapViews
import Derived.JoinedTies
import Derived.KernelRfl
namespace Go.Proofs.Ytmomohljnmopfaa
/- THE CELL 'sum', in the pinned program and in every row, IS THE sha256 OF THE DUMP (.gsa) THAT YtmomohljnmopfaaProg.lean LOADS. Nothing in Lean hashes anything: it is a label: what it is worth is what the hold of that sum in a sandbox is worth. -/
noncomputable def Try.pinned : Pinned := { name := "ytmomohljnmopfaa", sum := "cfb2c801a4662f52b16b3df6a805b5b4690f0801d4bbc50de16213cc9f724499", checked := Try.checked }
namespace Rows
def none {H : Type} : Left H := { results := [], args := [] }

/-- 'unisonlaw07.TreeParts': WHATEVER THE INPUT: true; the input reads as it did. -/
def treePartsSpec : ChangeSpec := { name := "treeParts", fn := fun _ => fun
  | [d] => { results := [.lit (.bool true)], args := [d] }
  | _ => none }
def treePartsRow : OpenClaim := { program := "ytmomohljnmopfaa", sum := "cfb2c801a4662f52b16b3df6a805b5b4690f0801d4bbc50de16213cc9f724499", func := "unison/unisonlaw07.TreeParts", spec := "treeParts", inPlace := ["slices.overlaps[string]", "slices.overlaps[*unison/btree.node]"], unfollowed := true, recurses := true, apart := false }
def TreePartsSaid : Prop := treePartsRow.holds Try.pinned (OpenSpec.ofChange treePartsSpec)

/-- ITS FALSE NEIGHBOUR: 'it returns false'. Refute it at one input. -/
def treePartsWrong : ChangeSpec := { name := "treeParts", fn := fun _ => fun
  | [d] => { results := [.lit (.bool false)], args := [d] }
  | _ => none }
def TreePartsWrongFalsely : Prop := treePartsRow.holds Try.pinned (OpenSpec.ofChange treePartsWrong)

/-- 'unisonlaw07.TreeShapes': WHATEVER THE INPUT: true; the input reads as it did. -/
def treeShapesSpec : ChangeSpec := { name := "treeShapes", fn := fun _ => fun
  | [d1, d2] => { results := [.lit (.bool true)], args := [d1, d2] }
  | _ => none }
def treeShapesRow : OpenClaim := { program := "ytmomohljnmopfaa", sum := "cfb2c801a4662f52b16b3df6a805b5b4690f0801d4bbc50de16213cc9f724499", func := "unison/unisonlaw07.TreeShapes", spec := "treeShapes", inPlace := ["slices.overlaps[string]", "slices.overlaps[*unison/btree.node]"], unfollowed := true, recurses := true, apart := false }
def TreeShapesSaid : Prop := treeShapesRow.holds Try.pinned (OpenSpec.ofChange treeShapesSpec)

/-- ITS FALSE NEIGHBOUR: 'it returns false'. Refute it at one input. -/
def treeShapesWrong : ChangeSpec := { name := "treeShapes", fn := fun _ => fun
  | [d1, d2] => { results := [.lit (.bool false)], args := [d1, d2] }
  | _ => none }
def TreeShapesWrongFalsely : Prop := treeShapesRow.holds Try.pinned (OpenSpec.ofChange treeShapesWrong)

/-- 'unisonlaw07.TreeLow': WHATEVER THE INPUT: true; the input reads as it did. -/
def treeLowSpec : ChangeSpec := { name := "treeLow", fn := fun _ => fun
  | [d1, d2] => { results := [.lit (.bool true)], args := [d1, d2] }
  | _ => none }
def treeLowRow : OpenClaim := { program := "ytmomohljnmopfaa", sum := "cfb2c801a4662f52b16b3df6a805b5b4690f0801d4bbc50de16213cc9f724499", func := "unison/unisonlaw07.TreeLow", spec := "treeLow", inPlace := ["slices.overlaps[string]", "slices.overlaps[*unison/btree.node]"], unfollowed := true, recurses := true, apart := false }
def TreeLowSaid : Prop := treeLowRow.holds Try.pinned (OpenSpec.ofChange treeLowSpec)

/-- ITS FALSE NEIGHBOUR: 'it returns false'. Refute it at one input. -/
def treeLowWrong : ChangeSpec := { name := "treeLow", fn := fun _ => fun
  | [d1, d2] => { results := [.lit (.bool false)], args := [d1, d2] }
  | _ => none }
def TreeLowWrongFalsely : Prop := treeLowRow.holds Try.pinned (OpenSpec.ofChange treeLowWrong)

/-- 'unisonlaw07.TreeEmpties': WHATEVER THE INPUT: true; the input reads as it did. -/
def treeEmptiesSpec : ChangeSpec := { name := "treeEmpties", fn := fun _ => fun
  | [d1, d2, d3] => { results := [.lit (.bool true)], args := [d1, d2, d3] }
  | _ => none }
def treeEmptiesRow : OpenClaim := { program := "ytmomohljnmopfaa", sum := "cfb2c801a4662f52b16b3df6a805b5b4690f0801d4bbc50de16213cc9f724499", func := "unison/unisonlaw07.TreeEmpties", spec := "treeEmpties", inPlace := ["slices.overlaps[string]", "slices.overlaps[*unison/btree.node]"], unfollowed := true, recurses := true, apart := false }
def TreeEmptiesSaid : Prop := treeEmptiesRow.holds Try.pinned (OpenSpec.ofChange treeEmptiesSpec)

/-- ITS FALSE NEIGHBOUR: 'it returns false'. Refute it at one input. -/
def treeEmptiesWrong : ChangeSpec := { name := "treeEmpties", fn := fun _ => fun
  | [d1, d2, d3] => { results := [.lit (.bool false)], args := [d1, d2, d3] }
  | _ => none }
def TreeEmptiesWrongFalsely : Prop := treeEmptiesRow.holds Try.pinned (OpenSpec.ofChange treeEmptiesWrong)

/-- 'unisonlaw07.TreeOrderless': WHATEVER THE INPUT: true; the input reads as it did. -/
def treeOrderlessSpec : ChangeSpec := { name := "treeOrderless", fn := fun _ => fun
  | [d1, d2, d3] => { results := [.lit (.bool true)], args := [d1, d2, d3] }
  | _ => none }
def treeOrderlessRow : OpenClaim := { program := "ytmomohljnmopfaa", sum := "cfb2c801a4662f52b16b3df6a805b5b4690f0801d4bbc50de16213cc9f724499", func := "unison/unisonlaw07.TreeOrderless", spec := "treeOrderless", inPlace := ["slices.overlaps[string]", "slices.overlaps[*unison/btree.node]"], unfollowed := true, recurses := true, apart := false }
def TreeOrderlessSaid : Prop := treeOrderlessRow.holds Try.pinned (OpenSpec.ofChange treeOrderlessSpec)

/-- ITS FALSE NEIGHBOUR: 'it returns false'. Refute it at one input. -/
def treeOrderlessWrong : ChangeSpec := { name := "treeOrderless", fn := fun _ => fun
  | [d1, d2, d3] => { results := [.lit (.bool false)], args := [d1, d2, d3] }
  | _ => none }
def TreeOrderlessWrongFalsely : Prop := treeOrderlessRow.holds Try.pinned (OpenSpec.ofChange treeOrderlessWrong)

/-- 'unisonlaw07.TreePlays': WHATEVER THE INPUT: true; the input reads as it did. -/
def treePlaysSpec : ChangeSpec := { name := "treePlays", fn := fun _ => fun
  | [d1, d2, d3] => { results := [.lit (.bool true)], args := [d1, d2, d3] }
  | _ => none }
def treePlaysRow : OpenClaim := { program := "ytmomohljnmopfaa", sum := "cfb2c801a4662f52b16b3df6a805b5b4690f0801d4bbc50de16213cc9f724499", func := "unison/unisonlaw07.TreePlays", spec := "treePlays", inPlace := ["slices.overlaps[string]", "slices.overlaps[*unison/btree.node]"], unfollowed := true, recurses := true, apart := false }
def TreePlaysSaid : Prop := treePlaysRow.holds Try.pinned (OpenSpec.ofChange treePlaysSpec)

/-- ITS FALSE NEIGHBOUR: 'it returns false'. Refute it at one input. -/
def treePlaysWrong : ChangeSpec := { name := "treePlays", fn := fun _ => fun
  | [d1, d2, d3] => { results := [.lit (.bool false)], args := [d1, d2, d3] }
  | _ => none }
def TreePlaysWrongFalsely : Prop := treePlaysRow.holds Try.pinned (OpenSpec.ofChange treePlaysWrong)

/- THE SECOND FORM. 'bulk': how many values and letters a reading holds, each counted each time it is reached (what is shared counts as often as it is met; a slice's spare places count too). A statement '..UptoSaid' is the law's where the arguments, and the package variables that the reading takes, are together of bulk at most 1048576: NARROWER than '..Said'. Prove '..Said' where nothing that the law and all that it calls make is longer than what came in: it says more and counts as full. Else prove '..UptoSaid'. A law counts once. -/
mutual
def uptoBulk {H : Type} : DataW H → Nat
  | .lit (.string bytes) => bytes.length + 1
  | .lit _ => 1
  | .nil => 1
  | .ptr d => uptoBulk d + 1
  | .slice elems spare => uptoBulkAll elems + uptoBulkAll spare + 1
  | .agg parts => uptoBulkAll parts + 1
  | .iface _ d => uptoBulk d + 1
  | .map entries => uptoBulkEntries entries + 1
  | .held _ => 1
def uptoBulkAll {H : Type} : List (DataW H) → Nat
  | [] => 0
  | d :: r => uptoBulk d + uptoBulkAll r
def uptoBulkEntries {H : Type} : List (Lit × DataW H) → Nat
  | [] => 0
  | x :: r => uptoBulkEntry x + uptoBulkEntries r
def uptoBulkEntry {H : Type} : Lit × DataW H → Nat
  | (.string bytes, d) => bytes.length + uptoBulk d + 1
  | (_, d) => uptoBulk d + 1
 end
def uptoSmall : (H : Type) → List (DataW H) → Bool := fun _ ds => decide (uptoBulkAll ds ≤ 1048576)
def OpenSpec.upto (s : _root_.Go.ChangeSpec) : _root_.Go.OpenSpec := { _root_.Go.OpenSpec.ofChange s with cond := some uptoSmall }

/-- 'unisonlaw07.TreeParts', WHERE WHAT IT READS IS OF BULK AT MOST 1048576: true; the input reads as it did. -/
def treePartsUptoRow : OpenClaim := { program := "ytmomohljnmopfaa", sum := "cfb2c801a4662f52b16b3df6a805b5b4690f0801d4bbc50de16213cc9f724499", func := "unison/unisonlaw07.TreeParts", spec := "treeParts", inPlace := ["slices.overlaps[string]", "slices.overlaps[*unison/btree.node]"], unfollowed := true, recurses := true, apart := false, narrowed := true }
def TreePartsUptoSaid : Prop := treePartsUptoRow.holds Try.pinned (OpenSpec.upto treePartsSpec)

/-- 'unisonlaw07.TreeShapes', WHERE WHAT IT READS IS OF BULK AT MOST 1048576: true; the input reads as it did. -/
def treeShapesUptoRow : OpenClaim := { program := "ytmomohljnmopfaa", sum := "cfb2c801a4662f52b16b3df6a805b5b4690f0801d4bbc50de16213cc9f724499", func := "unison/unisonlaw07.TreeShapes", spec := "treeShapes", inPlace := ["slices.overlaps[string]", "slices.overlaps[*unison/btree.node]"], unfollowed := true, recurses := true, apart := false, narrowed := true }
def TreeShapesUptoSaid : Prop := treeShapesUptoRow.holds Try.pinned (OpenSpec.upto treeShapesSpec)

/-- 'unisonlaw07.TreeLow', WHERE WHAT IT READS IS OF BULK AT MOST 1048576: true; the input reads as it did. -/
def treeLowUptoRow : OpenClaim := { program := "ytmomohljnmopfaa", sum := "cfb2c801a4662f52b16b3df6a805b5b4690f0801d4bbc50de16213cc9f724499", func := "unison/unisonlaw07.TreeLow", spec := "treeLow", inPlace := ["slices.overlaps[string]", "slices.overlaps[*unison/btree.node]"], unfollowed := true, recurses := true, apart := false, narrowed := true }
def TreeLowUptoSaid : Prop := treeLowUptoRow.holds Try.pinned (OpenSpec.upto treeLowSpec)

/-- 'unisonlaw07.TreeEmpties', WHERE WHAT IT READS IS OF BULK AT MOST 1048576: true; the input reads as it did. -/
def treeEmptiesUptoRow : OpenClaim := { program := "ytmomohljnmopfaa", sum := "cfb2c801a4662f52b16b3df6a805b5b4690f0801d4bbc50de16213cc9f724499", func := "unison/unisonlaw07.TreeEmpties", spec := "treeEmpties", inPlace := ["slices.overlaps[string]", "slices.overlaps[*unison/btree.node]"], unfollowed := true, recurses := true, apart := false, narrowed := true }
def TreeEmptiesUptoSaid : Prop := treeEmptiesUptoRow.holds Try.pinned (OpenSpec.upto treeEmptiesSpec)

/-- 'unisonlaw07.TreeOrderless', WHERE WHAT IT READS IS OF BULK AT MOST 1048576: true; the input reads as it did. -/
def treeOrderlessUptoRow : OpenClaim := { program := "ytmomohljnmopfaa", sum := "cfb2c801a4662f52b16b3df6a805b5b4690f0801d4bbc50de16213cc9f724499", func := "unison/unisonlaw07.TreeOrderless", spec := "treeOrderless", inPlace := ["slices.overlaps[string]", "slices.overlaps[*unison/btree.node]"], unfollowed := true, recurses := true, apart := false, narrowed := true }
def TreeOrderlessUptoSaid : Prop := treeOrderlessUptoRow.holds Try.pinned (OpenSpec.upto treeOrderlessSpec)

/-- 'unisonlaw07.TreePlays', WHERE WHAT IT READS IS OF BULK AT MOST 1048576: true; the input reads as it did. -/
def treePlaysUptoRow : OpenClaim := { program := "ytmomohljnmopfaa", sum := "cfb2c801a4662f52b16b3df6a805b5b4690f0801d4bbc50de16213cc9f724499", func := "unison/unisonlaw07.TreePlays", spec := "treePlays", inPlace := ["slices.overlaps[string]", "slices.overlaps[*unison/btree.node]"], unfollowed := true, recurses := true, apart := false, narrowed := true }
def TreePlaysUptoSaid : Prop := treePlaysUptoRow.holds Try.pinned (OpenSpec.upto treePlaysSpec)

end Rows
end Go.Proofs.Ytmomohljnmopfaa
