/-
  No cell of these rows narrows 'for every input' (looked for: loops, veiled, ifaces, maps, wideKeys, modest, calm, conditions, laid).
  DERIVED. THE GIVEN ROWS OF THIS SEAT. 3 by the template 'for every input the law returns true; each argument reads behind the call as it read before'; 0 by the template 'total and deterministic' (their statements: YtlgobbofiingnaaTotals.lean).
  GIVEN WITH THE SEED: the statements are not yours to turn. If you find one false, say at which input.
  Laid BY PROGRAM, IN A SANDBOX (cutbox-rows.mjs): the forced cells as the released guide's own fill.sh prints them over the translation 335722008595ed33… (all of the seat's roots in one cut). By AI agents, Wed Nov 11 2026. No macro, syntax, notation, axiom, sorry.
-/
import Derived.Test.YtlgobbofiingnaaChecked
import GoSem.Claim
import GoSem.ClaimJoined
import GoSem.ClaimMapViews
import Derived.JoinedTies
import Derived.KernelRfl
namespace Go.Proofs.Ytlgobbofiingnaa
/- THE CELL 'sum', in the pinned program and in every row, IS THE sha256 OF THE DUMP (.gsa) THAT YtlgobbofiingnaaProg.lean LOADS. Nothing in Lean hashes anything: it is a label: what it is worth is what the hold of that sum in a sandbox is worth. -/
noncomputable def Try.pinned : Pinned := { name := "ytlgobbofiingnaa", sum := "335722008595ed33da5f0d16edd5b0a8d4fea889910e4080acd4b649aaa6f27d", checked := Try.checked }
namespace Rows
def none {H : Type} : Left H := { results := [], args := [] }

/-- 'unisonlaw03.RowWrites': WHATEVER THE INPUT: true; the input reads as it did. -/
def rowWritesSpec : ChangeSpec := { name := "rowWrites", fn := fun _ => fun
  | [d] => { results := [.lit (.bool true)], args := [d] }
  | _ => none }
def rowWritesRow : OpenClaim := { program := "ytlgobbofiingnaa", sum := "335722008595ed33da5f0d16edd5b0a8d4fea889910e4080acd4b649aaa6f27d", func := "unison/unisonlaw03.RowWrites", spec := "rowWrites", apart := false }
def RowWritesSaid : Prop := rowWritesRow.holds Try.pinned (OpenSpec.ofChange rowWritesSpec)

/-- ITS FALSE NEIGHBOUR: 'it returns false'. Refute it at one input. -/
def rowWritesWrong : ChangeSpec := { name := "rowWrites", fn := fun _ => fun
  | [d] => { results := [.lit (.bool false)], args := [d] }
  | _ => none }
def RowWritesWrongFalsely : Prop := rowWritesRow.holds Try.pinned (OpenSpec.ofChange rowWritesWrong)

/-- 'unisonlaw03.RowReads': WHATEVER THE INPUT: true; the input reads as it did. -/
def rowReadsSpec : ChangeSpec := { name := "rowReads", fn := fun _ => fun
  | [d] => { results := [.lit (.bool true)], args := [d] }
  | _ => none }
def rowReadsRow : OpenClaim := { program := "ytlgobbofiingnaa", sum := "335722008595ed33da5f0d16edd5b0a8d4fea889910e4080acd4b649aaa6f27d", func := "unison/unisonlaw03.RowReads", spec := "rowReads", apart := false }
def RowReadsSaid : Prop := rowReadsRow.holds Try.pinned (OpenSpec.ofChange rowReadsSpec)

/-- ITS FALSE NEIGHBOUR: 'it returns false'. Refute it at one input. -/
def rowReadsWrong : ChangeSpec := { name := "rowReads", fn := fun _ => fun
  | [d] => { results := [.lit (.bool false)], args := [d] }
  | _ => none }
def RowReadsWrongFalsely : Prop := rowReadsRow.holds Try.pinned (OpenSpec.ofChange rowReadsWrong)

/-- 'unisonlaw03.RowBack': WHATEVER THE INPUT: true; the input reads as it did. -/
def rowBackSpec : ChangeSpec := { name := "rowBack", fn := fun _ => fun
  | [d1, d2] => { results := [.lit (.bool true)], args := [d1, d2] }
  | _ => none }
def rowBackRow : OpenClaim := { program := "ytlgobbofiingnaa", sum := "335722008595ed33da5f0d16edd5b0a8d4fea889910e4080acd4b649aaa6f27d", func := "unison/unisonlaw03.RowBack", spec := "rowBack", apart := false }
def RowBackSaid : Prop := rowBackRow.holds Try.pinned (OpenSpec.ofChange rowBackSpec)

/-- ITS FALSE NEIGHBOUR: 'it returns false'. Refute it at one input. -/
def rowBackWrong : ChangeSpec := { name := "rowBack", fn := fun _ => fun
  | [d1, d2] => { results := [.lit (.bool false)], args := [d1, d2] }
  | _ => none }
def RowBackWrongFalsely : Prop := rowBackRow.holds Try.pinned (OpenSpec.ofChange rowBackWrong)

/- THE SECOND FORM. 'bulk': how many values and letters a reading holds, each counted each time it is reached (what is shared counts as often as it is met; a slice's spare places count too). A statement '..UptoSaid' is the law's where the arguments, and the package variables that the reading takes, are together of bulk at most 1048576: NARROWER than '..Said'. Prove '..Said' where nothing that the law and all that it calls make is longer than what came in: it says more and counts as full. Else prove '..UptoSaid'. A law counts once. -/
mutual
def uptoBulk {H : Type} : DataW H → Nat
  | .lit (.string bytes) => bytes.length + 1
  | .lit _ => 1
  | .nil => 1
  | .ptr d => uptoBulk d + 1
  | .slice elems spare => uptoBulkAll elems + uptoBulkAll spare + 1
  | .agg parts => uptoBulkAll parts + 1
  | .iface _ d => uptoBulk d + 1
  | .map entries => uptoBulkEntries entries + 1
  | .held _ => 1
def uptoBulkAll {H : Type} : List (DataW H) → Nat
  | [] => 0
  | d :: r => uptoBulk d + uptoBulkAll r
def uptoBulkEntries {H : Type} : List (Lit × DataW H) → Nat
  | [] => 0
  | x :: r => uptoBulkEntry x + uptoBulkEntries r
def uptoBulkEntry {H : Type} : Lit × DataW H → Nat
  | (.string bytes, d) => bytes.length + uptoBulk d + 1
  | (_, d) => uptoBulk d + 1
 end
def uptoSmall : (H : Type) → List (DataW H) → Bool := fun _ ds => decide (uptoBulkAll ds ≤ 1048576)
def OpenSpec.upto (s : _root_.Go.ChangeSpec) : _root_.Go.OpenSpec := { _root_.Go.OpenSpec.ofChange s with cond := some uptoSmall }

/-- 'unisonlaw03.RowWrites', WHERE WHAT IT READS IS OF BULK AT MOST 1048576: true; the input reads as it did. -/
def rowWritesUptoRow : OpenClaim := { program := "ytlgobbofiingnaa", sum := "335722008595ed33da5f0d16edd5b0a8d4fea889910e4080acd4b649aaa6f27d", func := "unison/unisonlaw03.RowWrites", spec := "rowWrites", apart := false, narrowed := true }
def RowWritesUptoSaid : Prop := rowWritesUptoRow.holds Try.pinned (OpenSpec.upto rowWritesSpec)

/-- 'unisonlaw03.RowReads', WHERE WHAT IT READS IS OF BULK AT MOST 1048576: true; the input reads as it did. -/
def rowReadsUptoRow : OpenClaim := { program := "ytlgobbofiingnaa", sum := "335722008595ed33da5f0d16edd5b0a8d4fea889910e4080acd4b649aaa6f27d", func := "unison/unisonlaw03.RowReads", spec := "rowReads", apart := false, narrowed := true }
def RowReadsUptoSaid : Prop := rowReadsUptoRow.holds Try.pinned (OpenSpec.upto rowReadsSpec)

/-- 'unisonlaw03.RowBack', WHERE WHAT IT READS IS OF BULK AT MOST 1048576: true; the input reads as it did. -/
def rowBackUptoRow : OpenClaim := { program := "ytlgobbofiingnaa", sum := "335722008595ed33da5f0d16edd5b0a8d4fea889910e4080acd4b649aaa6f27d", func := "unison/unisonlaw03.RowBack", spec := "rowBack", apart := false, narrowed := true }
def RowBackUptoSaid : Prop := rowBackUptoRow.holds Try.pinned (OpenSpec.upto rowBackSpec)

end Rows
end Go.Proofs.Ytlgobbofiingnaa
