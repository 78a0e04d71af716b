/- Words that keep the walks of regions short: marks by their number, a step with its proofs inside; no conditions beyond those in each theorem's head. -/
import Derived.Test.YtmomohljnmopfaaX0
import Derived.Test.YtmomohljnmopfaaWTab
import Derived.Tactics
namespace Go.Proofs.YtmomohljnmopfaaX
open Go.RowKit Go.Proofs.YtmomohljnmopfaaW.PrintWords Go.Proofs.YtmomohljnmopfaaW.PrintLast Go.Proofs.YtmomohljnmopfaaW.PrintMore
set_option linter.unusedVariables false
/-- Marks by their number. -/
def mK (n m : Nat) : Array Bool := ((List.range n).map (fun i => m.testBit i)).toArray
/-- A step of an operation that yields in every world. -/
theorem pK {P : Program} {ops : Array Oper} {Q : Exit → Act → World → Prop} {md : Region.Mode} {S : World → Prop} {ds : List Nat} {T : Bool × List (List Nat × List Nat)} (i : Nat) (N : Nat) {oi : Oper} {v : Value} {fuel : Nat} {l : Array Bool} {a a' : Act} {w : World} (l' : Array Bool)
    (hi : ops[i]? = some oi) (hN : oi.dst = some N) (hT : Aside0 (rtab md ops = T)) (h : wpAnyLast P md ops Q S ds fuel l' a' w) (hc : anyT T l.toList l'.toList i = true := by kernel_rfl) (hQ : ∀ c a w, Q (.panic c) (a.put oi.dst v) w → Q (.panic c) a w := by exact fun _ _ _ h => h)
    (hw : Region.wanted oi (yielded ops a.tmps) = true := by rfl) (hy : ∀ w', (execOp a.eval oi).run P w' = .ok (.value v) w' := by intro w'; go_simp; with_reducible rfl)
    (ha : a.put (some N) v = a' := by first | (simp only [Act.put, List.setIfInBounds_toArray, List.set_cons_zero, List.set_cons_succ, i64_w, i32_w]; rfl; done) | (rfl; done)) : wpAnyLast P md ops Q S ds (fuel + 1) l a w :=
  pure_ (i := i) (N := some N) (v := v) l' hi hN (any_of hT.out hc) hQ (Or.inl ⟨hw, hy⟩) ha h
end Go.Proofs.YtmomohljnmopfaaX
