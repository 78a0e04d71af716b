/- Contract, by hand, of what the printer does not print of package value's road: strings.Compare; no conditions beyond those in each theorem's head. -/
import Derived.Test.YteehcopkljiikaaDoorX0
import Derived.Test.YteehcopkljiikaaDoorSh
namespace Go.Proofs.YteehcopkljiikaaDoorX
open Go.RowKit Go.Lib Go.Proofs.YteehcopkljiikaaDoorSh Go.Proofs.YteehcopkljiikaaDoorW.PrintWords Go.Proofs.YteehcopkljiikaaDoorW.PrintLast
set_option linter.unusedVariables false

def strings_Compare.f (a b : ByteArray) : Option Int := some (Lib.compareBytes a.data.toList b.data.toList)
theorem strings_Compare.calls (a0 a1 : ByteArray) (r : Int) (w : World) (h : strings_Compare.f a0 a1 = some r) :
    Calls Tryd.prog 41 #[.string a0, .string a1] w fun e w' => e = .returned (.int .i64 r) ∧ Drawn0 w w' := by
  obtain rfl := Option.some.inj h
  refine (YteehcopkljiikaaDoorSh.strings_Compare a0 a1 w).mono ?_
  rintro e w' ⟨rfl, rfl⟩
  exact ⟨rfl, ⟨0, rfl⟩⟩
end Go.Proofs.YteehcopkljiikaaDoorX
