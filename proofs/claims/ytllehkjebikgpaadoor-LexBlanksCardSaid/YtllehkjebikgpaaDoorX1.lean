/- Contracts, by hand, of what the printer does not print of package lex's road: strings.IndexByte, strings.HasPrefix; no conditions beyond those in each theorem's head. -/
import Derived.Test.YtllehkjebikgpaaDoorX0
import Derived.Test.YtllehkjebikgpaaDoorSh2
namespace Go.Proofs.YtllehkjebikgpaaDoorX
open Go.RowKit Go.Lib Go.Proofs.YtllehkjebikgpaaDoorSh Go.Proofs.YtllehkjebikgpaaDoorW.PrintWords Go.Proofs.YtllehkjebikgpaaDoorW.PrintLast
set_option linter.unusedVariables false

def strings_IndexByte.f (a : ByteArray) (c : Int) : Option Int := some (Lib.indexByte a.data.toList c.toNat.toUInt8)
theorem strings_IndexByte.calls (a0 : ByteArray) (a1 r : Int) (w : World) (h : strings_IndexByte.f a0 a1 = some r) :
    Calls Tryd.prog 23 #[.string a0, .int .u8 a1] w fun e w' => e = .returned (.int .i64 r) ∧ Drawn0 w w' := by
  obtain rfl := Option.some.inj h
  refine (YtllehkjebikgpaaDoorSh.strings_IndexByte a0 a1 w).mono ?_
  rintro e w' ⟨rfl, rfl⟩
  exact ⟨rfl, ⟨0, rfl⟩⟩
def strings_HasPrefix.f (a b : ByteArray) : Option Bool := some (Lib.hasPrefix a.data.toList b.data.toList)
theorem strings_HasPrefix.calls (a0 a1 : ByteArray) (r : Bool) (w : World) (h : strings_HasPrefix.f a0 a1 = some r) :
    Calls Tryd.prog 22 #[.string a0, .string a1] w fun e w' => e = .returned (.bool r) ∧ Drawn0 w w' := by
  obtain rfl := Option.some.inj h
  refine (YtllehkjebikgpaaDoorSh.strings_HasPrefix a0 a1 w).mono ?_
  rintro e w' ⟨rfl, rfl⟩
  exact ⟨rfl, ⟨0, rfl⟩⟩
end Go.Proofs.YtllehkjebikgpaaDoorX
