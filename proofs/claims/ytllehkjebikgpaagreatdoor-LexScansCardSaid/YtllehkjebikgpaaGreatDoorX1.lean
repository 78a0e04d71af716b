/- Contracts, by hand, of what the printer does not print of package lex's road: strings.IndexByte, strings.HasPrefix; no conditions beyond those in each theorem's head. -/
import Derived.Test.YtllehkjebikgpaaGreatDoorX0
import Derived.Test.YtllehkjebikgpaaGreatDoorSh2
namespace Go.Proofs.YtllehkjebikgpaaGreatDoorX
open Go.RowKit Go.Lib Go.Proofs.YtllehkjebikgpaaGreatDoorSh Go.Proofs.YtllehkjebikgpaaGreatDoorW.PrintWords Go.Proofs.YtllehkjebikgpaaGreatDoorW.PrintLast
set_option linter.unusedVariables false

def strings_IndexByte.f (a : ByteArray) (c : Int) : Option Int := some (Lib.indexByte a.data.toList c.toNat.toUInt8)
theorem strings_IndexByte.calls (a0 : ByteArray) (a1 r : Int) (w : World) (h : strings_IndexByte.f a0 a1 = some r) :
    Calls Tryz.prog 9 #[.string a0, .int .u8 a1] w fun e w' => e = .returned (.int .i64 r) ∧ Drawn0 w w' := by
  obtain rfl := Option.some.inj h
  refine (YtllehkjebikgpaaGreatDoorSh.strings_IndexByte a0 a1 w).mono ?_
  rintro e w' ⟨rfl, rfl⟩
  exact ⟨rfl, ⟨0, rfl⟩⟩
def strings_HasPrefix.f (a b : ByteArray) : Option Bool := some (Lib.hasPrefix a.data.toList b.data.toList)
theorem strings_HasPrefix.calls (a0 a1 : ByteArray) (r : Bool) (w : World) (h : strings_HasPrefix.f a0 a1 = some r) :
    Calls Tryz.prog 8 #[.string a0, .string a1] w fun e w' => e = .returned (.bool r) ∧ Drawn0 w w' := by
  obtain rfl := Option.some.inj h
  refine (YtllehkjebikgpaaGreatDoorSh.strings_HasPrefix a0 a1 w).mono ?_
  rintro e w' ⟨rfl, rfl⟩
  exact ⟨rfl, ⟨0, rfl⟩⟩
end Go.Proofs.YtllehkjebikgpaaGreatDoorX
