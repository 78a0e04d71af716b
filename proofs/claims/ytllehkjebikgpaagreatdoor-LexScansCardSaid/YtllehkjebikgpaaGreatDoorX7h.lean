/- value.Parse: what it comes to (the walks printed by wip/gen/parsegen.py); no conditions beyond those in each theorem's head. -/
import Derived.Test.YtllehkjebikgpaaGreatDoorX6
namespace Go.Proofs.YtllehkjebikgpaaGreatDoorX
open Go.RowKit Go.Lib Go.Proofs.YtllehkjebikgpaaGreatDoorSh Go.Proofs.YtllehkjebikgpaaGreatDoorW.PrintWords Go.Proofs.YtllehkjebikgpaaGreatDoorW.PrintLast Go.Proofs.YtllehkjebikgpaaGreatDoorW.PrintMore Go.Proofs.YtllehkjebikgpaaGreatDoor.PA
set_option linter.unusedVariables false

/-- What Parse tells of a value that a text may say. -/
def fin (s : ByteArray) (v0 v1 : Int) (v2 : ByteArray) : Option (Int × Int × ByteArray × Int) := (value_Print.f v0 v1 v2).bind fun p => some (if p.2 = 0 ∧ p.1 = s then (v0, v1, v2, 0) else (0, 0, ⟨#[]⟩, 10))
/-- What Parse tells. -/
def value_Parse.f (s : ByteArray) : Option (Int × Int × ByteArray × Int) :=
  if s.size ≤ 100000000000 then
    if s.toList = [84, 82, 85, 69] then fin s 2 1 ⟨#[]⟩ else if s.toList = [70, 65, 76, 83, 69] then fin s 2 0 ⟨#[]⟩
    else if h : 1 < s.size ∧ bt s 0 = 39 then
      match textL (s.extract 1 (s.size - 1)).size (s.extract 1 (s.size - 1)).data.toList [] with
      | some l => fin s 3 0 ⟨l.toArray⟩
      | none => some (0, 0, ⟨#[]⟩, 10)
    else if s.toList = [78, 85, 76, 76] then fin s 0 0 ⟨#[]⟩ else fin s 1 (atoiN s.data.toList) ⟨#[]⟩
  else none
theorem bt_atX (s : ByteArray) (i : Int) : ∀ h : i.toNat < s.size, ((s[i.toNat]'h).toNat : Int) = bt s i := fun h => by simp [bt, h]
theorem toList_injX {s t : ByteArray} (h : s.toList = t.toList) : s = t := by
  rw [ByteArray.toList_eq, ByteArray.toList_eq] at h
  exact ByteArray.ext (Array.toList_inj.1 h)
theorem print_some (a0 a1 : Int) (a2 : ByteArray) : ∃ p, value_Print.f a0 a1 a2 = some p := by
  unfold value_Print.f
  obtain ⟨r, hr⟩ : ∃ r, value_Right.f a0 a1 a2 = some r := by
    unfold value_Right.f
    repeat' split
    all_goals exact ⟨_, rfl⟩
  rw [hr]; exact ⟨_, rfl⟩
theorem truth_call (b : Bool) (w : World) : Calls Tryz.prog 44 #[.bool b] w fun e w' => e = .returned (.agg #[.int .i64 2, .int .i64 (if b = true then 1 else 0), .string ⟨#[]⟩]) ∧ Below w.heap.size w w' :=
  value_truth.calls b 2 (if b = true then 1 else 0) ⟨#[]⟩ w (by cases b <;> rfl)

end Go.Proofs.YtllehkjebikgpaaGreatDoorX
