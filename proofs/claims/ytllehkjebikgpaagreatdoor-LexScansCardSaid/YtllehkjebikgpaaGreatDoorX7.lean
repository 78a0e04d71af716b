/- value.Parse: what it comes to (the walks printed by wip/gen/parsegen.py); no conditions beyond those in each theorem's head. -/
import Derived.Test.YtllehkjebikgpaaGreatDoorX7p
import Derived.Test.YtllehkjebikgpaaGreatDoorX7q
import Derived.Test.YtllehkjebikgpaaGreatDoorX7r
namespace Go.Proofs.YtllehkjebikgpaaGreatDoorX
open Go.RowKit Go.Lib Go.Proofs.YtllehkjebikgpaaGreatDoorSh Go.Proofs.YtllehkjebikgpaaGreatDoorW.PrintWords Go.Proofs.YtllehkjebikgpaaGreatDoorW.PrintLast Go.Proofs.YtllehkjebikgpaaGreatDoorW.PrintMore Go.Proofs.YtllehkjebikgpaaGreatDoor.PA
set_option linter.unusedVariables false

theorem value_Parse.calls (a0 : ByteArray) (r1 r2 : Int) (r3 : ByteArray) (r4 : Int) (w : World) (h : value_Parse.f a0 = some (r1, r2, r3, r4)) (HG : Gw w) :
    Calls Tryz.prog 32 #[.string a0] w fun e w' => e = .returned (.tuple #[.agg #[.int .i64 r1, .int .i64 r2, .string r3], .int .i64 r4]) ∧ Below w.heap.size w w' := by
  unfold value_Parse.f at h
  by_cases hsz : ¬ a0.size ≤ 100000000000
  · rw [if_neg hsz] at h; cases h
  have hsz := Decidable.of_not_not hsz
  rw [if_pos hsz] at h
  by_cases cT : a0.toList = [84, 82, 85, 69]
  · rw [if_pos cT] at h; exact value_Parse.wT a0 r1 r2 r3 r4 w hsz HG cT h
  rw [if_neg cT] at h
  by_cases cF : a0.toList = [70, 65, 76, 83, 69]
  · rw [if_pos cF] at h; exact value_Parse.wF a0 r1 r2 r3 r4 w hsz HG cT cF h
  rw [if_neg cF] at h
  have hA : ∀ W, Gw W → Calls Tryz.prog 29 #[.string a0] W fun e w' => (∃ x, e = .returned (.tuple #[.int .i64 (atoiN a0.data.toList), x])) ∧ Below W.heap.size W w' := fun W g => strconv_Atoi a0 (by omega) W g.syn g.rng
  by_cases cQ : 1 < a0.size ∧ bt a0 0 = 39
  · rw [dif_pos cQ] at h
    have hms : (a0.extract 1 (a0.size - 1)).size ≤ 1000000000000 := by rw [ByteArray.size_extract]; omega
    have hT := fun W (g : Gw W) => value_text _ hms W ⟨g⟩
    cases hx : textL (a0.extract 1 (a0.size - 1)).size (a0.extract 1 (a0.size - 1)).data.toList [] with
    | none => rw [hx] at h hT; exact value_Parse.wE a0 r1 r2 r3 r4 w hsz HG cT cF cQ.1 cQ.2 hT h
    | some l => rw [hx] at h hT; exact value_Parse.wX a0 r1 r2 r3 r4 w hsz HG cT cF cQ.1 cQ.2 _ hT h
  rw [dif_neg cQ] at h
  by_cases q1 : 1 < a0.size
  · have q2 : ¬ bt a0 0 = 39 := fun z => cQ ⟨q1, z⟩
    by_cases cN : a0.toList = [78, 85, 76, 76]
    · rw [if_pos cN] at h; exact value_Parse.wN a0 r1 r2 r3 r4 w hsz HG cT cF q1 q2 cN h
    · rw [if_neg cN] at h; exact value_Parse.wI a0 r1 r2 r3 r4 w hsz HG cT cF q1 q2 cN _ hA h
  · by_cases cN : a0.toList = [78, 85, 76, 76]
    · exfalso
      have e := congrArg List.length cN
      rw [ByteArray.toList_eq, Array.length_toList] at e
      have e : a0.size = 4 := e
      omega
    · rw [if_neg cN] at h; exact value_Parse.wJ a0 r1 r2 r3 r4 w hsz HG cT cF q1 cN _ hA h
end Go.Proofs.YtllehkjebikgpaaGreatDoorX
