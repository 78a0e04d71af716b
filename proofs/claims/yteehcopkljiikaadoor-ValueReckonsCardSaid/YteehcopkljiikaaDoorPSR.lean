/- The document's Right; no conditions beyond those in each theorem's head. -/
import Derived.Test.YteehcopkljiikaaDoorMD
import Derived.Test.YteehcopkljiikaaDoorPS1
namespace Go.Proofs.YteehcopkljiikaaDoor.PS
open Go.RowKit Go.Proofs.YteehcopkljiikaaDoorW.PrintWords Go.Proofs.YteehcopkljiikaaDoorW.PrintLast Go.Proofs.YteehcopkljiikaaDoorW.PrintMore Go.Proofs.YteehcopkljiikaaDoorX Go.Proofs.YteehcopkljiikaaDoorL Go.Proofs.YteehcopkljiikaaDoor.PA
set_option linter.unusedVariables false
set_option linter.unusedSimpArgs false

theorem right_ref (v : S23) : unisonref01_Right.f v.f0 v.f1 v.f2 = some (right v) := by
  unfold unisonref01_Right.f right
  simp only [beq_nil]
  by_cases h0 : v.f0 = 0
  · rw [if_pos h0]
    by_cases a : v.f1 = 0
    · rw [if_pos a]; simp [h0, a]
    · rw [if_neg a]; simp [h0, a]
  · rw [if_neg h0]
    by_cases h1 : v.f0 = 1
    · rw [if_pos h1]
      by_cases a : v.f1 ≥ (-4611686018427387904) <;> by_cases b : v.f1 ≤ 4611686018427387904 <;> simp [h1, a, b] <;> omega
    · rw [if_neg h1]
      by_cases h2 : v.f0 = 2
      · rw [if_pos h2]
        by_cases a : v.f1 = 0
        · rw [if_pos a]; simp [h2, a]
        · rw [if_neg a]
          by_cases b : v.f1 = 1
          · rw [if_pos b]; simp [h2, b]
          · rw [if_neg b]; simp [h2, a, b]
      · rw [if_neg h2]
        by_cases h3 : v.f0 = 3
        · rw [if_pos h3]
          by_cases a : v.f1 = 0
          · rw [if_pos a]; simp [h3, a]; omega
          · rw [if_neg a]; simp [h3, a]
        · rw [if_neg h3]; simp [h0, h1, h2, h3]

end Go.Proofs.YteehcopkljiikaaDoor.PS
