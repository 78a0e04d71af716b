/- The opposite: the program's and the document's; no program's steps in sight; no conditions beyond those in each theorem's head. -/
import Derived.Test.YteehcopkljiikaaDoorPFRNeg
import Derived.Test.YteehcopkljiikaaDoorPFValueNeg
import Derived.Test.YteehcopkljiikaaDoorPS3
namespace Go.Proofs.YteehcopkljiikaaDoor.PS
open Go.RowKit Go.Proofs.YteehcopkljiikaaDoorW.PrintWords Go.Proofs.YteehcopkljiikaaDoorW.PrintLast Go.Proofs.YteehcopkljiikaaDoorW.PrintMore Go.Proofs.YteehcopkljiikaaDoorX Go.Proofs.YteehcopkljiikaaDoorL Go.Proofs.YteehcopkljiikaaDoor.PA
set_option linter.unusedVariables false
set_option linter.unusedSimpArgs false

theorem neg_row (v : S23) {k : Nat} (hk : 10 ≤ k) : value_Neg.f k v.f0 v.f1 v.f2 = some (negS v) := by
  unfold value_Neg.f negS
  rw [all_row 1 _ (by simp) (by simp; omega), some_bind]
  by_cases ha : allS 1 [v] = 0
  · rw [if_pos ha]
    by_cases hv : v.f0 = 0
    · rw [if_pos hv, if_pos (.inr hv)]
    · have hx := right_sm (allS_zero.1 ha v (by simp)).1
      unfold sm at hx
      rw [if_neg hv, if_neg (by simp [ha, hv]), made_row, some_bind, wrap64_of (by omega) (by omega), madeS, if_neg (by omega)]
  · rw [if_neg ha, if_pos (.inl ha)]
theorem neg_ref (v : S23) {k : Nat} (hk : 10 ≤ k) : unisonref01_Neg.f k v.f0 v.f1 v.f2 = some (negS v) := by
  unfold unisonref01_Neg.f negS
  rw [refused_row 1 _ (by simp) (by simp; omega), some_bind]
  by_cases ha : allS 1 [v] = 0
  · rw [if_pos ha]
    by_cases hv : v.f0 = 0
    · rw [if_pos hv, if_pos (.inr hv)]
    · have hx := right_sm (allS_zero.1 ha v (by simp)).1
      unfold sm at hx
      rw [if_neg hv, if_neg (by simp [ha, hv]), wrap64_of (by omega) (by omega)]; rfl
  · rw [if_neg ha, if_pos (.inl ha)]
end Go.Proofs.YteehcopkljiikaaDoor.PS
