/- What refused tells of a list; no conditions beyond those in each theorem's head. -/
import Derived.Test.YteehcopkljiikaaDoorMD
import Derived.Test.YteehcopkljiikaaDoorPS2
import Derived.Test.YteehcopkljiikaaDoorPSR
namespace Go.Proofs.YteehcopkljiikaaDoor.PS
open Go.RowKit Go.Proofs.YteehcopkljiikaaDoorW.PrintWords Go.Proofs.YteehcopkljiikaaDoorW.PrintLast Go.Proofs.YteehcopkljiikaaDoorW.PrintMore Go.Proofs.YteehcopkljiikaaDoorX Go.Proofs.YteehcopkljiikaaDoorL Go.Proofs.YteehcopkljiikaaDoor.PA
set_option linter.unusedVariables false
set_option linter.unusedSimpArgs false

theorem refused_loop1 {l : List S23} (kind : Int) (hx : l.length < 1000000000000) : ∀ (d i : Nat), i + d = l.length → ∀ k, d + 1 ≤ k →
    unisonref01_refused.l1 k kind l (i : Int) = some (if (l.drop i).all (fit kind) = true then 0 else 11)
  | d, i, hd, 0, hk => by omega
  | 0, i, hd, k + 1, hk => by
    rw [unisonref01_refused.l1, if_neg (by omega), List.drop_eq_nil_of_le (by omega)]; simp
  | d + 1, i, hd, k + 1, hk => by
    rw [unisonref01_refused.l1, if_pos (by omega), if_pos (by omega), rd_at, w1 (by omega), drop_at (by omega), List.all_cons, fit]
    by_cases h1 : (l.getD i z23).f0 = kind
    · rw [if_pos h1, refused_loop1 kind hx d (i + 1) (by omega) k (by omega), decide_eq_true h1, Bool.true_or, Bool.true_and]
    · rw [if_neg h1]
      by_cases h2 : (l.getD i z23).f0 = 0
      · rw [if_pos h2, refused_loop1 kind hx d (i + 1) (by omega) k (by omega), decide_eq_true h2, Bool.or_true, Bool.true_and]
      · rw [if_neg h2, decide_eq_false h1, decide_eq_false h2]
        simp
theorem refused_loop {l : List S23} (kind : Int) (hx : l.length < 1000000000000) : ∀ (d i : Nat), i + d = l.length → ∀ k, d + l.length + 2 ≤ k →
    unisonref01_refused.l0 k kind l (i : Int) = some (if (l.drop i).all right = true then (if l.all (fit kind) = true then 0 else 11) else 10)
  | d, i, hd, 0, hk => by omega
  | 0, i, hd, k + 1, hk => by
    have h0 := refused_loop1 kind hx l.length 0 (by omega) k (by omega)
    rw [List.drop_zero, show ((0 : Nat) : Int) = 0 from rfl] at h0
    rw [unisonref01_refused.l0, if_neg (by omega), h0, List.drop_eq_nil_of_le (show l.length ≤ i by omega), List.all_nil, if_pos rfl]
  | d + 1, i, hd, k + 1, hk => by
    rw [unisonref01_refused.l0, if_pos (by omega), if_pos (by omega), rd_at, w1 (by omega), right_ref, some_bind, drop_at (by omega), List.all_cons]
    by_cases hr : right (l.getD i z23) = true
    · rw [if_pos hr, hr, Bool.true_and, refused_loop kind hx d (i + 1) (by omega) k (by omega)]
    · rw [if_neg hr, if_neg (by rw [Bool.eq_false_iff.2 hr, Bool.false_and]; decide)]
theorem refused_row (kind : Int) (l : List S23) (hx : l.length < 1000000000000) {k : Nat} (hk : 2 * l.length + 2 ≤ k) : unisonref01_refused.f k kind l = some (allS kind l) := by
  unfold unisonref01_refused.f allS
  have := refused_loop kind hx l.length 0 (by omega) k (by omega)
  rw [List.drop_zero] at this
  exact this
end Go.Proofs.YteehcopkljiikaaDoor.PS
