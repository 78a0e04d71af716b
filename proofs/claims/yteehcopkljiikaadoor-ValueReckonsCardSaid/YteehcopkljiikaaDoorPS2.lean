/- What all and refused tell of a list; no program's steps in sight; no conditions beyond those in each theorem's head. -/
import Derived.Test.YteehcopkljiikaaDoorMA
import Derived.Test.YteehcopkljiikaaDoorPS1
namespace Go.Proofs.YteehcopkljiikaaDoor.PS
open Go.RowKit Go.Proofs.YteehcopkljiikaaDoorW.PrintWords Go.Proofs.YteehcopkljiikaaDoorW.PrintLast Go.Proofs.YteehcopkljiikaaDoorW.PrintMore Go.Proofs.YteehcopkljiikaaDoorX Go.Proofs.YteehcopkljiikaaDoorL Go.Proofs.YteehcopkljiikaaDoor.PA
set_option linter.unusedVariables false
set_option linter.unusedSimpArgs false

theorem rd_at (l : List S23) (i : Nat) : rd_T23 l (i : Int) = l.getD i z23 := rfl
theorem w1 {i : Nat} (h : i < 1000000000000000) : wrap64 ((i : Int) + 1) = ((i + 1 : Nat) : Int) := by unfold wrap64; omega
theorem w2 {i : Nat} (h : i < 1000000000000000) : wrap64 ((i : Int) + 2) = ((i + 2 : Nat) : Int) := by unfold wrap64; omega
theorem drop_at {l : List S23} {i : Nat} (h : i < l.length) : l.drop i = l.getD i z23 :: l.drop (i + 1) := by
  rw [List.drop_eq_getElem_cons h, List.getD_eq_getElem?_getD, List.getElem?_eq_getElem h]; rfl
/-- A value of a kind, or NULL. -/
def fit (kind : Int) (v : S23) : Bool := decide (v.f0 = kind) || decide (v.f0 = 0)
/-- What is wrong with a list. -/
def allS (kind : Int) (l : List S23) : Int := if l.all right = true then (if l.all (fit kind) = true then 0 else 11) else 10
theorem all_loop {l : List S23} (kind : Int) (hx : l.length < 1000000000000) : ∀ (d i : Nat) (e : Int), i + d = l.length → ∀ k, d + 1 ≤ k →
    value_all.l0 k kind e l (l.length : Int) (i : Int) = some (if (l.drop i).all right = true then (if (l.drop i).all (fit kind) = true then e else 11) else 10)
  | d, i, e, hd, 0, hk => by omega
  | 0, i, e, hd, k + 1, hk => by
    rw [value_all.l0, if_neg (by omega), List.drop_eq_nil_of_le (by omega)]; simp
  | d + 1, i, e, hd, k + 1, hk => by
    rw [value_all.l0, if_pos (by omega), if_pos (by omega), if_pos (by omega), rd_at, w1 (by omega), right_row, some_bind, drop_at (by omega), List.all_cons, List.all_cons]
    by_cases hr : right (l.getD i z23) = true
    · rw [if_pos hr, hr, Bool.true_and, fit]
      by_cases h1 : (l.getD i z23).f0 = kind
      · rw [if_pos h1, all_loop kind hx d (i + 1) e (by omega) k (by omega), decide_eq_true h1, Bool.true_or, Bool.true_and]
      · rw [if_neg h1]
        by_cases h2 : (l.getD i z23).f0 = 0
        · rw [if_pos h2, all_loop kind hx d (i + 1) e (by omega) k (by omega), decide_eq_true h2, Bool.or_true, Bool.true_and]
        · rw [if_neg h2, all_loop kind hx d (i + 1) 11 (by omega) k (by omega), decide_eq_false h1, decide_eq_false h2]
          simp
    · rw [if_neg hr, if_neg (by rw [Bool.eq_false_iff.2 hr, Bool.false_and]; decide)]
theorem all_row (kind : Int) (l : List S23) (hx : l.length < 1000000000000) {k : Nat} (hk : l.length + 1 ≤ k) : value_all.f k kind l = some (allS kind l) := by
  unfold value_all.f allS
  have := all_loop kind hx l.length 0 0 (by omega) k hk
  rw [List.drop_zero] at this
  exact this
theorem allS_range (kind : Int) (l : List S23) : allS kind l = 0 ∨ allS kind l = 10 ∨ allS kind l = 11 := by
  unfold allS; split
  · split <;> simp
  · simp
theorem allS_zero {kind : Int} {l : List S23} : allS kind l = 0 ↔ ∀ v ∈ l, right v = true ∧ (v.f0 = kind ∨ v.f0 = 0) := by
  unfold allS
  constructor
  · intro h v hv
    split at h
    · next h1 =>
      split at h
      · next h2 =>
        have a := List.all_eq_true.1 h1 v hv
        have b := List.all_eq_true.1 h2 v hv
        simp [fit] at b
        exact ⟨a, b⟩
      · cases h
    · cases h
  · intro h
    rw [if_pos (List.all_eq_true.2 fun v hv => (h v hv).1), if_pos (List.all_eq_true.2 fun v hv => by simp [fit]; exact (h v hv).2)]
/-- A number that may be one, as a value. -/
def madeS (n : Int) : Int × Int × ByteArray × Int := if n < -4611686018427387904 ∨ 4611686018427387904 < n then (0, 0, ⟨#[]⟩, 12) else (1, n, ⟨#[]⟩, 0)
theorem made_row (n : Int) : value_made.f n = some (madeS n) := by
  unfold value_made.f madeS
  by_cases h : n < -4611686018427387904
  · rw [if_pos h, if_pos (.inl h)]
  · rw [if_neg h]
    by_cases g : n > 4611686018427387904
    · rw [if_pos g, if_pos (.inr g)]
    · rw [if_neg g, if_neg (by omega)]
end Go.Proofs.YteehcopkljiikaaDoor.PS
