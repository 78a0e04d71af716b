/- Reckoning with two values, and the opposite: the program's and the document's; no program's steps in sight; no conditions beyond those in each theorem's head. -/
import Derived.Test.YteehcopkljiikaaDoorPFRArith
import Derived.Test.YteehcopkljiikaaDoorMD
import Derived.Test.YteehcopkljiikaaDoorPFValueArith
import Derived.Test.YteehcopkljiikaaDoorPSF
import Derived.Test.YteehcopkljiikaaDoorPS2
namespace Go.Proofs.YteehcopkljiikaaDoor.PS
open Go.RowKit Go.Proofs.YteehcopkljiikaaDoorW.PrintWords Go.Proofs.YteehcopkljiikaaDoorW.PrintLast Go.Proofs.YteehcopkljiikaaDoorW.PrintMore Go.Proofs.YteehcopkljiikaaDoorX Go.Proofs.YteehcopkljiikaaDoorL Go.Proofs.YteehcopkljiikaaDoor.PA
set_option linter.unusedVariables false
set_option linter.unusedSimpArgs false

theorem fits_row (n : Int) : unisonref01_fits.f n = some (madeS n) := by
  unfold unisonref01_fits.f madeS
  by_cases h : n < -4611686018427387904
  · rw [if_pos h, if_pos (.inl h)]
  · rw [if_neg h]
    by_cases g : n > 4611686018427387904
    · rw [if_pos g, if_pos (.inr g)]
    · rw [if_neg g, if_neg (by omega)]; rfl
/-- A small number. -/
def sm (x : Int) : Prop := -4611686018427387904 ≤ x ∧ x ≤ 4611686018427387904
theorem div_gt {a b : Int} (ha : 0 < a) (h : a ≤ 4611686018427387904) : b > wrap64 (Int.tdiv 4611686018427387904 a) ↔ 4611686018427387904 < b * a := by
  have h1 : Int.tdiv 4611686018427387904 a = 4611686018427387904 / a := Int.tdiv_eq_ediv_of_nonneg (by decide)
  have h2 : 0 ≤ (4611686018427387904 : Int) / a := Int.ediv_nonneg (by decide) (by omega)
  have h3 : (4611686018427387904 : Int) / a ≤ 4611686018427387904 := Int.ediv_le_self _ (by decide)
  rw [h1, wrap64_of (by omega) (by omega), gt_iff_lt, Int.ediv_lt_iff_lt_mul ha]
theorem made_wrap {n : Int} (h0 : -9223372036854775808 ≤ n) (h1 : n ≤ 9223372036854775808) : madeS (wrap64 n) = madeS n := by
  by_cases h : n = 9223372036854775808
  · subst h
    rw [show wrap64 9223372036854775808 = -9223372036854775808 by unfold wrap64; rfl]; rfl
  · rw [wrap64_of h0 (by omega)]
theorem made_over {n : Int} (h : n < -4611686018427387904 ∨ 4611686018427387904 < n) : madeS n = (0, 0, ⟨#[]⟩, 12) := if_pos h
theorem pair_eta (t : Int × Int × ByteArray × Int) : (t.1, t.2.1, t.2.2.1, t.2.2.2) = t := rfl
theorem mx_abs {x : Int} (h : sm x) : mx x (wrap64 (-x)) = if x < 0 then -x else x := by
  rw [wrap64_of (by have := h; unfold sm at this; omega) (by have := h; unfold sm at this; omega)]
  unfold mx
  by_cases h : x < 0
  · rw [if_pos (by omega), if_pos h]
  · rw [if_neg h]; split <;> omega
/-- The size of a product. -/
theorem prod_abs (x y : Int) : (y.natAbs : Int) * (x.natAbs : Int) = ((x * y).natAbs : Int) := by rw [Int.natAbs_mul, Nat.mul_comm]; simp
theorem abs_if (x : Int) : (if x < 0 then -x else x) = (x.natAbs : Int) := by split <;> omega
theorem mul_row (x y : Int) (hx : sm x) (hy : sm y) (h0 : x ≠ 0) :
    (if (mx y (wrap64 (-y))) > (wrap64 (Int.tdiv (4611686018427387904 : Int) (mx x (wrap64 (-x))))) then (some (0, 0, (⟨#[]⟩ : ByteArray), 12)) else some (madeS (wrap64 (x * y)))) = some (madeS (x * y)) := by
  rw [mx_abs hx, mx_abs hy, abs_if, abs_if]
  have hx' := hx; unfold sm at hx'
  have e := div_gt (a := (x.natAbs : Int)) (b := (y.natAbs : Int)) (by omega) (by omega)
  rw [prod_abs] at e
  by_cases h : (y.natAbs : Int) > wrap64 (Int.tdiv 4611686018427387904 (x.natAbs : Int))
  · rw [if_pos h, made_over (by have := e.1 h; omega)]
  · rw [if_neg h]
    have : ¬ 4611686018427387904 < ((x * y).natAbs : Int) := fun g => h (e.2 g)
    rw [wrap64_of (by omega) (by omega)]
theorem times_row (x y : Int) (hx : sm x) (hy : sm y) {k : Nat} (hk : 1 ≤ k) : ∃ n b, unisonref01_times.f k x y = some (n, b) ∧ (if b = true then madeS n else (0, 0, ⟨#[]⟩, 12)) = madeS (x * y) := by
  obtain ⟨k, rfl⟩ : ∃ j, k = j + 1 := ⟨k - 1, by omega⟩
  unfold unisonref01_times.f
  have hx' := hx; unfold sm at hx'
  have hy' := hy; unfold sm at hy'
  have e1 : (if x < 0 then unisonref01_times.j0 (k + 1) x y (wrap64 (-x)) else unisonref01_times.j0 (k + 1) x y x) = unisonref01_times.j0 (k + 1) x y (x.natAbs : Int) := by
    by_cases h : x < 0
    · rw [if_pos h, wrap64_of (by omega) (by omega), show -x = (x.natAbs : Int) by omega]
    · rw [if_neg h]; congr 1; omega
  rw [e1, unisonref01_times.j0]
  have e2 : ∀ {α : Type} (u v : α) (t : Int), (if y < 0 then (if wrap64 (-y) > t then u else v) else (if y > t then u else v)) = if (y.natAbs : Int) > t then u else v := by
    intro α u v t
    by_cases h : y < 0
    · rw [if_pos h, wrap64_of (by omega) (by omega), show -y = (y.natAbs : Int) by omega]
    · rw [if_neg h, show (y.natAbs : Int) = y by omega]
  by_cases h0 : (x.natAbs : Int) > 0
  · simp only [if_pos h0, if_neg (show ¬ (x.natAbs : Int) = 0 by omega)]
    rw [e2]
    have e := div_gt (a := (x.natAbs : Int)) (b := (y.natAbs : Int)) (by omega) (by omega)
    rw [prod_abs] at e
    by_cases h : (y.natAbs : Int) > wrap64 (Int.tdiv 4611686018427387904 (x.natAbs : Int))
    · rw [if_pos h]
      exact ⟨_, _, rfl, by rw [if_neg (by decide), made_over (by have := e.1 h; omega)]⟩
    · rw [if_neg h]
      have : ¬ 4611686018427387904 < ((x * y).natAbs : Int) := fun g => h (e.2 g)
      exact ⟨_, _, rfl, by rw [if_pos rfl, wrap64_of (by omega) (by omega)]⟩
  · simp only [if_neg h0, ite_self]
    obtain rfl : x = 0 := by omega
    exact ⟨_, _, rfl, by rw [if_pos rfl]; simp [show wrap64 0 = 0 by unfold wrap64; rfl]⟩
/-- Two numbers reckoned with. -/
def calcS (op x y : Int) : Int × Int × ByteArray × Int :=
  if op = 1 then madeS (x + y) else if op = 2 then madeS (x - y) else if op = 3 then madeS (x * y) else if y = 0 then (0, 0, ⟨#[]⟩, 13) else if op = 4 then madeS (Int.tdiv x y) else madeS (Int.tmod x y)
theorem tdiv_sm {x y : Int} (hx : sm x) : sm (Int.tdiv x y) := by
  have h : (Int.tdiv x y).natAbs = x.natAbs / y.natAbs := Int.natAbs_tdiv x y
  have h1 : x.natAbs / y.natAbs ≤ x.natAbs := Nat.div_le_self _ _
  generalize x.natAbs / y.natAbs = q at *
  generalize Int.tdiv x y = p at *
  unfold sm at *
  omega
theorem j2_row (op x y : Int) (hx : sm x) (hy : sm y) {k : Nat} (hk : 1 ≤ k) : value_Arith.j2 k op x y = some (calcS op x y) := by
  obtain ⟨k, rfl⟩ : ∃ j, k = j + 1 := ⟨k - 1, by omega⟩
  have hx' := hx; unfold sm at hx'
  have hy' := hy; unfold sm at hy'
  rw [value_Arith.j2, calcS]
  simp only [made_row, some_bind, pair_eta]
  by_cases h1 : op = 1
  · rw [if_pos h1, if_pos h1, made_wrap (by omega) (by omega)]
  · rw [if_neg h1, if_neg h1]
    by_cases h2 : op = 2
    · rw [if_pos h2, if_pos h2, made_wrap (by omega) (by omega)]
    · rw [if_neg h2, if_neg h2]
      by_cases h3 : op = 3
      · rw [if_pos h3, if_pos h3]
        by_cases g : x = 0
        · subst g
          rw [if_pos rfl]; simp [show wrap64 0 = 0 by unfold wrap64; rfl]
        · rw [if_neg g, if_neg (by rw [mx_abs hx, abs_if]; omega), mul_row x y hx hy g]
      · rw [if_neg h3, if_neg h3]
        by_cases g : y = 0
        · rw [if_pos g, if_pos g]
        · rw [if_neg g, if_neg g]
          have := tdiv_sm (y := y) hx
          unfold sm at this
          rw [wrap64_of (by omega) (by omega)]
          split <;> rfl
/-- What Arith tells. -/
def arithS (op : Int) (v w : S23) : Int × Int × ByteArray × Int :=
  if op < 1 ∨ 5 < op then (0, 0, ⟨#[]⟩, 1) else if allS 1 [v, w] ≠ 0 ∨ v.f0 = 0 ∨ w.f0 = 0 then (0, 0, ⟨#[]⟩, allS 1 [v, w]) else calcS op v.f1 w.f1
theorem right_sm {v : S23} (h : right v = true) : sm v.f1 := by
  unfold sm
  rcases (right_iff v).1 h with h | h | h | h <;> omega
theorem arith_row (op : Int) (v w : S23) {k : Nat} (hk : 10 ≤ k) : value_Arith.f k op v.f0 v.f1 v.f2 w.f0 w.f1 w.f2 = some (arithS op v w) := by
  obtain ⟨k, rfl⟩ : ∃ j, k = j + 1 + 1 + 1 := ⟨k - 3, by omega⟩
  unfold value_Arith.f arithS
  have bad : ∀ j, value_Arith.j0 (j + 1) op true v.f0 v.f1 v.f2 w.f0 w.f1 w.f2 = some (0, 0, ⟨#[]⟩, 1) := fun j => by rw [value_Arith.j0, if_pos rfl]
  by_cases h1 : op < 1
  · rw [if_pos h1, bad, if_pos (.inl h1)]
  · rw [if_neg h1]
    by_cases h6 : op > 5
    · rw [decide_eq_true h6, bad, if_pos (.inr h6)]
    · rw [decide_eq_false h6, if_neg (show ¬ (op < 1 ∨ 5 < op) by omega), value_Arith.j0, if_neg (by decide), all_row 1 _ (by simp) (by simp; omega), some_bind]
      have stop : ∀ j e, value_Arith.j1 (j + 1) op e true v.f0 v.f1 v.f2 w.f0 w.f1 w.f2 = some (0, 0, ⟨#[]⟩, e) := fun j e => by rw [value_Arith.j1, if_pos rfl]
      by_cases ha : allS 1 [v, w] = 0
      · rw [if_pos ha]
        by_cases hv : v.f0 = 0
        · rw [if_pos hv, stop, if_pos (.inr (.inl hv))]
        · rw [if_neg hv]
          by_cases hw : w.f0 = 0
          · rw [show (w.f0 == 0) = true from beq_iff_eq.2 hw, stop, if_pos (.inr (.inr hw))]
          · rw [show (w.f0 == 0) = false from beq_eq_false_iff_ne.2 hw, value_Arith.j1, if_neg (by decide), if_neg (by simp [ha, hv, hw])]
            have hr := allS_zero.1 ha
            exact j2_row op v.f1 w.f1 (right_sm (hr v (by simp)).1) (right_sm (hr w (by simp)).1) (by omega)
      · rw [if_neg ha, stop, if_pos (.inl ha)]
theorem arith_ref (op : Int) (v w : S23) {k : Nat} (hk : 10 ≤ k) : unisonref01_Arith.f k op v.f0 v.f1 v.f2 w.f0 w.f1 w.f2 = some (arithS op v w) := by
  obtain ⟨k, rfl⟩ : ∃ j, k = j + 1 + 1 + 1 := ⟨k - 3, by omega⟩
  unfold unisonref01_Arith.f arithS
  have bad : ∀ j, unisonref01_Arith.j0 (j + 1) op true v.f0 v.f1 v.f2 w.f0 w.f1 w.f2 = some (0, 0, ⟨#[]⟩, 1) := fun j => by rw [unisonref01_Arith.j0, if_pos rfl]
  by_cases h1 : op < 1
  · rw [if_pos h1, bad, if_pos (.inl h1)]
  · rw [if_neg h1]
    by_cases h6 : op > 5
    · rw [decide_eq_true h6, bad, if_pos (.inr h6)]
    · rw [decide_eq_false h6, if_neg (show ¬ (op < 1 ∨ 5 < op) by omega), unisonref01_Arith.j0, if_neg (by decide), refused_row 1 _ (by simp) (by simp; omega), some_bind]
      have stop : ∀ j e, unisonref01_Arith.j1 (j + 1) op e true v.f0 v.f1 v.f2 w.f0 w.f1 w.f2 = some (0, 0, ⟨#[]⟩, e) := fun j e => by rw [unisonref01_Arith.j1, if_pos rfl]
      by_cases ha : allS 1 [v, w] = 0
      · rw [if_pos ha]
        by_cases hv : v.f0 = 0
        · rw [if_pos hv, stop, if_pos (.inr (.inl hv))]
        · rw [if_neg hv]
          by_cases hw : w.f0 = 0
          · rw [show (w.f0 == 0) = true from beq_iff_eq.2 hw, stop, if_pos (.inr (.inr hw))]
          · rw [show (w.f0 == 0) = false from beq_eq_false_iff_ne.2 hw, unisonref01_Arith.j1, if_neg (by decide), if_neg (show ¬ (allS 1 [v, w] ≠ 0 ∨ v.f0 = 0 ∨ w.f0 = 0) by simp [ha, hv, hw])]
            have hr := allS_zero.1 ha
            have hx := right_sm (hr v (by simp)).1
            have hy := right_sm (hr w (by simp)).1
            have hx' := hx; unfold sm at hx'
            have hy' := hy; unfold sm at hy'
            have hd := tdiv_sm (y := w.f1) hx
            unfold sm at hd
            rw [calcS]
            simp only [fits_row, some_bind, pair_eta]
            rw [made_wrap (by omega) (by omega), made_wrap (by omega) (by omega), wrap64_of (n := Int.tdiv v.f1 w.f1) (by omega) (by omega)]
            obtain ⟨n, b, e1, e2⟩ := times_row v.f1 w.f1 hx hy (k := k + 1) (by omega)
            rw [e1, some_bind, ← e2]
            clear e1 e2 hd hx hy hx' hy' bad stop
            repeat' split
            all_goals first | rfl | contradiction | simp_all
      · rw [if_neg ha, stop, if_pos (.inl ha)]
/-- What Neg tells. -/
def negS (v : S23) : Int × Int × ByteArray × Int := if allS 1 [v] ≠ 0 ∨ v.f0 = 0 then (0, 0, ⟨#[]⟩, allS 1 [v]) else (1, -v.f1, ⟨#[]⟩, 0)
end Go.Proofs.YteehcopkljiikaaDoor.PS
