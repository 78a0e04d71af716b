/- The lists' order; no program's steps in sight; no conditions beyond those in each theorem's head. -/
import Derived.Test.YtohknmlcleifpaaDoorPS6
namespace Go.Proofs.YtohknmlcleifpaaDoor.PS
open Go.RowKit Go.Proofs.YtohknmlcleifpaaDoorW.PrintWords Go.Proofs.YtohknmlcleifpaaDoorW.PrintLast Go.Proofs.YtohknmlcleifpaaDoorW.PrintMore Go.Proofs.YtohknmlcleifpaaDoorX Go.Proofs.YtohknmlcleifpaaDoorL Go.Proofs.YtohknmlcleifpaaDoor.PA
set_option linter.unusedVariables false
set_option linter.unusedSimpArgs false

/-! ### the order -/
def cmpI (a b : Int) : Int := if a < b then -1 else if a > b then 1 else 0
theorem compare_int (a b : Int) : cmp_Compare_int.f a b = some (cmpI a b) := by
  unfold cmp_Compare_int.f cmp_isNaN_int.f cmpI
  rw [bne_self_eq_false, some_bind, bne_self_eq_false, some_bind, if_neg (by decide), if_neg (by decide)]
  split
  · rfl
  · split <;> rfl
theorem or_int (x y z : Int) {k : Nat} (hk : 4 ≤ k) : cmp_Or_int.f k [x, y, z] = some (if x = 0 then if y = 0 then z else y else x) := by
  obtain ⟨k, rfl⟩ : ∃ j, k = j + 1 + 1 + 1 + 1 := ⟨k - 4, by omega⟩
  unfold cmp_Or_int.f
  have r0 : rd [x, y, z] 0 = x := rfl
  have r1 : rd [x, y, z] 1 = y := rfl
  have r2 : rd [x, y, z] 2 = z := rfl
  have e1 : wrap64 (0 + 1) = 1 := by unfold wrap64; omega
  have e2 : wrap64 (1 + 1) = 2 := by unfold wrap64; omega
  have e3 : wrap64 (2 + 1) = 3 := by unfold wrap64; omega
  have l3 : (([x, y, z] : List Int).length : Int) = 3 := rfl
  rw [l3, cmp_Or_int.l0, if_pos (by decide), if_pos (by decide), l3, if_pos (by decide), r0, e1]
  by_cases h : x = 0
  · rw [if_pos h, if_pos h, cmp_Or_int.l0, if_pos (by decide), if_pos (by decide), l3, if_pos (by decide), r1, e2]
    by_cases g : y = 0
    · rw [if_pos g, if_pos g, cmp_Or_int.l0, if_pos (by decide), if_pos (by decide), l3, if_pos (by decide), r2, e3]
      by_cases f : z = 0
      · rw [if_pos f, cmp_Or_int.l0, if_neg (by decide), f]
      · rw [if_neg f]
    · rw [if_neg g, if_neg g]
  · rw [if_neg h, if_neg h]
theorem cmpI_lt {a b : Int} (h : a < b) : cmpI a b = -1 := if_pos h
theorem cmpI_gt {a b : Int} (h : b < a) : cmpI a b = 1 := by unfold cmpI; rw [if_neg (by omega), if_pos h]
theorem cmpI_eq {a b : Int} (h : a = b) : cmpI a b = 0 := by unfold cmpI; rw [if_neg (by omega), if_neg (by omega)]
theorem order_value (v w : S25) {k : Nat} (hk : 4 ≤ k) : value_Order.f k v.f0 v.f1 v.f2 w.f0 w.f1 w.f2 = some (cmpV v w) := by
  unfold value_Order.f
  rw [compare_int, some_bind, compare_int, some_bind, show strings_Compare.f v.f2 w.f2 = some (Lib.compareBytes v.f2.data.toList w.f2.data.toList) from rfl, some_bind, or_int _ _ _ hk, some_bind, compare_eq]
  congr 1
  by_cases e : v = w
  · subst e
    unfold cmpV
    rw [if_pos rfl, cmpI_eq rfl, cmpI_eq rfl, ltI_irrefl]; rfl
  · unfold cmpV
    rw [if_neg e]
    rcases vlt_total v w with g | g | g
    · rw [if_pos g]
      simp only [vlt, Bool.or_eq_true, Bool.and_eq_true, decide_eq_true_eq] at g
      rcases g with g | ⟨h0, g⟩
      · rw [cmpI_lt g]; rfl
      · rw [cmpI_eq h0, if_pos rfl]
        rcases g with g | ⟨h1, g⟩
        · rw [cmpI_lt g]; rfl
        · rw [cmpI_eq h1, if_pos rfl, if_pos g]
    · exact absurd g e
    · rw [if_neg (show ¬ vlt v w = true by rw [vlt_asymm g]; decide)]
      simp only [vlt, Bool.or_eq_true, Bool.and_eq_true, decide_eq_true_eq] at g
      rcases g with g | ⟨h0, g⟩
      · rw [cmpI_gt g]; rfl
      · rw [cmpI_eq h0.symm, if_pos rfl]
        rcases g with g | ⟨h1, g⟩
        · rw [cmpI_gt g]; rfl
        · rw [cmpI_eq h1.symm, if_pos rfl, if_neg (by rw [ltI_asymm g]; decide), if_pos g]
theorem cmpL_drop {x y : List S25} {i : Nat} (hx : i < x.length) (hy : i < y.length) : cmpL (x.drop i) (y.drop i) = if x.getD i z25 = y.getD i z25 then cmpL (x.drop (i + 1)) (y.drop (i + 1)) else cmpV (x.getD i z25) (y.getD i z25) := by
  rw [List.drop_eq_getElem_cons hx, List.drop_eq_getElem_cons hy, cmpL, List.getD_eq_getElem?_getD, List.getElem?_eq_getElem hx, List.getD_eq_getElem?_getD, List.getElem?_eq_getElem hy]
  show (if x[i] = y[i] then _ else _) = if x[i] = y[i] then _ else cmpV x[i] y[i]
  by_cases h : x[i] = y[i]
  · rw [if_pos h, if_pos h]
  · rw [if_neg h, if_neg h]; unfold cmpV; rw [if_neg h]
theorem cmpL_end {x y : List S25} {i : Nat} (hx : i ≤ x.length) (hy : i ≤ y.length) (h : i = x.length ∨ i = y.length) : cmpL (x.drop i) (y.drop i) = cmpI (x.length : Int) (y.length : Int) := by
  have lx := List.length_drop (i := i) (l := x)
  have ly := List.length_drop (i := i) (l := y)
  unfold cmpI
  cases ex : x.drop i with
  | nil =>
    rw [ex] at lx
    cases ey : y.drop i with
    | nil => rw [ey] at ly; simp only [List.length_nil] at lx ly; rw [cmpL, if_neg (by omega), if_neg (by omega)]
    | cons w b => rw [ey] at ly; simp only [List.length_nil, List.length_cons] at lx ly; rw [cmpL, if_pos (by omega)]
  | cons v a =>
    rw [ex] at lx
    cases ey : y.drop i with
    | nil => rw [ey] at ly; simp only [List.length_nil, List.length_cons] at lx ly; rw [cmpL, if_neg (by omega), if_pos (by omega)]
    | cons w b => rw [ey] at ly; simp only [List.length_cons] at lx ly; omega
theorem cmpV_zero {v w : S25} : cmpV v w = 0 ↔ v = w := by
  unfold cmpV
  by_cases h : v = w
  · simp [h]
  · rw [if_neg h]
    split <;> simp [h]
theorem order_loop {x y : List S25} {n : Nat} (hn : (n : Int) = mn (x.length : Int) (y.length : Int)) (hb : x.length < 9223372036854775807) : ∀ (d i : Nat), i + d = n → ∀ k, d + 6 ≤ k → key_Order.l0 k x y (n : Int) (i : Int) = some (cmpL (x.drop i) (y.drop i))
  | d, i, hd, 0, hk => by omega
  | 0, i, hd, k + 1, hk => by
    unfold mn at hn
    rw [key_Order.l0, if_neg (by omega), compare_int, some_bind, cmpL_end (by split at hn <;> omega) (by split at hn <;> omega) (by split at hn <;> omega)]
  | d + 1, i, hd, k + 1, hk => by
    have h1 : i < x.length := by unfold mn at hn; split at hn <;> omega
    have h2 : i < y.length := by unfold mn at hn; split at hn <;> omega
    rw [key_Order.l0, if_pos (by omega), if_pos (by omega), if_pos (by omega), if_pos (by omega), rd_at, rd_at, order_value _ _ (by omega), some_bind, cmpL_drop h1 h2]
    by_cases e : x.getD i z25 = y.getD i z25
    · rw [if_pos (cmpV_zero.2 e), if_pos e, show wrap64 ((i : Int) + 1) = ((i + 1 : Nat) : Int) from by unfold wrap64; omega]
      exact order_loop hn hb d (i + 1) (by omega) k (by omega)
    · rw [if_neg (fun c => e (cmpV_zero.1 c)), if_neg e]
theorem order_row (x y : List S25) (hb : x.length < 9223372036854775807) {k : Nat} (hk : x.length + 6 ≤ k) : key_Order.f k x y = some (cmpL x y) := by
  unfold key_Order.f
  obtain ⟨n, hn⟩ : ∃ n : Nat, (n : Int) = mn (x.length : Int) (y.length : Int) := by
    unfold mn
    split
    · exact ⟨y.length, rfl⟩
    · exact ⟨x.length, rfl⟩
  rw [← hn]
  have h1 : n ≤ x.length := by unfold mn at hn; split at hn <;> omega
  exact order_loop hn hb n 0 (by omega) k (by omega)

end Go.Proofs.YtohknmlcleifpaaDoor.PS
