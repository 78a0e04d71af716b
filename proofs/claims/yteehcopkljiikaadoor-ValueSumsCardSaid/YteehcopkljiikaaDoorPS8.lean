/- What the document's Sum tells; no program's steps in sight; no conditions beyond those in each theorem's head. -/
import Derived.Test.YteehcopkljiikaaDoorPFRNumber
import Derived.Test.YteehcopkljiikaaDoorPFRSum
import Derived.Test.YteehcopkljiikaaDoorPSF
import Derived.Test.YteehcopkljiikaaDoorPS7
namespace Go.Proofs.YteehcopkljiikaaDoor.PS
open Go.RowKit Go.Proofs.YteehcopkljiikaaDoorW.PrintWords Go.Proofs.YteehcopkljiikaaDoorW.PrintLast Go.Proofs.YteehcopkljiikaaDoorW.PrintMore Go.Proofs.YteehcopkljiikaaDoorX Go.Proofs.YteehcopkljiikaaDoorL Go.Proofs.YteehcopkljiikaaDoor.PA
set_option linter.unusedVariables false
set_option linter.unusedSimpArgs false

theorem nums1_nil {l : List S23} (any : Bool) : (any || decide (0 < (nums1 l).length)) = (any || !decide ((nums1 l).length = 0)) := by
  congr 1
  by_cases h : (nums1 l).length = 0 <;> simp [h] <;> omega
/-- What a sum in two parts comes to. -/
def endS (any : Bool) (t : Int) : Int × Int × ByteArray × Int := if any = true then madeS t else (0, 0, ⟨#[]⟩, 0)
theorem ends (l : List S23) (any : Bool) (high low : Int) (hl : 0 ≤ low) (hm : low < 4611686018427387904) {i : Int} (hi : ¬ i < (l.length : Int)) {k : Nat} (hk : 2 ≤ k) :
    unisonref01_Sum.l0 k l any high low i = some (endS any (high * 4611686018427387904 + low)) := by
  obtain ⟨k, rfl⟩ : ∃ j, k = j + 1 + 1 := ⟨k - 2, by omega⟩
  rw [unisonref01_Sum.l0, if_neg hi, endS]
  cases any with
  | false => rfl
  | true =>
    rw [if_pos rfl, if_pos rfl]
    have num : ∀ n, unisonref01_Number.f n = some (1, n, ⟨#[]⟩) := fun _ => rfl
    by_cases h0 : high = 0
    · subst h0
      rw [if_pos rfl, num, some_bind, madeS, if_neg (by omega), show 0 * 4611686018427387904 + low = low by omega]
    · rw [if_neg h0]
      by_cases h1 : high = 1
      · subst h1
        rw [if_pos rfl, unisonref01_Sum.j2]
        by_cases h2 : low = 0
        · subst h2
          rw [if_pos (by decide), num, some_bind]; rfl
        · rw [if_neg (by simpa using h2), if_neg (by decide), madeS, if_pos (by omega)]
      · rw [if_neg h1, unisonref01_Sum.j2, if_neg (by decide)]
        by_cases h3 : high = -1
        · subst h3
          rw [if_pos rfl, num, some_bind, wrap64_of (by omega) (by omega), madeS, if_neg (by omega), show -1 * 4611686018427387904 + low = low - 4611686018427387904 by omega]
        · rw [if_neg h3, madeS, if_pos (by omega)]
theorem ref_loop {l : List S23} (hx : l.length < 10000000000) (hl : ∀ v ∈ l, right v = true ∧ (v.f0 = 1 ∨ v.f0 = 0)) : ∀ (d i : Nat) (any : Bool) (high low : Int), i + d = l.length → 0 ≤ low → low < 4611686018427387904 → -(2 * i : Int) ≤ high → high ≤ (2 * i : Int) →
    ∀ k, 2 * d + 2 ≤ k → unisonref01_Sum.l0 k l any high low (i : Int) = some (endS (any || decide (0 < (nums1 (l.drop i)).length)) (high * 4611686018427387904 + low + tot (nums1 (l.drop i))))
  | d, i, any, high, low, hd, h0, h1, h2, h3, 0, hk => by omega
  | d, i, any, high, low, hd, h0, h1, h2, h3, 1, hk => by omega
  | 0, i, any, high, low, hd, h0, h1, h2, h3, k + 2, hk => by
    rw [ends l any high low h0 h1 (by omega) (by omega), List.drop_eq_nil_of_le (by omega), nums1, tot]; simp
  | d + 1, i, any, high, low, hd, h0, h1, h2, h3, k + 2, hk => by
    rw [unisonref01_Sum.l0, if_pos (by omega), if_pos (by omega), rd_at, w1 (by omega), drop_at (by omega), nums1]
    have hm : l.getD i z23 ∈ l := by
      have h : i < l.length := by omega
      rw [List.getD_eq_getElem?_getD, List.getElem?_eq_getElem h]; exact List.getElem_mem h
    generalize l.getD i z23 = v at *
    by_cases g : v.f0 = 0
    · rw [if_pos g, if_pos g]
      exact ref_loop hx hl d (i + 1) any high low (by omega) h0 h1 (by omega) (by omega) (k + 1) (by omega)
    · rw [if_neg g, if_neg g]
      have hv := right_sm' (hl v hm).1
      have fin : ∀ (high' low' : Int), 0 ≤ low' → low' < 4611686018427387904 → -(2 * ((i + 1 : Nat) : Int)) ≤ high' → high' ≤ 2 * ((i + 1 : Nat) : Int) → high' * 4611686018427387904 + low' = high * 4611686018427387904 + low + v.f1 →
          unisonref01_Sum.l0 k l true high' low' ((i + 1 : Nat) : Int) = some (endS (any || decide (0 < (v.f1 :: nums1 (l.drop (i + 1))).length)) (high * 4611686018427387904 + low + tot (v.f1 :: nums1 (l.drop (i + 1))))) := by
        intro high' low' a b c d' e
        rw [ref_loop hx hl d (i + 1) true high' low' (by omega) a b c d' k (by omega), e, tot, Bool.true_or, decide_eq_true (by simp), Bool.or_true, Int.add_assoc]
      by_cases hn : v.f1 < 0
      · rw [if_pos hn, unisonref01_Sum.j1, wrap64_of (n := v.f1 + 4611686018427387904) (by omega) (by omega), if_neg (by omega), wrap64_of (n := low + (v.f1 + 4611686018427387904)) (by omega) (by omega), wrap64_of (n := high - 1) (by omega) (by omega), w1 (by omega)]
        by_cases hc : low + (v.f1 + 4611686018427387904) ≥ 4611686018427387904
        · rw [if_pos hc, wrap64_of (by omega) (by omega), wrap64_of (by omega) (by omega)]
          exact fin _ _ (by omega) (by omega) (by omega) (by omega) (by omega)
        · rw [if_neg hc]
          exact fin _ _ (by omega) (by omega) (by omega) (by omega) (by omega)
      · rw [if_neg hn, unisonref01_Sum.j1, w1 (by omega)]
        by_cases hf : v.f1 = 4611686018427387904
        · rw [if_pos hf, wrap64_of (n := low) (by omega) (by omega), if_neg (by omega), wrap64_of (by omega) (by omega)]
          exact fin _ _ (by omega) (by omega) (by omega) (by omega) (by omega)
        · rw [if_neg hf, wrap64_of (n := low + v.f1) (by omega) (by omega)]
          by_cases hc : low + v.f1 ≥ 4611686018427387904
          · rw [if_pos hc, wrap64_of (by omega) (by omega), wrap64_of (by omega) (by omega)]
            exact fin _ _ (by omega) (by omega) (by omega) (by omega) (by omega)
          · rw [if_neg hc]
            exact fin _ _ (by omega) (by omega) (by omega) (by omega) (by omega)
theorem sum_ref (l : List S23) (hx : l.length < 10000000000) {k : Nat} (hk : 2 * l.length + 10 ≤ k) : unisonref01_Sum.f k l = some (sumS l) := by
  unfold unisonref01_Sum.f sumS
  rw [refused_row 1 l (by omega) (by omega), some_bind]
  by_cases h : allS 1 l = 0
  · have hl := allS_zero.1 h
    have := ref_loop hx hl l.length 0 false 0 0 (by omega) (by decide) (by decide) (by decide) (by decide) k (by omega)
    rw [List.drop_zero] at this
    rw [if_pos h, if_neg (by simp [h])]
    refine this.trans ?_
    unfold endS
    by_cases g : (nums1 l).length = 0
    · rw [if_pos g, if_neg (by simp [g])]
    · rw [if_neg g, if_pos (by simp; omega)]; simp
  · rw [if_neg h, if_pos h]
end Go.Proofs.YteehcopkljiikaaDoor.PS
