/- weighs answers, and what is known if it answers no more than the bound; no conditions beyond those in each theorem's head. -/
import Derived.Test.YtakhnkkcllfbjaaDoorPAx12
namespace Go.Proofs.YtakhnkkcllfbjaaDoorX
open Go.RowKit
open Go.Proofs.YtakhnkkcllfbjaaDoor.PA (S51 k51 S37 k37 rd_T51 rd_T37 z51 z37 unisonlaw04_weighs.l0 unisonlaw04_weighs.l1 unisonlaw04_weighs.j1 unisonlaw04_weighs.j3 unisonlaw04_weighs.f)
set_option linter.unusedVariables false
set_option linter.unusedSimpArgs false
abbrev bnd : Int := 2147483647
def Fits51 (x : S51) : Prop := (x.f3.size : Int) ≤ bnd ∧ (x.f1.size : Int) ≤ bnd ∧ (x.f2.size : Int) ≤ bnd ∧ (x.f5.length : Int) ≤ bnd
def Fits37 (x : S37) : Prop := (x.f1.size : Int) ≤ bnd ∧ (x.f0.size : Int) ≤ bnd
theorem w64 {x : Int} (h0 : -1000000000000000000 ≤ x) (h1 : x ≤ 1000000000000000000) : wrap64 x = x := by unfold wrap64; omega
theorem wsum4 {x : Int} {a b c d : Nat} (h0 : 0 ≤ x) (h1 : x ≤ 2147483647) (ha : (a : Int) ≤ 2147483647) (hb : (b : Int) ≤ 2147483647) (hc : (c : Int) ≤ 2147483647) (hd : (d : Int) ≤ 2147483647) :
    wrap64 (wrap64 (wrap64 (wrap64 (x + (a : Int)) + (b : Int)) + (c : Int)) + (d : Int)) = x + a + b + c + d := by
  rw [w64 (x := x + a) (by omega) (by omega), w64 (x := x + a + b) (by omega) (by omega), w64 (x := x + a + b + c) (by omega) (by omega), w64 (by omega) (by omega)]
theorem wsum2 {x : Int} {a b : Nat} (h0 : 0 ≤ x) (h1 : x ≤ 2147483647) (ha : (a : Int) ≤ 2147483647) (hb : (b : Int) ≤ 2147483647) :
    wrap64 (wrap64 (x + (a : Int)) + (b : Int)) = x + a + b := by
  rw [w64 (x := x + a) (by omega) (by omega), w64 (by omega) (by omega)]
theorem wnext {i : Nat} (h : i ≤ 140737488351232) : wrap64 ((i : Int) + 1) = ((i + 1 : Nat) : Int) := by rw [w64 (by omega) (by omega)]; omega
theorem weigh1 (l : List S51) (hl : l.length ≤ 140737488351232) : ∀ (m i : Nat) (x : Int), l.length - i = m → i ≤ l.length → 0 ≤ x → x ≤ 500000000000000000 →
    ∃ k r, unisonlaw04_weighs.l1 k l x i = some r ∧ (r ≤ bnd → x ≤ r ∧ ∀ (j : Nat) (y : S51), i ≤ j → l[j]? = some y → Fits51 y) := by
  intro m
  induction m with
  | zero =>
    intro i x hm hi h0 h1
    refine ⟨2, x, ?_, fun hr => ⟨Int.le_refl _, fun j y hj hy => ?_⟩⟩
    · simp only [unisonlaw04_weighs.l1]
      rw [if_neg (by omega)]
      simp only [unisonlaw04_weighs.j3]
      rfl
    · have := (List.getElem?_eq_some_iff.1 hy).1
      omega
  | succ m ih =>
    intro i x hm hi h0 h1
    have hi2 : i < l.length := by omega
    have hm1 : l.length - (i + 1) = m := by omega
    by_cases hx : x ≤ 2147483647
    · have hrd : rd_T51 l (i : Int) = l[i] := by
        show l.getD ((i : Int).toNat) z51 = _
        rw [Int.toNat_natCast, List.getD_eq_getElem?_getD, List.getElem?_eq_getElem hi2]
        rfl
      have step : ∀ k, unisonlaw04_weighs.l1 (k + 2) l x i = (if (l[i].f3.size : Int) > 2147483647 then (some 2147483648) else (if (l[i].f1.size : Int) > 2147483647 then (some 2147483648) else (if (l[i].f2.size : Int) > 2147483647 then (some 2147483648) else (if (l[i].f5.length : Int) > 2147483647 then (some 2147483648) else (unisonlaw04_weighs.l1 k l (wrap64 ((wrap64 ((wrap64 ((wrap64 (x + (l[i].f3.size : Int))) + (l[i].f1.size : Int))) + (l[i].f2.size : Int))) + (l[i].f5.length : Int))) (wrap64 ((i : Int) + 1))))))) := fun k => by
        rw [← hrd]
        simp only [unisonlaw04_weighs.l1]
        rw [if_pos (show (i : Int) < (l.length : Int) by omega)]
        simp only [unisonlaw04_weighs.j3]
        rw [if_pos (decide_eq_true hx), if_pos (show (0 : Int) ≤ (i : Int) by omega), if_pos (show (i : Int) < (l.length : Int) by omega)]
      by_cases c3 : (l[i].f3.size : Int) > 2147483647
      · exact ⟨2, 2147483648, by rw [step 0, if_pos c3], fun h => absurd h (by decide)⟩
      by_cases c1 : (l[i].f1.size : Int) > 2147483647
      · exact ⟨2, 2147483648, by rw [step 0, if_neg c3, if_pos c1], fun h => absurd h (by decide)⟩
      by_cases c2 : (l[i].f2.size : Int) > 2147483647
      · exact ⟨2, 2147483648, by rw [step 0, if_neg c3, if_neg c1, if_pos c2], fun h => absurd h (by decide)⟩
      by_cases c5 : (l[i].f5.length : Int) > 2147483647
      · exact ⟨2, 2147483648, by rw [step 0, if_neg c3, if_neg c1, if_neg c2, if_pos c5], fun h => absurd h (by decide)⟩
      have e4 := wsum4 h0 hx (Int.not_lt.1 c3) (Int.not_lt.1 c1) (Int.not_lt.1 c2) (Int.not_lt.1 c5)
      have e5 := wnext (i := i) (by omega)
      have g3 := Int.not_lt.1 c3
      have g1 := Int.not_lt.1 c1
      have g2 := Int.not_lt.1 c2
      have g5 := Int.not_lt.1 c5
      obtain ⟨k, r, hk, hr⟩ := ih (i + 1) (x + l[i].f3.size + l[i].f1.size + l[i].f2.size + l[i].f5.length) hm1 hi2 (by clear step hrd c3 c1 c2 c5 e4 e5 ih; generalize l[i].f3.size = q1 at *; generalize l[i].f1.size = q2 at *; generalize l[i].f2.size = q3 at *; generalize l[i].f5.length = q4 at *; omega) (by clear step hrd c3 c1 c2 c5 e4 e5 ih; generalize l[i].f3.size = q1 at *; generalize l[i].f1.size = q2 at *; generalize l[i].f2.size = q3 at *; generalize l[i].f5.length = q4 at *; omega)
      refine ⟨k + 2, r, ?_, fun hr' => ?_⟩
      · rw [step k, if_neg c3, if_neg c1, if_neg c2, if_neg c5, e4, e5]
        exact hk
      · obtain ⟨h2, h3⟩ := hr hr'
        refine ⟨by clear step hrd c3 c1 c2 c5 e4 e5 ih h3; generalize l[i].f3.size = q1 at *; generalize l[i].f1.size = q2 at *; generalize l[i].f2.size = q3 at *; generalize l[i].f5.length = q4 at *; omega, fun j y hj hy => ?_⟩
        rcases Nat.lt_or_ge i j with h4 | h4
        · exact h3 j y h4 hy
        · obtain rfl : j = i := Nat.le_antisymm h4 hj
          rw [List.getElem?_eq_getElem hi2] at hy
          obtain rfl := Option.some.inj hy
          exact ⟨Int.not_lt.1 c3, Int.not_lt.1 c1, Int.not_lt.1 c2, Int.not_lt.1 c5⟩
    · refine ⟨2, x, ?_, fun hr => absurd hr (by show ¬ x ≤ 2147483647; exact hx)⟩
      simp only [unisonlaw04_weighs.l1]
      rw [if_pos (show (i : Int) < (l.length : Int) by omega)]
      simp only [unisonlaw04_weighs.j3]
      rw [if_neg (by rw [decide_eq_true_iff]; exact hx)]
theorem weigh0 (l0 : List S37) (l : List S51) (hl0 : l0.length ≤ 140737488351232) (hl : l.length ≤ 140737488351232) : ∀ (m i : Nat) (x : Int), l0.length - i = m → i ≤ l0.length → 0 ≤ x → x ≤ 500000000000000000 →
    ∃ k r, unisonlaw04_weighs.l0 k l0 l x i = some r ∧ (r ≤ bnd → x ≤ r ∧ (∀ (j : Nat) (y : S37), i ≤ j → l0[j]? = some y → Fits37 y) ∧ ∀ (j : Nat) (y : S51), l[j]? = some y → Fits51 y) := by
  intro m
  induction m with
  | zero =>
    intro i x hm hi h0 h1
    obtain ⟨k, r, hk, hr⟩ := weigh1 l hl _ 0 x rfl (by omega) h0 h1
    refine ⟨k + 2, r, ?_, fun hr' => ?_⟩
    · simp only [unisonlaw04_weighs.l0]
      rw [if_neg (by omega)]
      simp only [unisonlaw04_weighs.j1]
      exact hk
    · obtain ⟨h2, h3⟩ := hr hr'
      refine ⟨h2, fun j y hj hy => ?_, fun j y hy => h3 j y (Nat.zero_le _) hy⟩
      have := (List.getElem?_eq_some_iff.1 hy).1
      omega
  | succ m ih =>
    intro i x hm hi h0 h1
    have hi2 : i < l0.length := by omega
    have hm1 : l0.length - (i + 1) = m := by omega
    by_cases hx : x ≤ 2147483647
    · have hrd : rd_T37 l0 (i : Int) = l0[i] := by
        show l0.getD ((i : Int).toNat) z37 = _
        rw [Int.toNat_natCast, List.getD_eq_getElem?_getD, List.getElem?_eq_getElem hi2]
        rfl
      have step : ∀ k, unisonlaw04_weighs.l0 (k + 2) l0 l x i = (if (l0[i].f1.size : Int) > 2147483647 then (some 2147483648) else (if (l0[i].f0.size : Int) > 2147483647 then (some 2147483648) else (unisonlaw04_weighs.l0 k l0 l (wrap64 ((wrap64 (x + (l0[i].f1.size : Int))) + (l0[i].f0.size : Int))) (wrap64 ((i : Int) + 1))))) := fun k => by
        rw [← hrd]
        simp only [unisonlaw04_weighs.l0]
        rw [if_pos (show (i : Int) < (l0.length : Int) by omega)]
        simp only [unisonlaw04_weighs.j1]
        rw [if_pos (decide_eq_true hx), if_pos (show (0 : Int) ≤ (i : Int) by omega), if_pos (show (i : Int) < (l0.length : Int) by omega)]
      by_cases c1 : (l0[i].f1.size : Int) > 2147483647
      · exact ⟨2, 2147483648, by rw [step 0, if_pos c1], fun h => absurd h (by decide)⟩
      by_cases c2 : (l0[i].f0.size : Int) > 2147483647
      · exact ⟨2, 2147483648, by rw [step 0, if_neg c1, if_pos c2], fun h => absurd h (by decide)⟩
      have e4 := wsum2 h0 hx (Int.not_lt.1 c1) (Int.not_lt.1 c2)
      have e5 := wnext (i := i) (by omega)
      have g1 := Int.not_lt.1 c1
      have g2 := Int.not_lt.1 c2
      obtain ⟨k, r, hk, hr⟩ := ih (i + 1) (x + l0[i].f1.size + l0[i].f0.size) hm1 hi2 (by clear step hrd c1 c2 e4 e5 ih; generalize l0[i].f1.size = q1 at *; generalize l0[i].f0.size = q2 at *; omega) (by clear step hrd c1 c2 e4 e5 ih; generalize l0[i].f1.size = q1 at *; generalize l0[i].f0.size = q2 at *; omega)
      refine ⟨k + 2, r, ?_, fun hr' => ?_⟩
      · rw [step k, if_neg c1, if_neg c2, e4, e5]
        exact hk
      · obtain ⟨h2, h3, h3'⟩ := hr hr'
        refine ⟨by clear step hrd c1 c2 e4 e5 ih h3 h3'; generalize l0[i].f1.size = q1 at *; generalize l0[i].f0.size = q2 at *; omega, fun j y hj hy => ?_, h3'⟩
        rcases Nat.lt_or_ge i j with h4 | h4
        · exact h3 j y h4 hy
        · obtain rfl : j = i := Nat.le_antisymm h4 hj
          rw [List.getElem?_eq_getElem hi2] at hy
          obtain rfl := Option.some.inj hy
          exact ⟨Int.not_lt.1 c1, Int.not_lt.1 c2⟩
    · obtain ⟨k, r, hk, hr⟩ := weigh1 l hl _ 0 x rfl (by omega) h0 h1
      refine ⟨k + 2, r, ?_, fun hr' => absurd (hr hr').1 (by have h9 : r ≤ 2147483647 := hr'; omega)⟩
      simp only [unisonlaw04_weighs.l0]
      rw [if_pos (show (i : Int) < (l0.length : Int) by omega)]
      simp only [unisonlaw04_weighs.j1]
      rw [if_neg (by rw [decide_eq_true_iff]; exact hx)]
      exact hk
/-- weighs answers; and if it answers no more than the bound, all is short. -/
theorem weighs_some (l0 : List S37) (l : List S51) (hl0 : l0.length ≤ 140737488351232) (hl : l.length ≤ 140737488351232) :
    ∃ k r, unisonlaw04_weighs.f k l0 l = some r ∧ (r ≤ bnd → (l0.length : Int) + l.length ≤ r ∧ (∀ (j : Nat) (y : S37), l0[j]? = some y → Fits37 y) ∧ ∀ (j : Nat) (y : S51), l[j]? = some y → Fits51 y) := by
  have e : wrap64 ((l0.length : Int) + (l.length : Int)) = (l0.length : Int) + l.length := w64 (by omega) (by omega)
  obtain ⟨k, r, hk, hr⟩ := weigh0 l0 l hl0 hl _ 0 ((l0.length : Int) + l.length) rfl (by omega) (by omega) (by omega)
  refine ⟨k, r, ?_, fun h => ?_⟩
  · show unisonlaw04_weighs.l0 k l0 l (wrap64 ((l0.length : Int) + (l.length : Int))) 0 = some r
    rw [e]
    exact hk
  · obtain ⟨h2, h3, h4⟩ := hr h
    exact ⟨h2, fun j y hy => h3 j y (Nat.zero_le _) hy, h4⟩
end Go.Proofs.YtakhnkkcllfbjaaDoorX
