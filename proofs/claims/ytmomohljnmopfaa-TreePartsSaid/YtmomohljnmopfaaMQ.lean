/- Several texts in one: PTreePartsx3, WF; no conditions beyond those in each theorem's head. -/
import Derived.Test.YtmomohljnmopfaaMP
import Derived.Test.YtmomohljnmopfaaME
section
namespace Go.Proofs.Ytmomohljnmopfaa.PTreeParts
open Go.RowKit Go.Proofs.YtmomohljnmopfaaW.PrintWords Go.Proofs.YtmomohljnmopfaaW.PrintLast Go.Proofs.YtmomohljnmopfaaW.PrintMore
attribute [local go_sem] max2_int min2_int max_two min_two max_three min_three max_four min_four   -- for this text's walks alone
set_option linter.unusedVariables false
set_option linter.unusedSimpArgs false

attribute [local go_sem high] eqA40
/-! ### unisonlaw07_same: function 16 -/
def unisonlaw07_same.l0 : Nat → List (S40) → List (S40) → Int → Option (Bool)
  | 0, _, _, _ => none
  | k + 1, x0, x1, x5 => if x5 < (x0.length : Int) then (if 0 ≤ x5 then (if x5 < (x1.length : Int) then (if (!((((rd_T40 x0 x5).f0).toList) == (((rd_T40 x1 x5).f0).toList)) || (!((((rd_T40 x0 x5).f1).toList) == (((rd_T40 x1 x5).f1).toList)))) = true then (some false) else (unisonlaw07_same.l0 k x0 x1 (wrap64 (x5 + 1)))) else (none)) else (none)) else (some true)
def unisonlaw07_same.f (k : Nat) (l0 : List (S40)) (l1 : List (S40)) : Option (Bool) := if (l0.length : Int) = (l1.length : Int) then (unisonlaw07_same.l0 k l0 l1 0) else (some false)
theorem unisonlaw07_same.mono_l : ∀ k, (∀ y0 y1 y2, LeO (unisonlaw07_same.l0 k y0 y1 y2) (unisonlaw07_same.l0 (k + 1) y0 y1 y2))
  | 0 => fun _ _ _ r h => by simp [unisonlaw07_same.l0] at h
  | k + 1 => by
    have ih0 := unisonlaw07_same.mono_l k
    · intro y0 y1 y2
      unfold unisonlaw07_same.l0
      repeat' first
      | (with_reducible exact ih0 _ _ _)
      | (with_reducible exact LeO.refl _)
      | (with_reducible exact LeO.none _)
      | (with_reducible refine LeO.ite ?_ ?_)
      | (with_reducible refine LeO.bind ?_ (fun _ => ?_))
      | exact ih0 _ _ _
      | exact LeO.none _
      | refine LeO.ite ?_ ?_
      | refine LeO.bind ?_ (fun _ => ?_)
theorem unisonlaw07_same.mono : ∀ a0 a1 k, LeO (unisonlaw07_same.f k a0 a1) (unisonlaw07_same.f (k + 1) a0 a1) := by
  intro a0 a1 k
  have ih0 := unisonlaw07_same.mono_l k
  unfold unisonlaw07_same.f
  repeat' first
      | (with_reducible exact ih0 _ _ _)
      | (with_reducible exact LeO.refl _)
      | (with_reducible exact LeO.none _)
      | (with_reducible refine LeO.ite ?_ ?_)
      | (with_reducible refine LeO.bind ?_ (fun _ => ?_))
      | exact ih0 _ _ _
      | exact LeO.none _
      | refine LeO.ite ?_ ?_
      | refine LeO.bind ?_ (fun _ => ?_)
set_option maxHeartbeats 8000000 in
set_option maxRecDepth 100000 in
theorem unisonlaw07_same.calls (k : Nat) (A0 : Option Addr) (c0 : Nat) (l0 : List (S40)) (A1 : Option Addr) (c1 : Nat) (l1 : List (S40)) (r : Bool) (w : World) (hr0 : Kd.C k40 w A0 l0.length l0) (hc0 : l0.length ≤ c0) (hr1 : Kd.C k40 w A1 l1.length l1) (hc1 : l1.length ≤ c1) (h : unisonlaw07_same.f k l0 l1 = some r) :
    Calls Try.prog 16 #[.slice A0 l0.length c0, .slice A1 l1.length c1] w fun e w' => e = .returned (.bool r) ∧ Drawn0 w w' := by
  have hu40 := Try.underlying40
  have HR0 := Aside0.mk hr0
  have HC0 := Aside0.mk hc0
  clear hr0 hc0
  have HR1 := Aside0.mk hr1
  have HC1 := Aside0.mk hc1
  clear hr1 hc1
  have H : (if (l0.length : Int) = (l1.length : Int) then (unisonlaw07_same.l0 k l0 l1 0) else (some false)) = some r := h
  clear h
  by_cases c3 : (l0.length : Int) = (l1.length : Int)
  · rw [if_pos c3] at H
    have c3b0 : ((l0.length : Int) == (l1.length : Int)) = true := beq_iff_eq.mpr c3
    have c3b1 : ((l0.length : Int) != (l1.length : Int)) = false := bne_eq_false_iff_eq.mpr c3
    have c3b2 : (l0.length == l1.length) = true := by first | simpa using c3 | (simp at c3 ⊢; omega)
    clear c3
    have H' := Aside0.mk H
    clear H
    go_enter Try.func16, Try.ntmps16
    go_wp2
    repeat (go_quiet (fail); try go_wp2)
    go_loopg [5] k (fun kq v5 w' => ∃ (x5_1 : Int), v5 = .int .i64 x5_1 ∧ Aside0 (unisonlaw07_same.l0 kq l0 l1 x5_1 = some r) ∧ Aside0 (kq ≤ k) ∧ Drawn0 w w')
    case atStart => exact ⟨(0), (by first | rfl | (simp; done) | (simp [*]; done)), H', ⟨Nat.le_refl _⟩, by repeat (first | exact Drawn0.refl _ | apply Drawn0.step)⟩
    case round =>
      clear H'
      try clear c1
      try clear p2
      try clear c3
      try clear c3b0
      try clear c3b1
      try clear c3b2
      obtain ⟨x5_1, rfl, HA, HK1, ⟨m1, rfl⟩⟩ := hrel
      cases gk with
      | zero => exact absurd HA.out (by simp [unisonlaw07_same.l0])
      | succ k1 =>
        have H := HA.out
        clear HA
        simp only [unisonlaw07_same.l0] at H
        by_cases c4 : x5_1 < (l0.length : Int)
        · rw [if_pos c4] at H
          have c4b0 : decide (x5_1 < (l0.length : Int)) = true := decide_eq_true c4
          clear c4
          by_cases c5 : 0 ≤ x5_1
          · rw [if_pos c5] at H
            have c5b0 : decide (0 ≤ x5_1) = true := decide_eq_true c5
            clear c5
            by_cases c6 : x5_1 < (l1.length : Int)
            · rw [if_pos c6] at H
              have c6b0 : decide (x5_1 < (l1.length : Int)) = true := decide_eq_true c6
              clear c6
              by_cases c7 : (!((((rd_T40 l0 x5_1).f0).toList) == (((rd_T40 l1 x5_1).f0).toList)) || (!((((rd_T40 l0 x5_1).f1).toList) == (((rd_T40 l1 x5_1).f1).toList)))) = true
              · rw [if_pos c7] at H
                have c7b0 : (!((((rd_T40 l0 x5_1).f0).toList) == (((rd_T40 l1 x5_1).f0).toList)) || (!((((rd_T40 l0 x5_1).f1).toList) == (((rd_T40 l1 x5_1).f1).toList)))) = true := c7
                clear c7
                obtain rfl := Option.some.inj H
                have p135 : 0 ≤ (x5_1 : Int) := of_decide_eq_true (by first | (with_reducible assumption) | assumption)
                have q135 : x5_1 < (l0.length : Int) := of_decide_eq_true (by first | (with_reducible assumption) | assumption)
                obtain ⟨ad135, e135, hx135_0, hx135_1⟩ := at_T40 HR0.out x5_1 p135 q135
                cases e135
                replace p135 := eq_true p135
                replace q135 := eq_true q135
                have p136 : 0 ≤ (x5_1 : Int) := of_decide_eq_true (by first | (with_reducible assumption) | assumption)
                have q136 : x5_1 < (l1.length : Int) := of_decide_eq_true (by first | (with_reducible assumption) | assumption)
                obtain ⟨ad136, e136, hx136_0, hx136_1⟩ := at_T40 HR1.out x5_1 p136 q136
                cases e136
                replace p136 := eq_true p136
                replace q136 := eq_true q136
                go_wp2
                repeat (go_quiet (fail); try go_wp2)
                go_ret
                exact ⟨by first | rfl | (simp; done) | (simp [*]; done), by repeat (first | exact Drawn0.refl _ | apply Drawn0.step)⟩
              · rw [if_neg c7] at H
                have c7b0 : (!((((rd_T40 l0 x5_1).f0).toList) == (((rd_T40 l1 x5_1).f0).toList)) || (!((((rd_T40 l0 x5_1).f1).toList) == (((rd_T40 l1 x5_1).f1).toList)))) = false := by simpa using c7
                clear c7
                have H' := Aside0.mk H
                clear H
                have p135 : 0 ≤ (x5_1 : Int) := of_decide_eq_true (by first | (with_reducible assumption) | assumption)
                have q135 : x5_1 < (l0.length : Int) := of_decide_eq_true (by first | (with_reducible assumption) | assumption)
                obtain ⟨ad135, e135, hx135_0, hx135_1⟩ := at_T40 HR0.out x5_1 p135 q135
                cases e135
                replace p135 := eq_true p135
                replace q135 := eq_true q135
                have p136 : 0 ≤ (x5_1 : Int) := of_decide_eq_true (by first | (with_reducible assumption) | assumption)
                have q136 : x5_1 < (l1.length : Int) := of_decide_eq_true (by first | (with_reducible assumption) | assumption)
                obtain ⟨ad136, e136, hx136_0, hx136_1⟩ := at_T40 HR1.out x5_1 p136 q136
                cases e136
                replace p136 := eq_true p136
                replace q136 := eq_true q136
                go_wp2
                repeat (go_quiet (fail); try go_wp2)
                go_roundg k1
                case measure => have := HK1.out; omega
                case rel => exact ⟨(wrap64 (x5_1 + 1)), (by first | rfl | (simp; done) | (simp [*]; done)), H', ⟨by have := HK1.out; omega⟩, by repeat (first | exact Drawn0.refl _ | apply Drawn0.step)⟩
            · rw [if_neg c6] at H
              exact absurd H (by simp)
          · rw [if_neg c5] at H
            exact absurd H (by simp)
        · rw [if_neg c4] at H
          have c4b0 : decide (x5_1 < (l0.length : Int)) = false := decide_eq_false c4
          clear c4
          obtain rfl := Option.some.inj H
          go_wp2
          repeat (go_quiet (fail); try go_wp2)
          go_ret
          exact ⟨by first | rfl | (simp; done) | (simp [*]; done), by repeat (first | exact Drawn0.refl _ | apply Drawn0.step)⟩
  · rw [if_neg c3] at H
    have c3b0 : ((l0.length : Int) == (l1.length : Int)) = false := beq_eq_false_iff_ne.mpr c3
    have c3b1 : ((l0.length : Int) != (l1.length : Int)) = true := bne_iff_ne.mpr c3
    have c3b2 : (l0.length == l1.length) = false := by first | simpa using c3 | (simp at c3 ⊢; omega)
    obtain rfl := Option.some.inj H
    go_enter Try.func16, Try.ntmps16
    go_wp2
    repeat (go_quiet (fail); try go_wp2)
    go_ret
    exact ⟨by first | rfl | (simp; done) | (simp [*]; done), by repeat (first | exact Drawn0.refl _ | apply Drawn0.step)⟩

-- NOT PRINTED: function 3 (unisonlaw07_TreeParts)

end Go.Proofs.Ytmomohljnmopfaa.PTreeParts
end
section
namespace Go.Proofs.YtmomohljnmopfaaX
open Go.RowKit Go.Proofs.YtmomohljnmopfaaW.PrintWords
open Go.Proofs.Ytmomohljnmopfaa.PTreeParts (S64 k64 S40 k40 rd_T64 rd_T40 z64 z40 k40_mk k40_open unisonlaw07_weighs.l0 unisonlaw07_weighs.l1 unisonlaw07_weighs.j1 unisonlaw07_weighs.j3 unisonlaw07_weighs.f unisonlaw07_weighs.calls unisonlaw07_same.f unisonlaw07_same.l0 unisonlaw07_same.calls)
set_option linter.unusedVariables false
set_option linter.unusedSimpArgs false
abbrev bnd : Int := 2147483647
def Fits64 (x : S64) : Prop := (x.f1.size : Int) ≤ bnd ∧ (x.f2.size : Int) ≤ bnd
def Fits40 (x : S40) : Prop := (x.f0.size : Int) ≤ bnd ∧ (x.f1.size : Int) ≤ bnd
theorem w64 {x : Int} (h0 : -1000000000000000000 ≤ x) (h1 : x ≤ 1000000000000000000) : wrap64 x = x := by unfold wrap64; omega
theorem wsum2 {x : Int} {a b : Nat} (h0 : 0 ≤ x) (h1 : x ≤ 2147483647) (ha : (a : Int) ≤ 2147483647) (hb : (b : Int) ≤ 2147483647) :
    wrap64 (wrap64 (x + (a : Int)) + (b : Int)) = x + a + b := by
  rw [w64 (x := x + a) (by omega) (by omega), w64 (by omega) (by omega)]
theorem wnext {i : Nat} (h : i ≤ 140737488351232) : wrap64 ((i : Int) + 1) = ((i + 1 : Nat) : Int) := by rw [w64 (by omega) (by omega)]; omega
theorem weigh1 (l : List S64) (hl : l.length ≤ 140737488351232) : ∀ (m i : Nat) (x : Int), l.length - i = m → i ≤ l.length → 0 ≤ x → x ≤ 500000000000000000 →
    ∃ k r, unisonlaw07_weighs.l1 k l x i = some r ∧ (r ≤ bnd → x ≤ r ∧ ∀ (j : Nat) (y : S64), i ≤ j → l[j]? = some y → Fits64 y) := by
  intro m
  induction m with
  | zero =>
    intro i x hm hi h0 h1
    refine ⟨2, x, ?_, fun hr => ⟨Int.le_refl _, fun j y hj hy => ?_⟩⟩
    · simp only [unisonlaw07_weighs.l1]
      rw [if_neg (by omega)]
      simp only [unisonlaw07_weighs.j3]
      rfl
    · have := (List.getElem?_eq_some_iff.1 hy).1
      omega
  | succ m ih =>
    intro i x hm hi h0 h1
    have hi2 : i < l.length := by omega
    have hm1 : l.length - (i + 1) = m := by omega
    by_cases hx : x ≤ 2147483647
    · have hrd : rd_T64 l (i : Int) = l[i] := by
        show l.getD ((i : Int).toNat) z64 = _
        rw [Int.toNat_natCast, List.getD_eq_getElem?_getD, List.getElem?_eq_getElem hi2]
        rfl
      have step : ∀ k, unisonlaw07_weighs.l1 (k + 2) l x i = (if (l[i].f1.size : Int) > 2147483647 then (some 2147483648) else (if (l[i].f2.size : Int) > 2147483647 then (some 2147483648) else (unisonlaw07_weighs.l1 k l (wrap64 ((wrap64 (x + (l[i].f1.size : Int))) + (l[i].f2.size : Int))) (wrap64 ((i : Int) + 1))))) := fun k => by
        rw [← hrd]
        simp only [unisonlaw07_weighs.l1]
        rw [if_pos (show (i : Int) < (l.length : Int) by omega)]
        simp only [unisonlaw07_weighs.j3]
        rw [if_pos (decide_eq_true hx), if_pos (show (0 : Int) ≤ (i : Int) by omega), if_pos (show (i : Int) < (l.length : Int) by omega)]
      by_cases c1 : (l[i].f1.size : Int) > 2147483647
      · exact ⟨2, 2147483648, by rw [step 0, if_pos c1], fun h => absurd h (by decide)⟩
      by_cases c2 : (l[i].f2.size : Int) > 2147483647
      · exact ⟨2, 2147483648, by rw [step 0, if_neg c1, if_pos c2], fun h => absurd h (by decide)⟩
      have e4 := wsum2 h0 hx (Int.not_lt.1 c1) (Int.not_lt.1 c2)
      have e5 := wnext (i := i) (by omega)
      have g1 := Int.not_lt.1 c1
      have g2 := Int.not_lt.1 c2
      obtain ⟨k, r, hk, hr⟩ := ih (i + 1) (x + l[i].f1.size + l[i].f2.size) hm1 hi2 (by clear step hrd c1 c2 e4 e5 ih; generalize l[i].f1.size = q1 at *; generalize l[i].f2.size = q2 at *; omega) (by clear step hrd c1 c2 e4 e5 ih; generalize l[i].f1.size = q1 at *; generalize l[i].f2.size = q2 at *; omega)
      refine ⟨k + 2, r, ?_, fun hr' => ?_⟩
      · rw [step k, if_neg c1, if_neg c2, e4, e5]
        exact hk
      · obtain ⟨h2, h3⟩ := hr hr'
        refine ⟨by clear step hrd c1 c2 e4 e5 ih h3; generalize l[i].f1.size = q1 at *; generalize l[i].f2.size = q2 at *; omega, fun j y hj hy => ?_⟩
        rcases Nat.lt_or_ge i j with h4 | h4
        · exact h3 j y h4 hy
        · obtain rfl : j = i := Nat.le_antisymm h4 hj
          rw [List.getElem?_eq_getElem hi2] at hy
          obtain rfl := Option.some.inj hy
          exact ⟨Int.not_lt.1 c1, Int.not_lt.1 c2⟩
    · refine ⟨2, x, ?_, fun hr => absurd hr (by show ¬ x ≤ 2147483647; exact hx)⟩
      simp only [unisonlaw07_weighs.l1]
      rw [if_pos (show (i : Int) < (l.length : Int) by omega)]
      simp only [unisonlaw07_weighs.j3]
      rw [if_neg (by rw [decide_eq_true_iff]; exact hx)]
theorem weigh0 (l0 : List S40) (l : List S64) (hl0 : l0.length ≤ 140737488351232) (hl : l.length ≤ 140737488351232) : ∀ (m i : Nat) (x : Int), l0.length - i = m → i ≤ l0.length → 0 ≤ x → x ≤ 500000000000000000 →
    ∃ k r, unisonlaw07_weighs.l0 k l0 l x i = some r ∧ (r ≤ bnd → x ≤ r ∧ (∀ (j : Nat) (y : S40), i ≤ j → l0[j]? = some y → Fits40 y) ∧ ∀ (j : Nat) (y : S64), l[j]? = some y → Fits64 y) := by
  intro m
  induction m with
  | zero =>
    intro i x hm hi h0 h1
    obtain ⟨k, r, hk, hr⟩ := weigh1 l hl _ 0 x rfl (by omega) h0 h1
    refine ⟨k + 2, r, ?_, fun hr' => ?_⟩
    · simp only [unisonlaw07_weighs.l0]
      rw [if_neg (by omega)]
      simp only [unisonlaw07_weighs.j1]
      exact hk
    · obtain ⟨h2, h3⟩ := hr hr'
      refine ⟨h2, fun j y hj hy => ?_, fun j y hy => h3 j y (Nat.zero_le _) hy⟩
      have := (List.getElem?_eq_some_iff.1 hy).1
      omega
  | succ m ih =>
    intro i x hm hi h0 h1
    have hi2 : i < l0.length := by omega
    have hm1 : l0.length - (i + 1) = m := by omega
    by_cases hx : x ≤ 2147483647
    · have hrd : rd_T40 l0 (i : Int) = l0[i] := by
        show l0.getD ((i : Int).toNat) z40 = _
        rw [Int.toNat_natCast, List.getD_eq_getElem?_getD, List.getElem?_eq_getElem hi2]
        rfl
      have step : ∀ k, unisonlaw07_weighs.l0 (k + 2) l0 l x i = (if (l0[i].f0.size : Int) > 2147483647 then (some 2147483648) else (if (l0[i].f1.size : Int) > 2147483647 then (some 2147483648) else (unisonlaw07_weighs.l0 k l0 l (wrap64 ((wrap64 (x + (l0[i].f0.size : Int))) + (l0[i].f1.size : Int))) (wrap64 ((i : Int) + 1))))) := fun k => by
        rw [← hrd]
        simp only [unisonlaw07_weighs.l0]
        rw [if_pos (show (i : Int) < (l0.length : Int) by omega)]
        simp only [unisonlaw07_weighs.j1]
        rw [if_pos (decide_eq_true hx), if_pos (show (0 : Int) ≤ (i : Int) by omega), if_pos (show (i : Int) < (l0.length : Int) by omega)]
      by_cases c1 : (l0[i].f0.size : Int) > 2147483647
      · exact ⟨2, 2147483648, by rw [step 0, if_pos c1], fun h => absurd h (by decide)⟩
      by_cases c2 : (l0[i].f1.size : Int) > 2147483647
      · exact ⟨2, 2147483648, by rw [step 0, if_neg c1, if_pos c2], fun h => absurd h (by decide)⟩
      have e4 := wsum2 h0 hx (Int.not_lt.1 c1) (Int.not_lt.1 c2)
      have e5 := wnext (i := i) (by omega)
      have g1 := Int.not_lt.1 c1
      have g2 := Int.not_lt.1 c2
      obtain ⟨k, r, hk, hr⟩ := ih (i + 1) (x + l0[i].f0.size + l0[i].f1.size) hm1 hi2 (by clear step hrd c1 c2 e4 e5 ih; generalize l0[i].f0.size = q1 at *; generalize l0[i].f1.size = q2 at *; omega) (by clear step hrd c1 c2 e4 e5 ih; generalize l0[i].f0.size = q1 at *; generalize l0[i].f1.size = q2 at *; omega)
      refine ⟨k + 2, r, ?_, fun hr' => ?_⟩
      · rw [step k, if_neg c1, if_neg c2, e4, e5]
        exact hk
      · obtain ⟨h2, h3, h3'⟩ := hr hr'
        refine ⟨by clear step hrd c1 c2 e4 e5 ih h3 h3'; generalize l0[i].f0.size = q1 at *; generalize l0[i].f1.size = q2 at *; omega, fun j y hj hy => ?_, h3'⟩
        rcases Nat.lt_or_ge i j with h4 | h4
        · exact h3 j y h4 hy
        · obtain rfl : j = i := Nat.le_antisymm h4 hj
          rw [List.getElem?_eq_getElem hi2] at hy
          obtain rfl := Option.some.inj hy
          exact ⟨Int.not_lt.1 c1, Int.not_lt.1 c2⟩
    · obtain ⟨k, r, hk, hr⟩ := weigh1 l hl _ 0 x rfl (by omega) h0 h1
      refine ⟨k + 2, r, ?_, fun hr' => absurd (hr hr').1 (by have h9 : r ≤ 2147483647 := hr'; omega)⟩
      simp only [unisonlaw07_weighs.l0]
      rw [if_pos (show (i : Int) < (l0.length : Int) by omega)]
      simp only [unisonlaw07_weighs.j1]
      rw [if_neg (by rw [decide_eq_true_iff]; exact hx)]
      exact hk
/-- weighs answers; and if it answers no more than the bound, all is short. -/
theorem weighs_some (l0 : List S40) (l : List S64) (hl0 : l0.length ≤ 140737488351232) (hl : l.length ≤ 140737488351232) :
    ∃ k r, unisonlaw07_weighs.f k l0 l = some r ∧ (r ≤ bnd → (l0.length : Int) + l.length ≤ r ∧ (∀ (j : Nat) (y : S40), l0[j]? = some y → Fits40 y) ∧ ∀ (j : Nat) (y : S64), l[j]? = some y → Fits64 y) := by
  have e : wrap64 ((l0.length : Int) + (l.length : Int)) = (l0.length : Int) + l.length := w64 (by omega) (by omega)
  obtain ⟨k, r, hk, hr⟩ := weigh0 l0 l hl0 hl _ 0 ((l0.length : Int) + l.length) rfl (by omega) (by omega) (by omega)
  refine ⟨k, r, ?_, fun h => ?_⟩
  · show unisonlaw07_weighs.l0 k l0 l (wrap64 ((l0.length : Int) + (l.length : Int))) 0 = some r
    rw [e]
    exact hk
  · obtain ⟨h2, h3, h4⟩ := hr h
    exact ⟨h2, fun j y hy => h3 j y (Nat.zero_le _) hy, h4⟩
/-! ### pairs -/
def sK (p : KV) : S40 := ⟨⟨p.1.toArray⟩, p.2⟩
def kS (x : S40) : KV := (x.f0.data.toList, x.f1)
theorem sK_kS (x : S40) : sK (kS x) = x := by cases x; simp [sK, kS]
theorem C_pairs {w : World} {A : Option Addr} {l : List KV} (h : SrcP w A l) (hl : l.length ≤ 9223372036854775807) : Kd.C k40 w A (l.map sK).length (l.map sK) := by
  refine ⟨rfl, by rw [List.length_map]; exact hl, fun h0 => ?_⟩
  rw [List.length_map] at h0
  obtain ⟨ad, hA, -⟩ := h 0 _ (List.getElem?_eq_getElem h0)
  refine ⟨ad, hA, fun j p hj => ?_⟩
  rw [List.getElem?_map, Option.map_eq_some_iff] at hj
  obtain ⟨q, hq, rfl⟩ := hj
  obtain ⟨ad', hA', h1, h2⟩ := h j q hq
  rw [hA] at hA'
  cases hA'
  refine ⟨_, rfl, k40_mk w (sK q), fun i u hi => ?_⟩
  rcases i with _ | _ | i
  · cases hi; exact h1
  · cases hi
    show w.cell? (ad.add (j * 2 + 1)) = _
    have e : ad.add (j * 2 + 1) = ⟨(ad.add (j * 2)).block, (ad.add (j * 2)).off + 1, none⟩ := by
      cases j with
      | zero => simp [Addr.add]
      | succ j =>
        have h : ¬ (j + 1) * 2 = 0 := by omega
        simp only [Addr.add, if_neg h, if_neg (Nat.succ_ne_zero _), Nat.add_assoc]
    rw [e]
    exact h2
  · simp at hi
theorem src_pairs {w : World} {A : Option Addr} {n : Nat} {xs : List S40} (h : Kd.C k40 w A n xs) : SrcP w A (xs.map kS) := fun i p hi => by
  rw [List.getElem?_map, Option.map_eq_some_iff] at hi
  obtain ⟨x, hx, rfl⟩ := hi
  have hl := (List.getElem?_eq_some_iff.1 hx).1
  obtain ⟨ad, hA, hc⟩ := h.2.2 (by have := h.1; omega)
  obtain ⟨c, hc1, hc2, hc3⟩ := hc i x hx
  have e := k40_open hc2
  subst e
  refine ⟨ad, hA, ?_, ?_⟩
  · exact hc3 0 _ rfl
  · have h9 : w.cell? (ad.add (i * 2 + 1)) = some (.string x.f1) := hc3 1 (.string x.f1) rfl
    have e : ad.add (i * 2 + 1) = ⟨(ad.add (i * 2)).block, (ad.add (i * 2)).off + 1, none⟩ := by
      cases i with
      | zero => simp [Addr.add]
      | succ j =>
        have h : ¬ (j + 1) * 2 = 0 := by omega
        simp only [Addr.add, if_neg h, if_neg (Nat.succ_ne_zero _), Nat.add_assoc]
    rw [e] at h9
    exact h9
theorem same_some (l : List S40) (hl : l.length ≤ 140737488351232) : ∃ k, unisonlaw07_same.f k l l = some true := by
  have h : ∀ m i : Nat, l.length - i = m → i ≤ l.length → ∃ k, unisonlaw07_same.l0 k l l i = some true := by
    intro m
    induction m with
    | zero =>
      intro i hm hi
      refine ⟨1, ?_⟩
      simp only [unisonlaw07_same.l0]
      rw [if_neg (by omega)]
    | succ m ih =>
      intro i hm hi
      obtain ⟨k, hk⟩ := ih (i + 1) (by omega) (by omega)
      refine ⟨k + 1, ?_⟩
      simp only [unisonlaw07_same.l0]
      rw [if_pos (by omega), if_pos (by omega), if_pos (by omega), if_neg (by simp), wnext (by omega)]
      exact hk
  obtain ⟨k, hk⟩ := h _ 0 rfl (Nat.zero_le _)
  exact ⟨k, by unfold unisonlaw07_same.f; rw [if_pos rfl]; exact hk⟩
/-- same, of equal lists. -/
theorem same_calls {w : World} {A B : Option Addr} {c d : Nat} {l : List KV} (hA : SrcP w A l) (hB : SrcP w B l) (hl : l.length ≤ 4294967296) (hc : l.length ≤ c) (hd : l.length ≤ d) :
    Calls Try.prog 16 #[.slice A l.length c, .slice B l.length d] w fun e w' => e = .returned (.bool true) ∧ ∃ n, w' = w.drewN n := by
  obtain ⟨k, hk⟩ := same_some (l.map sK) (by rw [List.length_map]; omega)
  have h := unisonlaw07_same.calls k A c (l.map sK) B d (l.map sK) true w (C_pairs hA (by omega)) (by rw [List.length_map]; exact hc) (C_pairs hB (by omega)) (by rw [List.length_map]; exact hd) hk
  rw [List.length_map] at h
  exact h.mono (fun e w' ⟨h1, h2⟩ => ⟨h1, h2.out⟩)
theorem weighs_calls {w : World} {A B : Option Addr} {c d : Nat} {l : List S40} {s : List S64} (hA : Kd.C k40 w A l.length l) (hB : Kd.C k64 w B s.length s) (hl : l.length ≤ 140737488351232) (hs : s.length ≤ 140737488351232) (hc : l.length ≤ c) (hd : s.length ≤ d) :
    ∃ r : Int, (Calls Try.prog 9 #[.slice A l.length c, .slice B s.length d] w fun e w' => e = .returned (.int .i64 r) ∧ ∃ n, w' = w.drewN n) ∧ (r ≤ bnd → (l.length : Int) + s.length ≤ r ∧ (∀ (j : Nat) (y : S40), l[j]? = some y → Fits40 y) ∧ ∀ (j : Nat) (y : S64), s[j]? = some y → Fits64 y) := by
  obtain ⟨k, r, hk, hr⟩ := weighs_some l s hl hs
  exact ⟨r, (unisonlaw07_weighs.calls k A c l B d s r w hA hc hB hd hk).mono (fun e w' ⟨h1, h2⟩ => ⟨h1, h2.out⟩), hr⟩
end Go.Proofs.YtmomohljnmopfaaX
end
