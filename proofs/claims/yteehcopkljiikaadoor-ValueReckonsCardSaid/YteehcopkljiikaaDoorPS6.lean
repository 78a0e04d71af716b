/- What And, Or and Not tell; no program's steps in sight; no conditions beyond those in each theorem's head. -/
import Derived.Test.YteehcopkljiikaaDoorMB
import Derived.Test.YteehcopkljiikaaDoorPFRNot
import Derived.Test.YteehcopkljiikaaDoorMC
import Derived.Test.YteehcopkljiikaaDoorMA
import Derived.Test.YteehcopkljiikaaDoorPSB
import Derived.Test.YteehcopkljiikaaDoorPSF
import Derived.Test.YteehcopkljiikaaDoorPS2
namespace Go.Proofs.YteehcopkljiikaaDoor.PS
open Go.RowKit Go.Proofs.YteehcopkljiikaaDoorW.PrintWords Go.Proofs.YteehcopkljiikaaDoorW.PrintLast Go.Proofs.YteehcopkljiikaaDoorW.PrintMore Go.Proofs.YteehcopkljiikaaDoorX Go.Proofs.YteehcopkljiikaaDoorL Go.Proofs.YteehcopkljiikaaDoor.PA
set_option linter.unusedVariables false
set_option linter.unusedSimpArgs false

/-- A BOOL of it. -/
def isB (b : Int) (v : S23) : Bool := decide (v.f0 = 2) && decide (v.f1 = b)
def isN (v : S23) : Bool := decide (v.f0 = 0)
/-- What And (0) and Or (1) tell. -/
def bothS (b : Int) (l : List S23) : Int × Int × ByteArray × Int :=
  if allS 2 l ≠ 0 then (0, 0, ⟨#[]⟩, allS 2 l) else if l.any (isB b) = true then (2, b, ⟨#[]⟩, 0) else if l.any isN = true then (0, 0, ⟨#[]⟩, 0) else (2, 1 - b, ⟨#[]⟩, 0)
theorem fine {v : S23} (h : right v = true ∧ (v.f0 = 2 ∨ v.f0 = 0)) : (v.f0 = 0 ∧ v.f1 = 0 ∧ v.f2 = ⟨#[]⟩) ∨ (v.f0 = 2 ∧ (v.f1 = 0 ∨ v.f1 = 1) ∧ v.f2 = ⟨#[]⟩) := by
  obtain ⟨h, g⟩ := h
  rcases (right_iff v).1 h with ⟨a, b, c⟩ | ⟨a, b, c, d⟩ | ⟨a, b, c⟩ | ⟨a, b, c⟩
  · exact .inl ⟨a, b, empty_of c⟩
  · omega
  · exact .inr ⟨a, b, empty_of c⟩
  · omega
theorem both_loop {l : List S23} (b : Int) (hx : l.length < 1000000000000) (hl : ∀ v ∈ l, right v = true ∧ (v.f0 = 2 ∨ v.f0 = 0)) : ∀ (d i : Nat) (o0 o1 : Int) (o2 : ByteArray), i + d = l.length → ∀ k, d + 1 ≤ k →
    value_both.l0 k b l (l.length : Int) (i : Int) o0 o1 o2 = some (if (l.drop i).any (isB b) = true then (2, b, ⟨#[]⟩, 0) else if (l.drop i).any isN = true then (0, 0, ⟨#[]⟩, 0) else (o0, o1, o2, 0))
  | d, i, o0, o1, o2, hd, 0, hk => by omega
  | 0, i, o0, o1, o2, hd, k + 1, hk => by
    rw [value_both.l0, if_neg (by omega), List.drop_eq_nil_of_le (by omega)]; simp
  | d + 1, i, o0, o1, o2, hd, k + 1, hk => by
    rw [value_both.l0, if_pos (by omega), if_pos (by omega), if_pos (by omega), rd_at, w1 (by omega), drop_at (by omega), List.any_cons, List.any_cons, isB, isN]
    have hm : l.getD i z23 ∈ l := by
      have h : i < l.length := by omega
      rw [List.getD_eq_getElem?_getD, List.getElem?_eq_getElem h]; exact List.getElem_mem h
    generalize l.getD i z23 = v at *
    rcases fine (hl _ hm) with ⟨h0, h1, h2⟩ | ⟨h0, h1, h2⟩
    · rw [if_pos h0, both_loop b hx hl d (i + 1) _ _ _ (by omega) k (by omega), h0, h1, h2]
      simp
    · rw [if_neg (by omega), h0, h2]
      by_cases g : v.f1 = b
      · rw [if_pos g, g]; simp
      · rw [if_neg g, both_loop b hx hl d (i + 1) _ _ _ (by omega) k (by omega)]
        simp [g]
theorem truth_lit (b : Bool) : value_truth.f b = some (2, (if b = true then 1 else 0), ⟨#[]⟩) := truth_eq b
theorem both_row (b : Int) (hb : b = 0 ∨ b = 1) (l : List S23) (hx : l.length < 1000000000000) {k : Nat} (hk : l.length + 1 ≤ k) : value_both.f k b l = some (bothS b l) := by
  unfold value_both.f bothS
  rw [all_row 2 l hx hk, some_bind]
  by_cases h : allS 2 l = 0
  · rw [if_pos h, if_neg (by simp [h]), truth_eq, some_bind]
    have := both_loop b hx (allS_zero.1 h) l.length 0 2 (if (b == 0) = true then 1 else 0) ⟨#[]⟩ (by omega) k hk
    rw [List.drop_zero] at this
    refine this.trans ?_
    rcases hb with rfl | rfl <;> rfl
  · rw [if_neg h, if_pos h]
theorem and_row (l : List S23) (hx : l.length < 1000000000000) {k : Nat} (hk : l.length + 1 ≤ k) : value_And.f k l = some (bothS 0 l) := by
  unfold value_And.f; rw [both_row 0 (.inl rfl) l hx hk, some_bind]
theorem or_row (l : List S23) (hx : l.length < 1000000000000) {k : Nat} (hk : l.length + 1 ≤ k) : value_Or.f k l = some (bothS 1 l) := by
  unfold value_Or.f; rw [both_row 1 (.inr rfl) l hx hk, some_bind]
theorem decided_loop {l : List S23} (c : Bool) (b : Int) (hb : b = if c = true then 1 else 0) (hx : l.length < 1000000000000) (hl : ∀ v ∈ l, right v = true ∧ (v.f0 = 2 ∨ v.f0 = 0)) : ∀ (d i : Nat) (o0 o1 : Int) (o2 : ByteArray), i + d = l.length → ∀ k, d + 1 ≤ k →
    unisonref01_decided.l0 k c l (i : Int) o0 o1 o2 = some (if (l.drop i).any (isB b) = true then (2, b, ⟨#[]⟩, 0) else if (l.drop i).any isN = true then (0, 0, ⟨#[]⟩, 0) else (o0, o1, o2, 0))
  | d, i, o0, o1, o2, hd, 0, hk => by omega
  | 0, i, o0, o1, o2, hd, k + 1, hk => by
    rw [unisonref01_decided.l0, if_neg (by omega), List.drop_eq_nil_of_le (by omega)]; simp
  | d + 1, i, o0, o1, o2, hd, k + 1, hk => by
    rw [unisonref01_decided.l0, if_pos (by omega), if_pos (by omega), rd_at, w1 (by omega), drop_at (by omega), List.any_cons, List.any_cons, isB, isN, bool_eq, some_bind, ← hb]
    have hm : l.getD i z23 ∈ l := by
      have h : i < l.length := by omega
      rw [List.getD_eq_getElem?_getD, List.getElem?_eq_getElem h]; exact List.getElem_mem h
    generalize l.getD i z23 = v at *
    rcases fine (hl _ hm) with ⟨h0, h1, h2⟩ | ⟨h0, h1, h2⟩
    · rw [if_neg (by simp [h0]), if_pos h0, decided_loop c b hb hx hl d (i + 1) _ _ _ (by omega) k (by omega), h0, h1, h2]
      simp
    · rw [h0, h2]
      by_cases g : v.f1 = b
      · rw [if_pos (by simp [g]), g]; simp
      · rw [if_neg (by simp [g]), if_neg (by decide), decided_loop c b hb hx hl d (i + 1) _ _ _ (by omega) k (by omega)]
        simp [g]
theorem decided_row (c : Bool) (b : Int) (hb : b = if c = true then 1 else 0) (l : List S23) (hx : l.length < 1000000000000) {k : Nat} (hk : 2 * l.length + 2 ≤ k) : unisonref01_decided.f k c l = some (bothS b l) := by
  unfold unisonref01_decided.f bothS
  rw [refused_row 2 l hx hk, some_bind]
  by_cases h : allS 2 l = 0
  · rw [if_pos h, if_neg (by simp [h]), bool_eq, some_bind]
    have := decided_loop c b hb hx (allS_zero.1 h) l.length 0 2 (if (!c) = true then 1 else 0) ⟨#[]⟩ (by omega) k (by omega)
    rw [List.drop_zero] at this
    refine this.trans ?_
    subst hb
    cases c <;> rfl
  · rw [if_neg h, if_pos h]
theorem and_ref (l : List S23) (hx : l.length < 1000000000000) {k : Nat} (hk : 2 * l.length + 2 ≤ k) : unisonref01_And.f k l = some (bothS 0 l) := by
  unfold unisonref01_And.f; rw [decided_row false 0 rfl l hx hk, some_bind]
theorem or_ref (l : List S23) (hx : l.length < 1000000000000) {k : Nat} (hk : 2 * l.length + 2 ≤ k) : unisonref01_Or.f k l = some (bothS 1 l) := by
  unfold unisonref01_Or.f; rw [decided_row true 1 rfl l hx hk, some_bind]
/-- What Not tells. -/
def notS (v : S23) : Int × Int × ByteArray × Int := if allS 2 [v] ≠ 0 ∨ v.f0 = 0 then (0, 0, ⟨#[]⟩, allS 2 [v]) else (2, (if v.f1 = 0 then 1 else 0), ⟨#[]⟩, 0)
theorem not_row (v : S23) {k : Nat} (hk : 10 ≤ k) : value_Not.f k v.f0 v.f1 v.f2 = some (notS v) := by
  unfold value_Not.f notS
  rw [all_row 2 _ (by simp) (by simp; omega), some_bind]
  by_cases ha : allS 2 [v] = 0
  · rw [if_pos ha]
    by_cases hv : v.f0 = 0
    · rw [if_pos hv, if_pos (.inr hv)]
    · rw [if_neg hv, if_neg (by simp [ha, hv]), truth_eq, some_bind]
      simp
  · rw [if_neg ha, if_pos (.inl ha)]
theorem not_ref (v : S23) {k : Nat} (hk : 10 ≤ k) : unisonref01_Not.f k v.f0 v.f1 v.f2 = some (notS v) := by
  unfold unisonref01_Not.f notS
  rw [refused_row 2 _ (by simp) (by simp; omega), some_bind]
  by_cases ha : allS 2 [v] = 0
  · rw [if_pos ha]
    by_cases hv : v.f0 = 0
    · rw [if_pos hv, if_pos (.inr hv)]
    · rw [if_neg hv, if_neg (by simp [ha, hv]), bool_eq, some_bind]
      simp
  · rw [if_neg ha, if_pos (.inl ha)]
end Go.Proofs.YteehcopkljiikaaDoor.PS
