/- A sum whatever the order; what two numbers come to; no program's steps in sight; no conditions beyond those in each theorem's head. -/
import Derived.Test.YteehcopkljiikaaDoorPS3
import Derived.Test.YteehcopkljiikaaDoorPS7
import Derived.Test.YteehcopkljiikaaDoorPS9
namespace Go.Proofs.YteehcopkljiikaaDoor.PS
open Go.RowKit Go.Proofs.YteehcopkljiikaaDoorW.PrintWords Go.Proofs.YteehcopkljiikaaDoorW.PrintLast Go.Proofs.YteehcopkljiikaaDoorW.PrintMore Go.Proofs.YteehcopkljiikaaDoorX Go.Proofs.YteehcopkljiikaaDoorL Go.Proofs.YteehcopkljiikaaDoor.PA
set_option linter.unusedVariables false
set_option linter.unusedSimpArgs false

theorem arith_u (op a0 a1 : Int) (a2 : ByteArray) (b0 b1 : Int) (b2 : ByteArray) {k : Nat} (hk : 10 ≤ k) : value_Arith.f k op a0 a1 a2 b0 b1 b2 = some (arithS op ⟨a0, a1, a2⟩ ⟨b0, b1, b2⟩) := arith_row op ⟨a0, a1, a2⟩ ⟨b0, b1, b2⟩ hk
theorem nums1_append : ∀ l m : List S23, nums1 (l ++ m) = nums1 l ++ nums1 m
  | [], m => rfl
  | v :: l, m => by
    rw [List.cons_append, nums1, nums1, nums1_append l m]
    split <;> rfl
theorem nums1_cons (v : S23) (l : List S23) : nums1 (v :: l) = if v.f0 = 0 then nums1 l else v.f1 :: nums1 l := by rw [nums1]
theorem nums1_one (v : S23) : nums1 [v] = if v.f0 = 0 then [] else [v.f1] := by rw [nums1, nums1]
theorem tot_turn (l : List S23) : tot (nums1 l.reverse) = tot (nums1 l) := by
  induction l with
  | nil => rfl
  | cons v l ih =>
    rw [List.reverse_cons, nums1_append, tot_append, ih, nums1_one, nums1_cons]
    by_cases h : v.f0 = 0
    · rw [if_pos h, if_pos h, tot]; omega
    · rw [if_neg h, if_neg h, tot, tot, tot]; omega
theorem len_turn (l : List S23) : (nums1 l.reverse).length = (nums1 l).length := by
  induction l with
  | nil => rfl
  | cons v l ih =>
    rw [List.reverse_cons, nums1_append, List.length_append, ih, nums1_one, nums1_cons]
    by_cases h : v.f0 = 0
    · rw [if_pos h, if_pos h]; simp
    · rw [if_neg h, if_neg h]; simp
theorem right_int {v : S23} (h : right v = true) (g : v.f0 = 1) : v = ⟨1, v.f1, ⟨#[]⟩⟩ ∧ sm v.f1 := by
  rcases (right_iff v).1 h with ⟨a, _, _⟩ | ⟨a, b, c, d⟩ | ⟨a, _⟩ | ⟨a, _⟩
  · omega
  · exact ⟨eta _ _ g rfl (empty_of d), b, c⟩
  · omega
  · omega
theorem int_right {x : Int} (h : sm x) : right ⟨1, x, ⟨#[]⟩⟩ = true := (right_iff _).2 (.inr (.inl ⟨rfl, h.1, h.2, rfl⟩))
theorem all_ints {x y : Int} (hx : sm x) (hy : sm y) : allS 1 [⟨1, x, ⟨#[]⟩⟩, ⟨1, y, ⟨#[]⟩⟩] = 0 := allS_zero.2 fun v hv => by
  rcases List.mem_cons.1 hv with rfl | hv
  · exact ⟨int_right hx, .inl rfl⟩
  · obtain rfl := List.mem_singleton.1 hv
    exact ⟨int_right hy, .inl rfl⟩
theorem arith_ints (op : Int) (h1 : 1 ≤ op) (h5 : op ≤ 5) {x y : Int} (hx : sm x) (hy : sm y) : arithS op ⟨1, x, ⟨#[]⟩⟩ ⟨1, y, ⟨#[]⟩⟩ = calcS op x y := by
  unfold arithS; rw [if_neg (by omega), if_neg (by simp [all_ints hx hy])]
theorem arith_cases (a b : S23) : (∃ x y, sm x ∧ sm y ∧ a = ⟨1, x, ⟨#[]⟩⟩ ∧ b = ⟨1, y, ⟨#[]⟩⟩) ∨ (∀ op : Int, 1 ≤ op → op ≤ 5 → arithS op a b = (0, 0, ⟨#[]⟩, allS 1 [a, b])) := by
  by_cases h : allS 1 [a, b] ≠ 0 ∨ a.f0 = 0 ∨ b.f0 = 0
  · right
    intro op h1 h5
    unfold arithS; rw [if_neg (by omega), if_pos h]
  · left
    have ha : allS 1 [a, b] = 0 := Decidable.byContradiction fun g => h (.inl g)
    have h0 := allS_zero.1 ha a (by simp)
    have h1 := allS_zero.1 ha b (by simp)
    have n0 : a.f0 ≠ 0 := fun g => h (.inr (.inl g))
    have n1 : b.f0 ≠ 0 := fun g => h (.inr (.inr g))
    obtain ⟨e0, s0⟩ := right_int h0.1 (by omega)
    obtain ⟨e1, s1⟩ := right_int h1.1 (by omega)
    exact ⟨a.f1, b.f1, s0, s1, e0, e1⟩
theorem made_sm {n : Int} (h : sm n) : madeS n = (1, n, ⟨#[]⟩, 0) := by
  unfold sm at h
  unfold madeS; rw [if_neg (by omega)]
theorem made_cases (n : Int) : (sm n ∧ madeS n = (1, n, ⟨#[]⟩, 0)) ∨ (¬ sm n ∧ madeS n = (0, 0, ⟨#[]⟩, 12)) := by
  by_cases h : sm n
  · exact .inl ⟨h, made_sm h⟩
  · refine .inr ⟨h, ?_⟩
    unfold sm at h
    unfold madeS; rw [if_pos (by omega)]
/-- A quotient, a remainder. -/
theorem parts_of {x y : Int} (hx : sm x) (hy : y ≠ 0) : sm (Int.tdiv x y) ∧ sm (Int.tmod x y) ∧ sm (Int.tdiv x y * y) ∧ Int.tdiv x y * y + Int.tmod x y = x ∧ ¬ (Int.tmod x y > 0 ∧ x < 0) ∧ ¬ (Int.tmod x y < 0 ∧ x > 0) := by
  have e : y * Int.tdiv x y + Int.tmod x y = x := Int.mul_tdiv_add_tmod x y
  rw [Int.mul_comm] at e
  have hd := tdiv_sm (y := y) hx
  have hm : (Int.tmod x y).natAbs = x.natAbs % y.natAbs := Int.natAbs_tmod x y
  have hle : x.natAbs % y.natAbs ≤ x.natAbs := Nat.mod_le _ _
  have hp : 0 ≤ x → 0 ≤ Int.tmod x y := fun h => Int.tmod_nonneg y h
  have hn : x ≤ 0 → Int.tmod x y ≤ 0 := fun h => by
    have := Int.tmod_nonneg (a := -x) y (by omega)
    rw [Int.neg_tmod] at this
    omega
  generalize x.natAbs % y.natAbs = q at *
  generalize Int.tdiv x y * y = p at *
  generalize Int.tmod x y = r at *
  unfold sm at *
  refine ⟨hd, ?_, ?_, e, ?_, ?_⟩ <;> omega
theorem sum_err (l : List S23) {e : Int} (he : e = 10 ∨ e = 11) : (sumS l).2.2.2 = e ↔ allS 1 l = e := by
  unfold sumS
  by_cases g : allS 1 l = 0
  · have m : ∀ n, (madeS n).2.2.2 = 0 ∨ (madeS n).2.2.2 = 12 := fun n => by rcases made_cases n with ⟨_, e⟩ | ⟨_, e⟩ <;> rw [e] <;> simp
    rw [if_neg (show ¬ (allS 1 l ≠ 0) by simp [g]), g]
    by_cases h : (nums1 l).length = 0
    · rw [if_pos h]
    · rw [if_neg h]
      have := m (tot (nums1 l))
      constructor <;> intro k <;> omega
  · rw [if_pos g]
theorem sum_turn {l : List S23} {e : Int} (he : e = 10 ∨ e = 11) : (sumS (turnS l)).2.2.2 = e ↔ (sumS l).2.2.2 = e := by
  rw [sum_err _ he, sum_err _ he, allS_by (turn_mem l)]
/-- A sum that is a number, and its first once more. -/
theorem sum_more {v : S23} {l : List S23} (h : (sumS (v :: l)).2.2.2 = 0) (h1 : (sumS (v :: l)).1 = 1) (hv : v.f0 = 1) : sumS (turnS (v :: l)) = arithS 1 (mk3 (sumS (v :: l))) v := by
  have g : allS 1 (v :: l) = 0 := by
    refine Decidable.byContradiction fun g => ?_
    unfold sumS at h1
    rw [if_pos g] at h1; cases h1
  have hr := allS_zero.1 g v List.mem_cons_self
  obtain ⟨e0, s0⟩ := right_int hr.1 hv
  have hlen : (nums1 (v :: l)).length ≠ 0 := by rw [nums1, if_neg (by omega)]; simp
  have hlen2 : (nums1 (turnS (v :: l))).length ≠ 0 := by unfold turnS; rw [nums1_append, List.length_append, len_turn]; omega
  have e1 : sumS (v :: l) = madeS (tot (nums1 (v :: l))) := by unfold sumS; rw [if_neg (by simp [g]), if_neg hlen]
  have e2 : sumS (turnS (v :: l)) = madeS (tot (nums1 (turnS (v :: l)))) := by unfold sumS; rw [allS_by (turn_mem _), if_neg (by simp [g]), if_neg hlen2]
  have e3 : tot (nums1 (turnS (v :: l))) = tot (nums1 (v :: l)) + v.f1 := by
    unfold turnS
    rw [nums1_append, tot_append, tot_turn]
    congr 1
    show tot (nums1 [v]) = v.f1
    rw [nums1, if_neg (by omega), nums1, tot, tot]; omega
  rw [e1] at h
  rcases made_cases (tot (nums1 (v :: l))) with ⟨s, e⟩ | ⟨_, e⟩
  · rw [e2, e3, e1, e]
    have this : ∀ n, sm n → arithS 1 (mk3 (1, n, ⟨#[]⟩, 0)) v = calcS 1 n v.f1 := fun n s => by
      have := arith_ints 1 (by decide) (by decide) s s0
      rw [← e0] at this
      exact this
    rw [this _ s]; rfl
  · rw [e] at h; cases h
end Go.Proofs.YteehcopkljiikaaDoor.PS
