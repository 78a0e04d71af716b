/- The law ValueReckons: its program answers true at every two values and a list; no conditions beyond those in the theorem's head. -/
import Derived.Test.YteehcopkljiikaaDoorPSA
import Derived.Test.YteehcopkljiikaaDoorPFLValueReckons
import Derived.Test.YteehcopkljiikaaDoorXV
namespace Go.Proofs.YteehcopkljiikaaDoor.Pure
open Go.RowKit Go.Proofs.YteehcopkljiikaaDoorW.PrintWords Go.Proofs.YteehcopkljiikaaDoorW.PrintLast Go.Proofs.YteehcopkljiikaaDoorW.PrintMore Go.Proofs.YteehcopkljiikaaDoorX Go.Proofs.YteehcopkljiikaaDoorL Go.Proofs.YteehcopkljiikaaDoor.PA Go.Proofs.YteehcopkljiikaaDoor.PS Go.Proofs.YteehcopkljiikaaDoorV
set_option linter.unusedVariables false
set_option linter.unusedSimpArgs false

theorem same3' (x y : Int) (z : ByteArray) : (!(x == x) || (!(y == y) || (!(z.toList == z.toList)))) = false := by simp
theorem reckons4 {l : List S23} (hl : l.length ≤ 536870911) {k : Nat} (hk : 100 ≤ k) (b : Bool) (hb : b = true → 0 < l.length ∧ (sumS l).2.2.2 = 0) :
    unisonlaw01_ValueReckons.j4 (k + 1) l true (sumS l).2.2.2 (sumS (turnS l)).2.2.2 b (sumS l).1 (sumS l).2.1 (sumS l).2.2.1 (sumS (turnS l)).1 (sumS (turnS l)).2.1 (sumS (turnS l)).2.2.1 = some true := by
  have fin : (if true = true then (if (((sumS l).2.2.2 == 10) == ((sumS (turnS l)).2.2.2 == 10)) = true then (some (((sumS l).2.2.2 == 11) == ((sumS (turnS l)).2.2.2 == 11))) else (none)) else (none)) = some true := by
    have h10 : ((sumS l).2.2.2 == 10) = ((sumS (turnS l)).2.2.2 == 10) := by rw [Bool.eq_iff_iff, beq_iff_eq, beq_iff_eq]; exact (sum_turn (.inl rfl)).symm
    have h11 : ((sumS l).2.2.2 == 11) = ((sumS (turnS l)).2.2.2 == 11) := by rw [Bool.eq_iff_iff, beq_iff_eq, beq_iff_eq]; exact (sum_turn (.inr rfl)).symm
    rw [h10, h11, if_pos rfl, if_pos (beq_self_eq_true _), beq_self_eq_true]
  rw [unisonlaw01_ValueReckons.j4]
  cases b with
  | false => rw [if_neg (by decide)]; exact fin
  | true =>
    obtain ⟨h0, h1⟩ := hb rfl
    obtain ⟨v, l, rfl⟩ : ∃ v t, l = v :: t := by
      cases l with
      | nil => simp at h0
      | cons v t => exact ⟨v, t, rfl⟩
    have e : rd_T23 (v :: l) 0 = v := rfl
    rw [if_pos rfl, if_pos (by omega), e, arith_u _ _ _ _ _ _ _ (by omega), some_bind]
    by_cases g1 : (sumS (v :: l)).1 = 1
    · rw [if_pos g1]
      by_cases g2 : v.f0 = 1
      · have hm := sum_more h1 g1 g2
        have e2 : arithS 1 ⟨(sumS (v :: l)).1, (sumS (v :: l)).2.1, (sumS (v :: l)).2.2.1⟩ ⟨v.f0, v.f1, v.f2⟩ = sumS (turnS (v :: l)) := hm.symm
        rw [if_pos g2, e2, if_neg (by rw [same3']; decide), if_pos rfl]
        exact fin
      · rw [if_neg g2]; exact fin
    · rw [if_neg g1]; exact fin
theorem reckons3 {l : List S23} (hl : l.length ≤ 536870911) {k : Nat} (hk : 5 * l.length + 200 ≤ k) : unisonlaw01_ValueReckons.j3 (k + 1) l true = some true := by
  have ht := turn_length l
  obtain ⟨k, rfl⟩ : ∃ j, k = j + 1 := ⟨k - 1, by omega⟩
  rw [unisonlaw01_ValueReckons.j3, sum_row l (by omega) (by omega), some_bind, turned_row l (by omega) (by omega), some_bind, sum_row _ (by omega) (by omega), some_bind]
  by_cases h : (l.length : Int) > 0
  · rw [if_pos h]
    exact reckons4 hl (by omega) _ fun g => ⟨by omega, by simpa using g⟩
  · rw [if_neg h]
    exact reckons4 hl (by omega) _ fun g => by cases g
theorem reckons1 {l : List S23} (hl : l.length ≤ 536870911) {k : Nat} (hk : 5 * l.length + 300 ≤ k) (a b : S23) : unisonlaw01_ValueReckons.j1 (k + 1) l true a.f0 a.f1 a.f2 b.f0 b.f1 b.f2 = some true := by
  obtain ⟨k, rfl⟩ : ∃ j, k = j + 1 + 1 := ⟨k - 2, by omega⟩
  have no : ∀ c0 c1 c2 d0 d1 d2 e0 e1 e2 f0 f1 f2, unisonlaw01_ValueReckons.j2 (k + 1 + 1) l true false c0 c1 c2 d0 d1 d2 e0 e1 e2 f0 f1 f2 = some true := fun c0 c1 c2 d0 d1 d2 e0 e1 e2 f0 f1 f2 => by
    rw [unisonlaw01_ValueReckons.j2, if_neg (by decide)]; exact reckons3 hl (by omega)
  rw [unisonlaw01_ValueReckons.j1, arith_row 4 a b (by omega), some_bind, arith_row 5 a b (by omega), some_bind]
  rcases arith_cases a b with ⟨x, y, hx, hy, rfl, rfl⟩ | h
  · rw [arith_ints 4 (by decide) (by decide) hx hy, arith_ints 5 (by decide) (by decide) hx hy]
    by_cases h0 : y = 0
    · subst h0
      rw [show calcS 4 x 0 = (0, 0, ⟨#[]⟩, 13) from rfl, show calcS 5 x 0 = (0, 0, ⟨#[]⟩, 13) from rfl, if_pos rfl, if_neg (by decide)]
      exact no ..
    · obtain ⟨s1, s2, s3, e, n1, n2⟩ := parts_of hx h0
      have c4 : calcS 4 x y = (1, Int.tdiv x y, ⟨#[]⟩, 0) := by
        unfold calcS; rw [if_neg (by decide), if_neg (by decide), if_neg (by decide), if_neg h0, if_pos rfl, made_sm s1]
      have c5 : calcS 5 x y = (1, Int.tmod x y, ⟨#[]⟩, 0) := by
        unfold calcS; rw [if_neg (by decide), if_neg (by decide), if_neg (by decide), if_neg h0, if_neg (by decide), made_sm s2]
      rw [c4, c5, if_pos rfl, if_pos rfl, show ((1 : Int) == 1) = true from rfl, unisonlaw01_ValueReckons.j2, if_pos rfl, arith_u _ _ _ _ _ _ _ (by omega), some_bind, arith_ints 3 (by decide) (by decide) s1 hy]
      have c3 : calcS 3 (Int.tdiv x y) y = (1, Int.tdiv x y * y, ⟨#[]⟩, 0) := by
        unfold calcS; rw [if_neg (by decide), if_neg (by decide), if_pos rfl, made_sm s3]
      have c1 : calcS 1 (Int.tdiv x y * y) (Int.tmod x y) = (1, x, ⟨#[]⟩, 0) := by
        unfold calcS; rw [if_pos rfl, e, made_sm hx]
      rw [c3, arith_u _ _ _ _ _ _ _ (by omega), some_bind, arith_ints 1 (by decide) (by decide) s3 s2, c1, if_pos rfl, if_pos rfl, if_neg (by rw [same3']; decide)]
      have last := reckons3 (l := l) hl (k := k) (by omega)
      by_cases g1 : Int.tmod x y > 0
      · rw [if_pos g1, if_neg (show ¬ x < 0 from fun g => n1 ⟨g1, g⟩), if_neg (show ¬ Int.tmod x y < 0 by omega)]; exact last
      · rw [if_neg g1]
        by_cases g2 : Int.tmod x y < 0
        · rw [if_pos g2, if_neg (show ¬ x > 0 from fun g => n2 ⟨g2, g⟩)]; exact last
        · rw [if_neg g2]; exact last
  · rw [h 4 (by decide) (by decide), h 5 (by decide) (by decide), if_pos rfl]
    split
    · exact no ..
    · exact no ..
theorem reckons0 {l : List S23} (hl : l.length ≤ 536870911) {k : Nat} (hk : 5 * l.length + 400 ≤ k) (a b : S23) :
    (if (arithS 1 a b).2.2.2 = 0 then (unisonlaw01_ValueReckons.j0 (k + 1) l true ((arithS 1 a b).1 == 1) a.f0 a.f1 a.f2 b.f0 b.f1 b.f2 (arithS 1 a b).1 (arithS 1 a b).2.1 (arithS 1 a b).2.2.1) else (unisonlaw01_ValueReckons.j0 (k + 1) l true false a.f0 a.f1 a.f2 b.f0 b.f1 b.f2 (arithS 1 a b).1 (arithS 1 a b).2.1 (arithS 1 a b).2.2.1)) = some true := by
  obtain ⟨k, rfl⟩ : ∃ j, k = j + 1 := ⟨k - 1, by omega⟩
  have no : ∀ c0 c1 c2, unisonlaw01_ValueReckons.j0 (k + 1 + 1) l true false a.f0 a.f1 a.f2 b.f0 b.f1 b.f2 c0 c1 c2 = some true := fun c0 c1 c2 => by
    rw [unisonlaw01_ValueReckons.j0, if_neg (by decide)]; exact reckons1 hl (by omega) a b
  rcases arith_cases a b with ⟨x, y, hx, hy, rfl, rfl⟩ | h
  · rw [arith_ints 1 (by decide) (by decide) hx hy, show calcS 1 x y = madeS (x + y) from rfl]
    rcases made_cases (x + y) with ⟨s, e⟩ | ⟨_, e⟩
    · rw [e, if_pos rfl, show ((1 : Int) == 1) = true from rfl, unisonlaw01_ValueReckons.j0, if_pos rfl, arith_u _ _ _ _ _ _ _ (by omega), some_bind, arith_u _ _ _ _ _ _ _ (by omega), some_bind, sum_row _ (by simp) (by simp; omega), some_bind,
        arith_ints 2 (by decide) (by decide) s hy, arith_ints 1 (by decide) (by decide) hy hx]
      have c2 : calcS 2 (x + y) y = (1, x, ⟨#[]⟩, 0) := by
        unfold calcS; rw [if_neg (by decide), if_pos rfl, show x + y - y = x by omega, made_sm hx]
      have c1 : calcS 1 y x = (1, x + y, ⟨#[]⟩, 0) := by
        unfold calcS; rw [if_pos rfl, show y + x = x + y by omega, made_sm s]
      have cs : sumS [⟨1, x, ⟨#[]⟩⟩, ⟨1, y, ⟨#[]⟩⟩] = (1, x + y, ⟨#[]⟩, 0) := by
        unfold sumS
        rw [if_neg (by simp [all_ints hx hy]), show nums1 [⟨1, x, ⟨#[]⟩⟩, ⟨1, y, ⟨#[]⟩⟩] = [x, y] from rfl, if_neg (by simp), tot, tot, tot, show x + (y + 0) = x + y by omega, made_sm s]
      rw [c2, c1, cs, if_neg (by rw [same3']; decide), if_pos rfl, if_neg (by rw [same3']; decide), if_pos rfl, if_neg (by rw [same3']; decide), if_pos rfl]
      exact reckons1 hl (by omega) ⟨1, x, ⟨#[]⟩⟩ ⟨1, y, ⟨#[]⟩⟩
    · rw [e, if_neg (by decide)]; exact no ..
  · rw [h 1 (by decide) (by decide)]
    split
    · exact no ..
    · exact no ..
theorem ValueReckons : ∀ (a0_0 a0_1 : Int) (a0_2 : ByteArray) (a1_0 a1_1 : Int) (a1_2 : ByteArray) (l2 : List S23), (Lit.int .i64 a0_0).wf = true → (Lit.int .i64 a0_1).wf = true → (Lit.int .i64 a1_0).wf = true → (Lit.int .i64 a1_1).wf = true → (∀ x ∈ l2, Fine x) → l2.length * 32 ≤ 140737488351232 → ∃ k, unisonlaw01_ValueReckons.f k a0_0 a0_1 a0_2 a1_0 a1_1 a1_2 l2 = some true := by
  intro a b c d e f l _ _ _ _ _ _
  by_cases h : (l.length : Int) > 536870911
  · exact ⟨0, by unfold unisonlaw01_ValueReckons.f; rw [if_pos h]⟩
  · refine ⟨5 * l.length + 500 + 1, ?_⟩
    unfold unisonlaw01_ValueReckons.f
    rw [if_neg h, awake_all (by omega), some_bind, arith_u _ _ _ _ _ _ _ (by omega), some_bind]
    exact reckons0 (by omega) (by omega) ⟨a, b, c⟩ ⟨d, e, f⟩
end Go.Proofs.YteehcopkljiikaaDoor.Pure
