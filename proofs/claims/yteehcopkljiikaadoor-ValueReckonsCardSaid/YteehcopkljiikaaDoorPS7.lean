/- What the program's Sum tells; no program's steps in sight; no conditions beyond those in each theorem's head. -/
import Derived.Test.YteehcopkljiikaaDoorPFValueSum
import Derived.Test.YteehcopkljiikaaDoorPS2
namespace Go.Proofs.YteehcopkljiikaaDoor.PS
open Go.RowKit Go.Proofs.YteehcopkljiikaaDoorW.PrintWords Go.Proofs.YteehcopkljiikaaDoorW.PrintLast Go.Proofs.YteehcopkljiikaaDoorW.PrintMore Go.Proofs.YteehcopkljiikaaDoorX Go.Proofs.YteehcopkljiikaaDoorL Go.Proofs.YteehcopkljiikaaDoor.PA
set_option linter.unusedVariables false
set_option linter.unusedSimpArgs false

/-- All numbers together. -/
def tot : List Int → Int
  | [] => 0
  | x :: l => x + tot l
theorem tot_append : ∀ x y : List Int, tot (x ++ y) = tot x + tot y
  | [], y => by simp [tot]
  | a :: x, y => by simp [tot, tot_append x y]; omega
/-- The numbers among values. -/
def nums1 : List S23 → List Int
  | [] => []
  | v :: l => if v.f0 = 0 then nums1 l else v.f1 :: nums1 l
/-- Those from 0 on. -/
def ups : List S23 → List Int
  | [] => []
  | v :: l => if v.f0 = 0 then ups l else if v.f1 < 0 then ups l else v.f1 :: ups l
/-- The others. -/
def downs : List S23 → List Int
  | [] => []
  | v :: l => if v.f0 = 0 then downs l else if v.f1 < 0 then v.f1 :: downs l else downs l
theorem tot_split : ∀ l : List S23, tot (ups l) + tot (downs l) = tot (nums1 l)
  | [] => rfl
  | v :: l => by
    have ih := tot_split l
    rw [ups, downs, nums1]
    by_cases h : v.f0 = 0
    · simp only [if_pos h]; exact ih
    · simp only [if_neg h]
      by_cases g : v.f1 < 0
      · simp only [if_pos g, tot]; omega
      · simp only [if_neg g, tot]; omega
theorem len_split : ∀ l : List S23, (ups l).length + (downs l).length = (nums1 l).length ∧ (nums1 l).length ≤ l.length
  | [] => ⟨rfl, Nat.le_refl _⟩
  | v :: l => by
    have ih := len_split l
    rw [ups, downs, nums1]
    by_cases h : v.f0 = 0
    · simp only [if_pos h, List.length_cons]; omega
    · simp only [if_neg h]
      by_cases g : v.f1 < 0
      · simp only [if_pos g, List.length_cons]; omega
      · simp only [if_neg g, List.length_cons]; omega
theorem ups_mem : ∀ {l : List S23} {x : Int}, x ∈ ups l → 0 ≤ x ∧ ∃ v ∈ l, v.f1 = x
  | [], x, h => by cases h
  | v :: l, x, h => by
    rw [ups] at h
    split at h
    · obtain ⟨a, u, b, c⟩ := ups_mem h; exact ⟨a, u, List.mem_cons_of_mem _ b, c⟩
    · split at h
      · obtain ⟨a, u, b, c⟩ := ups_mem h; exact ⟨a, u, List.mem_cons_of_mem _ b, c⟩
      · rcases List.mem_cons.1 h with rfl | h
        · exact ⟨by omega, v, List.mem_cons_self, rfl⟩
        · obtain ⟨a, u, b, c⟩ := ups_mem h; exact ⟨a, u, List.mem_cons_of_mem _ b, c⟩
theorem downs_mem : ∀ {l : List S23} {x : Int}, x ∈ downs l → x < 0 ∧ ∃ v ∈ l, v.f1 = x
  | [], x, h => by cases h
  | v :: l, x, h => by
    rw [downs] at h
    split at h
    · obtain ⟨a, u, b, c⟩ := downs_mem h; exact ⟨a, u, List.mem_cons_of_mem _ b, c⟩
    · split at h
      · rcases List.mem_cons.1 h with rfl | h
        · exact ⟨by omega, v, List.mem_cons_self, rfl⟩
        · obtain ⟨a, u, b, c⟩ := downs_mem h; exact ⟨a, u, List.mem_cons_of_mem _ b, c⟩
      · obtain ⟨a, u, b, c⟩ := downs_mem h; exact ⟨a, u, List.mem_cons_of_mem _ b, c⟩
theorem tot_up : ∀ {l : List Int}, (∀ x ∈ l, 0 ≤ x ∧ x ≤ 4611686018427387904) → 0 ≤ tot l
  | [], h => Int.le_refl 0
  | x :: l, h => by
    have a := h x List.mem_cons_self
    have b := tot_up (l := l) fun y hy => h y (List.mem_cons_of_mem _ hy)
    rw [tot]; omega
theorem tot_down : ∀ {l : List Int}, (∀ x ∈ l, -4611686018427387904 ≤ x ∧ x < 0) → tot l ≤ 0
  | [], h => Int.le_refl 0
  | x :: l, h => by
    have a := h x List.mem_cons_self
    have b := tot_down (l := l) fun y hy => h y (List.mem_cons_of_mem _ hy)
    rw [tot]; omega
theorem sum_turns : ∀ (d : Nat) (n : Int) (up down : List Int), up.length + down.length = d → d < 1000000000000 → (∀ x ∈ up, 0 ≤ x ∧ x ≤ 4611686018427387904) → (∀ x ∈ down, -4611686018427387904 ≤ x ∧ x < 0) →
    -4611686018427387904 ≤ n → n ≤ 4611686018427387904 → ∀ k, 3 * d + 1 ≤ k → value_Sum.l1 k n up down = some (madeS (n + tot up + tot down))
  | d, n, up, down, hd, hx, hu, hw, h0, h1, 0, hk => by omega
  | 0, n, up, down, hd, hx, hu, hw, h0, h1, k + 1, hk => by
    obtain rfl : up = [] := List.eq_nil_of_length_eq_zero (by omega)
    obtain rfl : down = [] := List.eq_nil_of_length_eq_zero (by omega)
    rw [value_Sum.l1, if_neg (show ¬ wrap64 ((([] : List Int).length : Int) + (([] : List Int).length : Int)) > 0 by unfold wrap64; decide), made_row, some_bind]
    simp [tot]
  | d + 1, n, up, down, hd, hx, hu, hw, h0, h1, k + 1, hk => by
    obtain ⟨k, rfl⟩ : ∃ j, k = j + 1 + 1 := ⟨k - 2, by omega⟩
    have hlen : wrap64 ((up.length : Int) + (down.length : Int)) = ((d + 1 : Nat) : Int) := by rw [wrap64_of (by omega) (by omega)]; omega
    rw [value_Sum.l1, hlen, if_pos (by omega)]
    have one : (1 : Int).toNat = 1 := rfl
    have hdown : ∀ x ds, down = x :: ds → (up = [] ∨ n > 0) → value_Sum.j2 (k + 1 + 1) n true up down = some (madeS (n + tot up + tot down)) := by
      rintro x ds rfl hor
      have hx0 := hw x List.mem_cons_self
      have hw' : ∀ y ∈ ds, -4611686018427387904 ≤ y ∧ y < 0 := fun y hy => hw y (List.mem_cons_of_mem _ hy)
      have ht := tot_down hw'
      rw [List.length_cons] at hd
      rw [value_Sum.j2, if_pos rfl, if_pos (by rw [List.length_cons]; omega), if_pos (by rw [List.length_cons]; omega), some_bind, one, List.drop_succ_cons, List.drop_zero, show rd (x :: ds) 0 = x from rfl]
      have e : (if n > 0 then value_Sum.j3 (k + 1) n x (decide (x > wrap64 (4611686018427387904 - n))) up ds else value_Sum.j3 (k + 1) n x false up ds) = value_Sum.j3 (k + 1) n x false up ds := by
        split
        · rw [decide_eq_false (by rw [wrap64_of (by omega) (by omega)]; omega)]
        · rfl
      rw [e, value_Sum.j3, if_neg (by decide), wrap64_of (by omega) (by omega)]
      by_cases hlow : n + x < -4611686018427387904
      · rw [if_pos hlow]
        have hup : up = [] := by
          rcases hor with h | h
          · exact h
          · omega
        subst hup
        rw [if_pos (show (([] : List Int).length : Int) = 0 from rfl), madeS, if_pos (by left; rw [tot, tot]; omega)]
      · rw [if_neg hlow, sum_turns d (n + x) up ds (by omega) (by omega) hu hw' (by omega) (by omega) k (by omega), show n + x + tot up + tot ds = n + tot up + tot (x :: ds) by rw [tot]; omega]
    have hupw : ∀ x us, up = x :: us → (down = [] ∨ ¬ n > 0) → value_Sum.j2 (k + 1 + 1) n false up down = some (madeS (n + tot up + tot down)) := by
      rintro x us rfl hor
      have hx0 := hu x List.mem_cons_self
      have hu' : ∀ y ∈ us, 0 ≤ y ∧ y ≤ 4611686018427387904 := fun y hy => hu y (List.mem_cons_of_mem _ hy)
      have ht := tot_up hu'
      rw [List.length_cons] at hd
      rw [value_Sum.j2, if_neg (by decide), if_pos (by rw [List.length_cons]; omega), if_pos (by rw [List.length_cons]; omega), some_bind, one, List.drop_succ_cons, List.drop_zero, show rd (x :: us) 0 = x from rfl]
      by_cases hover : n > 0 ∧ x > 4611686018427387904 - n
      · have hdn : down = [] := by
          rcases hor with h | h
          · exact h
          · omega
        subst hdn
        rw [if_pos hover.1, decide_eq_true (by rw [wrap64_of (by omega) (by omega)]; exact hover.2), value_Sum.j4, if_pos rfl, madeS, if_pos (by right; rw [tot, tot]; omega)]
      · have e : (if n > 0 then value_Sum.j4 (k + 1) n x (decide (x > wrap64 (4611686018427387904 - n))) us down else value_Sum.j4 (k + 1) n x false us down) = value_Sum.j4 (k + 1) n x false us down := by
          split
          · rw [decide_eq_false (by rw [wrap64_of (by omega) (by omega)]; omega)]
          · rfl
        rw [e, value_Sum.j4, if_neg (by decide), wrap64_of (by omega) (by omega), if_neg (by omega), sum_turns d (n + x) us down (by omega) (by omega) hu' hw (by omega) (by omega) k (by omega), show n + x + tot us + tot down = n + tot (x :: us) + tot down by rw [tot]; omega]
    cases hup : up with
    | nil =>
      rw [← hup, if_pos (by rw [hup]; rfl)]
      cases hdn : down with
      | nil => rw [hup, hdn] at hd; simp at hd
      | cons x ds => rw [← hdn]; exact hdown x ds hdn (.inl hup)
    | cons u us =>
      rw [← hup, if_neg (by rw [hup, List.length_cons]; omega)]
      by_cases hn : n > 0
      · rw [if_pos hn]
        cases hdn : down with
        | nil => rw [← hdn, decide_eq_false (by rw [hdn]; decide)]; exact hupw u us hup (.inl hdn)
        | cons x ds => rw [← hdn, decide_eq_true (by rw [hdn, List.length_cons]; omega)]; exact hdown x ds hdn (.inr hn)
      · rw [if_neg hn]; exact hupw u us hup (.inr hn)
theorem sum_parts {l : List S23} (hx : l.length < 10000000000) (hl : ∀ v ∈ l, right v = true ∧ (v.f0 = 1 ∨ v.f0 = 0)) : ∀ (d i : Nat) (up down : List Int), i + d = l.length → up.length + down.length ≤ i → ∀ k, d + 1 ≤ k →
    value_Sum.l0 k l (l.length : Int) (i : Int) up down = (if (up ++ ups (l.drop i)).length + (down ++ downs (l.drop i)).length = 0 then some (0, 0, ⟨#[]⟩, 0) else value_Sum.l1 (k - d - 1) 0 (up ++ ups (l.drop i)) (down ++ downs (l.drop i)))
  | d, i, up, down, hd, hs, 0, hk => by omega
  | 0, i, up, down, hd, hs, k + 1, hk => by
    rw [value_Sum.l0, if_neg (by omega), List.drop_eq_nil_of_le (by omega), ups, downs, List.append_nil, List.append_nil, wrap64_of (by omega) (by omega)]
    by_cases h : up.length + down.length = 0
    · rw [if_pos h, if_pos (by omega)]
    · rw [if_neg h, if_neg (by omega)]; rfl
  | d + 1, i, up, down, hd, hs, k + 1, hk => by
    rw [value_Sum.l0, if_pos (by omega), if_pos (by omega), if_pos (by omega), rd_at, w1 (by omega), drop_at (by omega), ups, downs, show k + 1 - (d + 1) - 1 = k - d - 1 by omega]
    by_cases h0 : (l.getD i z23).f0 = 0
    · simp only [if_pos h0]
      exact sum_parts hx hl d (i + 1) up down (by omega) (by omega) k (by omega)
    · simp only [if_neg h0]
      by_cases h1 : (l.getD i z23).f1 < 0
      · simp only [if_pos h1]
        rw [if_pos (by omega), sum_parts hx hl d (i + 1) up (down ++ [(l.getD i z23).f1]) (by omega) (by rw [List.length_append]; simp; omega) k (by omega), List.append_assoc]; rfl
      · simp only [if_neg h1]
        rw [if_pos (by omega), sum_parts hx hl d (i + 1) (up ++ [(l.getD i z23).f1]) down (by omega) (by rw [List.length_append]; simp; omega) k (by omega), List.append_assoc]; rfl
/-- What Sum tells. -/
def sumS (l : List S23) : Int × Int × ByteArray × Int :=
  if allS 1 l ≠ 0 then (0, 0, ⟨#[]⟩, allS 1 l) else if (nums1 l).length = 0 then (0, 0, ⟨#[]⟩, 0) else madeS (tot (nums1 l))
theorem right_sm' {v : S23} (h : right v = true) : -4611686018427387904 ≤ v.f1 ∧ v.f1 ≤ 4611686018427387904 := by
  rcases (right_iff v).1 h with h | h | h | h <;> omega
theorem sum_row (l : List S23) (hx : l.length < 10000000000) {k : Nat} (hk : 4 * l.length + 10 ≤ k) : value_Sum.f k l = some (sumS l) := by
  unfold value_Sum.f sumS
  rw [all_row 1 l (by omega) (by omega), some_bind]
  by_cases h : allS 1 l = 0
  · have hl := allS_zero.1 h
    have hs := len_split l
    have := sum_parts hx hl l.length 0 [] [] (by omega) (by simp) k (by omega)
    rw [List.drop_zero, List.nil_append, List.nil_append] at this
    rw [if_pos h, if_neg (by simp [h])]
    refine this.trans ?_
    by_cases g : (nums1 l).length = 0
    · rw [if_pos g, if_pos (by omega)]
    · rw [if_neg g, if_neg (by omega), sum_turns _ 0 (ups l) (downs l) rfl (by omega) (fun x hx => ?_) (fun x hx => ?_) (by decide) (by decide) _ (by omega), Int.zero_add, tot_split]
      · obtain ⟨a, v, b, rfl⟩ := ups_mem hx
        exact ⟨a, (right_sm' (hl v b).1).2⟩
      · obtain ⟨a, v, b, rfl⟩ := downs_mem hx
        exact ⟨(right_sm' (hl v b).1).1, a⟩
  · rw [if_neg h, if_pos h]
end Go.Proofs.YteehcopkljiikaaDoor.PS
