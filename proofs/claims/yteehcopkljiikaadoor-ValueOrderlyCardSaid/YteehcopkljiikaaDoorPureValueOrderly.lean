/- The law ValueOrderly: its program answers true at every three values; no conditions beyond those in the theorem's head. -/
import Derived.Test.YteehcopkljiikaaDoorPFLValueOrderly
import Derived.Test.YteehcopkljiikaaDoorPS1
namespace Go.Proofs.YteehcopkljiikaaDoor.Pure
open Go.RowKit Go.Proofs.YteehcopkljiikaaDoorW.PrintWords Go.Proofs.YteehcopkljiikaaDoorW.PrintLast Go.Proofs.YteehcopkljiikaaDoorW.PrintMore Go.Proofs.YteehcopkljiikaaDoorX Go.Proofs.YteehcopkljiikaaDoorL Go.Proofs.YteehcopkljiikaaDoor.PA Go.Proofs.YteehcopkljiikaaDoor.PS
set_option linter.unusedVariables false
set_option linter.unusedSimpArgs false

theorem ltI_trans : ∀ {x y z : List Int}, ltI x y = true → ltI y z = true → ltI x z = true
  | x, [], z, h, g => by cases x <;> simp [ltI] at h
  | x, d :: y, [], h, g => by simp [ltI] at g
  | [], d :: y, e :: z, h, g => rfl
  | c :: x, d :: y, e :: z, h, g => by
    simp only [ltI, Bool.or_eq_true, Bool.and_eq_true, decide_eq_true_eq] at *
    rcases h with h | ⟨rfl, h⟩
    · rcases g with g | ⟨rfl, g⟩
      · left; omega
      · left; exact h
    · rcases g with g | ⟨rfl, g⟩
      · left; exact g
      · right; exact ⟨rfl, ltI_trans h g⟩
theorem vlt_trans {u v w : S23} (h : vlt u v = true) (g : vlt v w = true) : vlt u w = true := by
  simp only [vlt, Bool.or_eq_true, Bool.and_eq_true, decide_eq_true_eq] at *
  rcases h with h | ⟨h0, h⟩
  · rcases g with g | ⟨g0, g⟩
    · left; omega
    · left; omega
  · rcases g with g | ⟨g0, g⟩
    · left; omega
    · right
      refine ⟨by omega, ?_⟩
      rcases h with h | ⟨h1, h⟩
      · rcases g with g | ⟨g1, g⟩
        · left; omega
        · left; omega
      · rcases g with g | ⟨g1, g⟩
        · left; omega
        · right; exact ⟨by omega, ltI_trans h g⟩
theorem cmpV_range (v w : S23) : cmpV v w = -1 ∧ vlt v w = true ∨ cmpV v w = 0 ∧ v = w ∨ cmpV v w = 1 ∧ vlt w v = true := by
  unfold cmpV
  by_cases h : v = w
  · rw [if_pos h]; simp [h]
  · rw [if_neg h]
    rcases vlt_total v w with g | g | g
    · rw [if_pos g]; simp [g]
    · exact absurd g h
    · rw [if_neg (by rw [vlt_asymm g]; decide)]; simp [g]
theorem cmpV_lt {v w : S23} (h : vlt v w = true) : cmpV v w = -1 := by
  unfold cmpV
  rw [if_neg (fun e => by subst e; rw [vlt_irrefl] at h; cases h), if_pos h]
theorem cmpV_swap (v w : S23) : cmpV w v = - cmpV v w := by
  rcases cmpV_range v w with ⟨h, g⟩ | ⟨h, g⟩ | ⟨h, g⟩
  · rw [h]
    unfold cmpV
    rw [if_neg (fun e => by subst e; rw [vlt_irrefl] at g; cases g), if_neg (by rw [vlt_asymm g]; decide)]; rfl
  · subst g; rw [h]; rfl
  · rw [h, cmpV_lt g]
theorem cmpV_trans {u v w : S23} (h : cmpV u v ≤ 0) (g : cmpV v w ≤ 0) : cmpV u w ≤ 0 ∧ (cmpV u v < 0 → cmpV u w < 0) := by
  rcases cmpV_range u v with ⟨h1, h2⟩ | ⟨h1, h2⟩ | ⟨h1, h2⟩
  · rcases cmpV_range v w with ⟨g1, g2⟩ | ⟨g1, g2⟩ | ⟨g1, g2⟩
    · rw [cmpV_lt (vlt_trans h2 g2)]; exact ⟨by decide, fun _ => by decide⟩
    · subst g2; rw [h1]; exact ⟨by decide, fun _ => by decide⟩
    · omega
  · subst h2; exact ⟨g, fun h => by omega⟩
  · omega
theorem beq3 (u v : S23) : (u.f0 == v.f0 && (u.f1 == v.f1 && (u.f2.toList == v.f2.toList))) = decide (u = v) := by
  rw [Bool.eq_iff_iff]
  simp only [Bool.and_eq_true, beq_iff_eq, decide_eq_true_eq]
  constructor
  · rintro ⟨h0, h1, h2⟩; exact eta _ _ h0 h1 (toList_inj.1 h2)
  · rintro rfl; exact ⟨rfl, rfl, rfl⟩
theorem orderly0 (u v w : S23) (k : Nat) : unisonlaw01_ValueOrderly.j0 (k + 1) true (cmpV u v) (cmpV v u) (cmpV v w) (cmpV u w) (cmpV u u) u.f0 u.f1 u.f2 v.f0 v.f1 v.f2 = unisonlaw01_ValueOrderly.j1 k true (cmpV u v) false u.f0 u.f1 u.f2 v.f0 v.f1 v.f2 := by
  have hr := cmpV_range u v
  rw [unisonlaw01_ValueOrderly.j0, cmpV_swap u v, wrap64_of (by omega) (by omega), if_pos (by omega), if_pos (by simp [cmpV]), beq3]
  rw [if_neg (by
    have := @cmpV_zero u v
    by_cases e : u = v
    · rw [this.2 e]; simp [e]
    · rw [decide_eq_false e]; simp; exact fun g => e (this.1 g)), if_neg (by omega), if_neg (by omega)]
  by_cases h1 : cmpV u v ≤ 0
  · rw [if_pos h1]
    by_cases h2 : cmpV v w ≤ 0
    · have t := cmpV_trans h1 h2
      rw [if_pos h2, if_neg (by omega)]
      by_cases h3 : cmpV u v < 0
      · rw [if_pos h3, decide_eq_false (by have := t.2 h3; omega)]
      · rw [if_neg h3]
    · rw [if_neg h2]; split <;> rfl
  · rw [if_neg h1, if_neg (by omega)]
theorem orderly1 (u v : S23) {k : Nat} (hk : 10 ≤ k) : unisonlaw01_ValueOrderly.j1 (k + 1) true (cmpV u v) false u.f0 u.f1 u.f2 v.f0 v.f1 v.f2 = some true := by
  rw [unisonlaw01_ValueOrderly.j1, if_neg (by decide), compare_row 3 u v hk, some_bind, compare_row 6 u v hk, some_bind]
  obtain ⟨k, rfl⟩ : ∃ j, k = j + 1 := ⟨k - 1, by omega⟩
  have em : ((⟨#[]⟩ : ByteArray).toList == ([] : List UInt8)) = true := by rw [beq_iff_eq, toList_nil]; rfl
  have lit : ∀ op : Int, 1 ≤ op → op ≤ 6 → cmpSpec op u v = if right u = false ∨ right v = false then (0, 0, ⟨#[]⟩, 10) else if u.f0 = 0 ∨ v.f0 = 0 then (0, 0, ⟨#[]⟩, 0) else if u.f0 = v.f0 then
    (2, (if (if op = 1 then cmpV u v = 0 else if op = 2 then cmpV u v ≠ 0 else if op = 3 then cmpV u v < 0 else if op = 4 then cmpV u v ≤ 0 else if op = 5 then cmpV u v > 0 else cmpV u v ≥ 0) then 1 else 0), ⟨#[]⟩, 0) else (0, 0, ⟨#[]⟩, 11) := fun op h0 h1 => by
    unfold cmpSpec; rw [if_neg (by omega)]
  by_cases h1 : right u = false ∨ right v = false
  · have a : ∀ op : Int, 1 ≤ op → op ≤ 6 → cmpSpec op u v = (0, 0, ⟨#[]⟩, 10) := fun op h0 h6 => by rw [lit op h0 h6, if_pos h1]
    rw [a 3 (by decide) (by decide), a 6 (by decide) (by decide), if_pos rfl, if_neg (by decide), if_pos rfl, if_pos (by simp), em]; rfl
  · by_cases h2 : u.f0 = 0 ∨ v.f0 = 0
    · have a : ∀ op : Int, 1 ≤ op → op ≤ 6 → cmpSpec op u v = (0, 0, ⟨#[]⟩, 0) := fun op h0 h6 => by rw [lit op h0 h6, if_neg h1, if_pos h2]
      rw [a 3 (by decide) (by decide), a 6 (by decide) (by decide), if_pos rfl, if_pos rfl]
      by_cases h3 : u.f0 = 0
      · rw [if_pos h3, if_pos rfl, if_pos (by simp), em]; rfl
      · rw [if_neg h3, if_pos (by omega), if_pos rfl, if_pos (by simp), em]; rfl
    · by_cases h3 : u.f0 = v.f0
      · have a : cmpSpec 3 u v = (2, (if cmpV u v < 0 then 1 else 0), ⟨#[]⟩, 0) := by rw [lit 3 (by decide) (by decide), if_neg h1, if_neg h2, if_pos h3]; rfl
        have b : cmpSpec 6 u v = (2, (if cmpV u v ≥ 0 then 1 else 0), ⟨#[]⟩, 0) := by rw [lit 6 (by decide) (by decide), if_neg h1, if_neg h2, if_pos h3]; rfl
        rw [a, b, if_pos rfl, if_pos rfl, if_neg (by omega), if_neg (by omega)]
        simp only [unisonlaw01_ValueOrderly.j2]
        by_cases h4 : cmpV u v < 0
        · rw [if_pos h4, if_neg (show ¬ cmpV u v ≥ 0 by omega), if_pos trivial, decide_eq_true h4, if_pos (by decide), if_pos (by unfold wrap64; rfl), if_pos trivial]; rfl
        · rw [if_neg h4, if_pos (show cmpV u v ≥ 0 by omega), if_pos trivial, decide_eq_false h4, if_pos (by decide), if_pos (by unfold wrap64; rfl), if_pos trivial]; rfl
      · have a : ∀ op : Int, 1 ≤ op → op ≤ 6 → cmpSpec op u v = (0, 0, ⟨#[]⟩, 11) := fun op h0 h6 => by rw [lit op h0 h6, if_neg h1, if_neg h2, if_neg h3]
        rw [a 3 (by decide) (by decide), a 6 (by decide) (by decide), if_pos rfl, if_neg (by decide), if_pos rfl, if_pos (by simp), em]; rfl
theorem ValueOrderly : ∀ (a0_0 a0_1 : Int) (a0_2 : ByteArray) (a1_0 a1_1 : Int) (a1_2 : ByteArray) (a2_0 a2_1 : Int) (a2_2 : ByteArray), (Lit.int .i64 a0_0).wf = true → (Lit.int .i64 a0_1).wf = true → (Lit.int .i64 a1_0).wf = true → (Lit.int .i64 a1_1).wf = true → (Lit.int .i64 a2_0).wf = true → (Lit.int .i64 a2_1).wf = true → ∃ k, unisonlaw01_ValueOrderly.f k a0_0 a0_1 a0_2 a1_0 a1_1 a1_2 a2_0 a2_1 a2_2 = some true := by
  intro a b c d e f g h i _ _ _ _ _ _
  refine ⟨398 + 1 + 1, ?_⟩
  unfold unisonlaw01_ValueOrderly.f
  have h1 := order_value ⟨a, b, c⟩ ⟨d, e, f⟩ (k := 398 + 1 + 1) (by omega)
  have h2 := order_value ⟨d, e, f⟩ ⟨a, b, c⟩ (k := 398 + 1 + 1) (by omega)
  have h3 := order_value ⟨d, e, f⟩ ⟨g, h, i⟩ (k := 398 + 1 + 1) (by omega)
  have h4 := order_value ⟨a, b, c⟩ ⟨g, h, i⟩ (k := 398 + 1 + 1) (by omega)
  have h5 := order_value ⟨a, b, c⟩ ⟨a, b, c⟩ (k := 398 + 1 + 1) (by omega)
  have h6 := orderly0 ⟨a, b, c⟩ ⟨d, e, f⟩ ⟨g, h, i⟩ (398 + 1)
  have h7 := orderly1 ⟨a, b, c⟩ ⟨d, e, f⟩ (k := 398) (by omega)
  simp only at h1 h2 h3 h4 h5 h6 h7
  rw [awake_all (by omega), some_bind, h1, some_bind, h2, some_bind, h3, some_bind, h4, some_bind, h5, some_bind, h6, h7]
end Go.Proofs.YteehcopkljiikaaDoor.Pure
