/- A list turned; And and Or by members alone; what is not; no program's steps in sight; no conditions beyond those in each theorem's head. -/
import Derived.Test.YteehcopkljiikaaDoorPS6
import Derived.Test.YteehcopkljiikaaDoorMC
namespace Go.Proofs.YteehcopkljiikaaDoor.PS
open Go.RowKit Go.Proofs.YteehcopkljiikaaDoorW.PrintWords Go.Proofs.YteehcopkljiikaaDoorW.PrintLast Go.Proofs.YteehcopkljiikaaDoorW.PrintMore Go.Proofs.YteehcopkljiikaaDoorX Go.Proofs.YteehcopkljiikaaDoorL Go.Proofs.YteehcopkljiikaaDoor.PA
set_option linter.unusedVariables false
set_option linter.unusedSimpArgs false

/-- A list from its end, its first once more. -/
def turnS (l : List S23) : List S23 := l.reverse ++ l.take 1
theorem take_succ_at {l : List S23} {d : Nat} (h : d < l.length) : l.take (d + 1) = l.take d ++ [l.getD d z23] := by
  rw [List.take_add_one, List.getElem?_eq_getElem h, List.getD_eq_getElem?_getD, List.getElem?_eq_getElem h]; rfl
theorem turned_loop {l : List S23} (hx : l.length ≤ 4000000000) : ∀ (d : Nat) (out : List S23), d ≤ l.length → out.length + d ≤ l.length → ∀ k, d + 1 ≤ k →
    unisonlaw01_turned.l0 k l out ((d : Int) - 1) = some (out ++ (l.take d).reverse ++ l.take 1)
  | d, out, hd, ho, 0, hk => by omega
  | 0, out, hd, ho, k + 1, hk => by
    rw [unisonlaw01_turned.l0, if_neg (by omega)]
    by_cases h : (l.length : Int) > 0
    · rw [if_pos h, if_pos (by omega), if_pos (by omega), take_succ_at (l := l) (d := 0) (by omega)]
      simp [rd_T23]
    · rw [if_neg h]
      obtain rfl : l = [] := List.eq_nil_of_length_eq_zero (by omega)
      simp
  | d + 1, out, hd, ho, k + 1, hk => by
    have e : (((d + 1 : Nat) : Int) - 1) = (d : Int) := by omega
    rw [e, unisonlaw01_turned.l0, if_pos (by omega), if_pos (by omega), if_pos (by omega), if_pos (by omega), rd_at, wrap64_of (by omega) (by omega), turned_loop hx d _ (by omega) (by rw [List.length_append]; simp; omega) k (by omega), take_succ_at (l := l) (d := d) (by omega), List.reverse_append]
    simp
theorem turned_row (l : List S23) (hx : l.length ≤ 4000000000) {k : Nat} (hk : l.length + 1 ≤ k) : unisonlaw01_turned.f k l = some (turnS l) := by
  unfold unisonlaw01_turned.f
  rw [wrap64_of (by omega) (by omega), turned_loop hx l.length [] (by omega) (by simp) k hk, List.take_length, List.nil_append]; rfl
theorem turn_mem (l : List S23) (v : S23) : v ∈ turnS l ↔ v ∈ l := by
  unfold turnS
  rw [List.mem_append, List.mem_reverse]
  exact ⟨fun h => h.elim id List.mem_of_mem_take, .inl⟩
theorem turn_length (l : List S23) : (turnS l).length ≤ l.length + 1 := by
  unfold turnS; rw [List.length_append, List.length_reverse, List.length_take]; omega
theorem all_by {l m : List S23} (h : ∀ v, v ∈ l ↔ v ∈ m) (p : S23 → Bool) : l.all p = m.all p := by
  rw [Bool.eq_iff_iff, List.all_eq_true, List.all_eq_true]
  exact ⟨fun a v hv => a v ((h v).2 hv), fun a v hv => a v ((h v).1 hv)⟩
theorem any_by {l m : List S23} (h : ∀ v, v ∈ l ↔ v ∈ m) (p : S23 → Bool) : l.any p = m.any p := by
  rw [Bool.eq_iff_iff, List.any_eq_true, List.any_eq_true]
  exact ⟨fun ⟨v, a, b⟩ => ⟨v, (h v).1 a, b⟩, fun ⟨v, a, b⟩ => ⟨v, (h v).2 a, b⟩⟩
theorem allS_by {l m : List S23} (h : ∀ v, v ∈ l ↔ v ∈ m) (kind : Int) : allS kind l = allS kind m := by
  unfold allS; rw [all_by h, all_by h]
theorem bothS_by {l m : List S23} (h : ∀ v, v ∈ l ↔ v ∈ m) (b : Int) : bothS b l = bothS b m := by
  unfold bothS; rw [allS_by h, any_by h, any_by h]
theorem both_ok {l : List S23} (h : allS 2 l = 0) (b : Int) : bothS b l = if l.any (isB b) = true then (2, b, ⟨#[]⟩, 0) else if l.any isN = true then (0, 0, ⟨#[]⟩, 0) else (2, 1 - b, ⟨#[]⟩, 0) := by
  unfold bothS; rw [if_neg (by simp [h])]
theorem both_err (b : Int) (l : List S23) : (bothS b l).2.2.2 = allS 2 l := by
  by_cases h : allS 2 l = 0
  · rw [both_ok h, h]; split
    · rfl
    · split <;> rfl
  · unfold bothS; rw [if_pos h]
theorem both_bad {l : List S23} (h : allS 2 l ≠ 0) (b : Int) : bothS b l = (0, 0, ⟨#[]⟩, allS 2 l) := by unfold bothS; rw [if_pos h]
/-- A result's value. -/
def mk3 (t : Int × Int × ByteArray × Int) : S23 := ⟨t.1, t.2.1, t.2.2.1⟩
theorem right_null : right ⟨0, 0, ⟨#[]⟩⟩ = true := by decide
theorem right_bool {b : Int} (hb : b = 0 ∨ b = 1) : right ⟨2, b, ⟨#[]⟩⟩ = true := by rcases hb with rfl | rfl <;> decide
theorem all2 {v : S23} (h : right v = true ∧ (v.f0 = 2 ∨ v.f0 = 0)) : allS 2 [v] = 0 := allS_zero.2 fun u hu => by
  obtain rfl := List.mem_singleton.1 hu; exact h
/-- What is not, of a value that may be asked. -/
theorem not_cases {v : S23} (h : right v = true ∧ (v.f0 = 2 ∨ v.f0 = 0)) : (v = ⟨0, 0, ⟨#[]⟩⟩ ∧ notS v = (0, 0, ⟨#[]⟩, 0)) ∨ (v = ⟨2, 0, ⟨#[]⟩⟩ ∧ notS v = (2, 1, ⟨#[]⟩, 0)) ∨ (v = ⟨2, 1, ⟨#[]⟩⟩ ∧ notS v = (2, 0, ⟨#[]⟩, 0)) := by
  have ha := all2 h
  rcases fine h with ⟨a, b, c⟩ | ⟨a, b, c⟩
  · left
    refine ⟨eta _ _ a b c, ?_⟩
    unfold notS; rw [if_pos (.inr a), ha]
  · right
    rcases b with b | b
    · left
      refine ⟨eta _ _ a b c, ?_⟩
      unfold notS; rw [if_neg (by simp [ha, a]), if_pos b]
    · right
      refine ⟨eta _ _ a b c, ?_⟩
      unfold notS; rw [if_neg (by simp [ha, a]), if_neg (by omega)]
def nots (l : List S23) : List S23 := l.map fun v => mk3 (notS v)
theorem nots_any {l : List S23} (hl : ∀ v ∈ l, right v = true ∧ (v.f0 = 2 ∨ v.f0 = 0)) : (nots l).any (isB 1) = l.any (isB 0) ∧ (nots l).any (isB 0) = l.any (isB 1) ∧ (nots l).any isN = l.any isN ∧ ∀ v ∈ nots l, right v = true ∧ (v.f0 = 2 ∨ v.f0 = 0) := by
  induction l with
  | nil => exact ⟨rfl, rfl, rfl, fun v h => by cases h⟩
  | cons v l ih =>
    obtain ⟨a, b, c, d⟩ := ih fun u hu => hl u (List.mem_cons_of_mem _ hu)
    have e : nots (v :: l) = mk3 (notS v) :: nots l := rfl
    rw [e]
    simp only [List.any_cons, a, b, c]
    rcases not_cases (hl v List.mem_cons_self) with ⟨h, g⟩ | ⟨h, g⟩ | ⟨h, g⟩
    · subst h; rw [g]
      exact ⟨rfl, rfl, rfl, fun u hu => (List.mem_cons.1 hu).elim (fun q => q ▸ ⟨right_null, .inr rfl⟩) (d u)⟩
    · subst h; rw [g]
      exact ⟨rfl, rfl, rfl, fun u hu => (List.mem_cons.1 hu).elim (fun q => q ▸ ⟨right_bool (.inr rfl), .inl rfl⟩) (d u)⟩
    · subst h; rw [g]
      exact ⟨rfl, rfl, rfl, fun u hu => (List.mem_cons.1 hu).elim (fun q => q ▸ ⟨right_bool (.inl rfl), .inl rfl⟩) (d u)⟩
theorem both_fine {l : List S23} (h : allS 2 l = 0) {b : Int} (hb : b = 0 ∨ b = 1) : right (mk3 (bothS b l)) = true ∧ ((mk3 (bothS b l)).f0 = 2 ∨ (mk3 (bothS b l)).f0 = 0) := by
  rw [both_ok h]
  split
  · exact ⟨right_bool hb, .inl rfl⟩
  · split
    · exact ⟨right_null, .inr rfl⟩
    · exact ⟨right_bool (b := 1 - b) (by omega), .inl rfl⟩
/-- Not all is one not; not one is all not. -/
theorem de_morgan {l : List S23} (h : allS 2 l = 0) : bothS 1 (nots l) = notS (mk3 (bothS 0 l)) ∧ bothS 0 (nots l) = notS (mk3 (bothS 1 l)) := by
  obtain ⟨a, b, c, d⟩ := nots_any (allS_zero.1 h)
  have hn : allS 2 (nots l) = 0 := allS_zero.2 d
  have n0 : notS ⟨2, 0, ⟨#[]⟩⟩ = (2, 1, ⟨#[]⟩, 0) := by
    rcases not_cases (v := ⟨2, 0, ⟨#[]⟩⟩) ⟨right_bool (.inl rfl), .inl rfl⟩ with ⟨e, _⟩ | ⟨_, g⟩ | ⟨e, _⟩
    · cases e
    · exact g
    · cases e
  have n1 : notS ⟨2, 1, ⟨#[]⟩⟩ = (2, 0, ⟨#[]⟩, 0) := by
    rcases not_cases (v := ⟨2, 1, ⟨#[]⟩⟩) ⟨right_bool (.inr rfl), .inl rfl⟩ with ⟨e, _⟩ | ⟨e, _⟩ | ⟨_, g⟩
    · cases e
    · cases e
    · exact g
  have nn : notS ⟨0, 0, ⟨#[]⟩⟩ = (0, 0, ⟨#[]⟩, 0) := by
    rcases not_cases (v := ⟨0, 0, ⟨#[]⟩⟩) ⟨right_null, .inr rfl⟩ with ⟨_, g⟩ | ⟨e, _⟩ | ⟨e, _⟩
    · exact g
    · cases e
    · cases e
  rw [both_ok hn, both_ok hn, both_ok h, both_ok h, a, b, c]
  constructor
  · by_cases x : l.any (isB 0) = true
    · rw [if_pos x, if_pos x]; exact n0.symm
    · rw [if_neg x, if_neg x]
      by_cases y : l.any isN = true
      · rw [if_pos y, if_pos y]; exact nn.symm
      · rw [if_neg y, if_neg y]; exact n1.symm
  · by_cases x : l.any (isB 1) = true
    · rw [if_pos x, if_pos x]; exact n1.symm
    · rw [if_neg x, if_neg x]
      by_cases y : l.any isN = true
      · rw [if_pos y, if_pos y]; exact nn.symm
      · rw [if_neg y, if_neg y]; exact n0.symm
/-- A list by its parts. -/
theorem both_parts {l m : List S23} (h : allS 2 l = 0) (g : allS 2 m = 0) : bothS 0 (l ++ m) = bothS 0 [mk3 (bothS 0 l), mk3 (bothS 0 m)] := by
  have hlm : allS 2 (l ++ m) = 0 := allS_zero.2 fun v hv => (List.mem_append.1 hv).elim (allS_zero.1 h v) (allS_zero.1 g v)
  have hap : allS 2 [mk3 (bothS 0 l), mk3 (bothS 0 m)] = 0 := allS_zero.2 fun v hv => by
    rcases List.mem_cons.1 hv with rfl | hv
    · exact both_fine h (.inl rfl)
    · obtain rfl := List.mem_singleton.1 hv
      exact both_fine g (.inl rfl)
  rw [both_ok hlm, both_ok hap, both_ok h, both_ok g, List.any_append, List.any_append]
  by_cases x : l.any (isB 0) = true <;> by_cases y : m.any (isB 0) = true <;> by_cases u : l.any isN = true <;> by_cases w : m.any isN = true <;> simp [x, y, u, w, mk3, isB, isN]
end Go.Proofs.YteehcopkljiikaaDoor.PS
