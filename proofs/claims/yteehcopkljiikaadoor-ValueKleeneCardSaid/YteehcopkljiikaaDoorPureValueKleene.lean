/- The law ValueKleene: its program answers true at every two lists; no conditions beyond those in the theorem's head. -/
import Derived.Test.YteehcopkljiikaaDoorPS9
import Derived.Test.YteehcopkljiikaaDoorPFLValueKleene
import Derived.Test.YteehcopkljiikaaDoorXV
namespace Go.Proofs.YteehcopkljiikaaDoor.Pure
open Go.RowKit Go.Proofs.YteehcopkljiikaaDoorW.PrintWords Go.Proofs.YteehcopkljiikaaDoorW.PrintLast Go.Proofs.YteehcopkljiikaaDoorW.PrintMore Go.Proofs.YteehcopkljiikaaDoorX Go.Proofs.YteehcopkljiikaaDoorL Go.Proofs.YteehcopkljiikaaDoor.PA Go.Proofs.YteehcopkljiikaaDoor.PS Go.Proofs.YteehcopkljiikaaDoorV
set_option linter.unusedVariables false
set_option linter.unusedSimpArgs false

theorem same3 (t : Int × Int × ByteArray × Int) : (!(t.1 == t.1) || (!(t.2.1 == t.2.1) || (!(t.2.2.1.toList == t.2.2.1.toList)))) = false := by simp
theorem kleene3 {l m : List S23} (hl : l.length ≤ 536870911) (hm : m.length ≤ 536870911) (h : allS 2 l = 0) {k : Nat} (hk : l.length + m.length + 100 ≤ k) :
    unisonlaw01_ValueKleene.j3 (k + 1) l m true false (bothS 0 l).1 (bothS 0 l).2.1 (bothS 0 l).2.2.1 = some true := by
  rw [unisonlaw01_ValueKleene.j3, if_neg (by decide), and_row m (by omega) (by omega), some_bind, both_err]
  by_cases g : allS 2 m = 0
  · have e : ([⟨(bothS 0 l).1, (bothS 0 l).2.1, (bothS 0 l).2.2.1⟩, ⟨(bothS 0 m).1, (bothS 0 m).2.1, (bothS 0 m).2.2.1⟩] : List S23) = [mk3 (bothS 0 l), mk3 (bothS 0 m)] := rfl
    have hp := both_parts h g
    have h1 : (bothS 0 [mk3 (bothS 0 l), mk3 (bothS 0 m)]).2.2.2 = 0 := by
      rw [← hp, both_err]
      exact allS_zero.2 fun v hv => (List.mem_append.1 hv).elim (allS_zero.1 h v) (allS_zero.1 g v)
    rw [if_pos g, if_pos (by simp; omega), some_bind, List.nil_append, if_pos (by omega), and_row (l ++ m) (by rw [List.length_append]; omega) (by rw [List.length_append]; omega), some_bind, e, and_row _ (by simp) (by simp; omega), some_bind, if_pos rfl, hp, if_pos (by simp), h1, if_pos rfl]; rfl
  · rw [if_neg g]
theorem kleene_loop {l m : List S23} (hl : l.length ≤ 536870911) (hm : m.length ≤ 536870911) (h : allS 2 l = 0) : ∀ (d i : Nat), i + d = l.length → ∀ k, d + 2 * l.length + m.length + 200 ≤ k →
    unisonlaw01_ValueKleene.l0 k l m true (nots (l.take i)) (i : Int) (bothS 0 l).1 (bothS 0 l).2.1 (bothS 0 l).2.2.1 (bothS 1 l).1 (bothS 1 l).2.1 (bothS 1 l).2.2.1 = some true
  | d, i, hd, 0, hk => by omega
  | d, i, hd, 1, hk => by omega
  | 0, i, hd, k + 2, hk => by
    rw [unisonlaw01_ValueKleene.l0, if_neg (by omega), List.take_of_length_le (by omega)]
    have hlen : (nots l).length = l.length := List.length_map ..
    obtain ⟨d1, d2⟩ := de_morgan h
    have n1 : value_Not.f (k + 1) (bothS 0 l).1 (bothS 0 l).2.1 (bothS 0 l).2.2.1 = some (notS (mk3 (bothS 0 l))) := not_row (mk3 (bothS 0 l)) (by omega)
    have n2 : value_Not.f (k + 1) (bothS 1 l).1 (bothS 1 l).2.1 (bothS 1 l).2.2.1 = some (notS (mk3 (bothS 1 l))) := not_row (mk3 (bothS 1 l)) (by omega)
    have z : ∀ b, b = 0 ∨ b = 1 → (notS (mk3 (bothS b l))).2.2.2 = 0 := fun b hb => by
      rcases not_cases (both_fine h hb) with ⟨_, e⟩ | ⟨_, e⟩ | ⟨_, e⟩ <;> rw [e]
    have z0 := z 0 (.inl rfl)
    have z1 := z 1 (.inr rfl)
    have o1 := or_row (nots l) (k := k + 1) (by omega) (by omega)
    have o2 := and_row (nots l) (k := k + 1) (by omega) (by omega)
    rw [d1] at o1
    rw [d2] at o2
    clear d1 d2 z
    generalize notS (mk3 (bothS 0 l)) = N0 at *
    generalize notS (mk3 (bothS 1 l)) = N1 at *
    rw [o1, some_bind, n1, some_bind, o2, some_bind, n2, some_bind, same3 N0, if_neg (by decide), same3 N1, if_neg (by decide), z0, if_pos rfl, z1]
    exact kleene3 hl hm h (by omega)
  | d + 1, i, hd, k + 2, hk => by
    have hm' : l.getD i z23 ∈ l := by
      have h : i < l.length := by omega
      rw [List.getD_eq_getElem?_getD, List.getElem?_eq_getElem h]; exact List.getElem_mem h
    have hlen : (nots (l.take i)).length ≤ l.length := by unfold nots; rw [List.length_map, List.length_take]; omega
    have z : (notS (l.getD i z23)).2.2.2 = 0 := by rcases not_cases (allS_zero.1 h _ hm') with ⟨_, e⟩ | ⟨_, e⟩ | ⟨_, e⟩ <;> rw [e]
    rw [unisonlaw01_ValueKleene.l0, if_pos (by omega), if_pos (by omega), rd_at, not_row _ (by omega), some_bind, if_pos z, if_pos (by omega), w1 (by omega)]
    have e : nots (l.take i) ++ [(⟨(notS (l.getD i z23)).1, (notS (l.getD i z23)).2.1, (notS (l.getD i z23)).2.2.1⟩ : S23)] = nots (l.take (i + 1)) := by
      rw [take_succ_at (by omega)]; unfold nots; rw [List.map_append]; rfl
    rw [e]
    exact kleene_loop hl hm h d (i + 1) (by omega) (k + 1) (by omega)
theorem ValueKleene : ∀ (l0 : List S23) (l1 : List S23), (∀ x ∈ l0, Fine x) → l0.length * 32 ≤ 140737488351232 → (∀ x ∈ l1, Fine x) → l1.length * 32 ≤ 140737488351232 → ∃ k, unisonlaw01_ValueKleene.f k l0 l1 = some true := by
  intro l m _ _ _ _
  refine ⟨4 * l.length + m.length + 500 + 1 + 1, ?_⟩
  unfold unisonlaw01_ValueKleene.f
  have out : unisonlaw01_ValueKleene.j0 (4 * l.length + m.length + 500 + 1 + 1) l m true = some true := by rw [unisonlaw01_ValueKleene.j0, if_pos rfl]
  by_cases hl : (l.length : Int) > 536870911
  · rw [if_pos hl, out]
  · rw [if_neg hl]
    by_cases hm : (m.length : Int) > 536870911
    · rw [decide_eq_true hm, out]
    · have ht := turn_length l
      have e0 : bothS 0 (turnS l) = bothS 0 l := bothS_by (turn_mem l) 0
      have e1 : bothS 1 (turnS l) = bothS 1 l := bothS_by (turn_mem l) 1
      rw [decide_eq_false hm, unisonlaw01_ValueKleene.j0, if_neg (by decide), awake_all (by omega), some_bind, and_row l (by omega) (by omega), some_bind, turned_row l (by omega) (by omega), some_bind, and_row _ (by omega) (by omega), some_bind, or_row l (by omega) (by omega), some_bind, some_bind, or_row _ (by omega) (by omega), some_bind,
        e0, e1, if_neg (by rw [same3]; decide), if_pos rfl, if_neg (by rw [same3]; decide), if_pos rfl, both_err, both_err, unisonlaw01_ValueKleene.j1, show (allS 2 l != allS 2 l) = false by simp, if_neg (by decide)]
      by_cases h : allS 2 l = 0
      · rw [if_pos h]
        exact kleene_loop (by omega) (by omega) h l.length 0 (by omega) _ (by omega)
      · rw [if_neg h, if_pos rfl, both_bad h, show ((⟨#[]⟩ : ByteArray).toList == ([] : List UInt8)) = true from by rw [beq_iff_eq, toList_nil]; rfl]; rfl
end Go.Proofs.YteehcopkljiikaaDoor.Pure
