/- The list that is lent, and kept; no program's steps in sight; no conditions beyond those in each theorem's head. -/
import Derived.Test.YteehcopkljiikaaDoorPFLKept
import Derived.Test.YteehcopkljiikaaDoorPFLLent
import Derived.Test.YteehcopkljiikaaDoorMA
import Derived.Test.YteehcopkljiikaaDoorPS2
namespace Go.Proofs.YteehcopkljiikaaDoor.PS
open Go.RowKit Go.Proofs.YteehcopkljiikaaDoorW.PrintWords Go.Proofs.YteehcopkljiikaaDoorW.PrintLast Go.Proofs.YteehcopkljiikaaDoorW.PrintMore Go.Proofs.YteehcopkljiikaaDoorX Go.Proofs.YteehcopkljiikaaDoorL Go.Proofs.YteehcopkljiikaaDoor.PA
set_option linter.unusedVariables false
set_option linter.unusedSimpArgs false

/-- What lent lends. -/
def lentS (l : List S23) : List S23 := l ++ [⟨1, 77, ⟨#[]⟩⟩, z23]
theorem lent_row (l : List S23) (hx : l.length ≤ 2147483647) : unisonlaw01_lent.f l = some (lentS l) := by
  unfold unisonlaw01_lent.f
  rw [w2 (by omega), if_pos (by omega), if_pos (by simp; omega), some_bind, show unisonlaw01_number.f 77 = some (1, 77, ⟨#[]⟩) from rfl, some_bind, if_pos (by omega)]
  have e : cpy (List.replicate ((l.length + 2 : Nat) : Int).toNat z23) l = l ++ [z23, z23] := by
    unfold cpy
    rw [Int.toNat_natCast, List.length_replicate, List.take_of_length_le (by omega), List.drop_replicate, show l.length + 2 - l.length = 2 by omega]; rfl
  rw [e, if_pos (by simp; omega), Int.toNat_natCast]
  congr 1
  rw [List.set_append_right _ _ (Nat.le_refl _)]
  simp [lentS]
theorem lent_take (l : List S23) : (lentS l).take ((l.length : Int)).toNat = l := by simp [lentS]
theorem lent_length (l : List S23) : (lentS l).length = l.length + 2 := by simp [lentS]
theorem lent_at {l : List S23} {i : Nat} (h : i < l.length) : (lentS l).getD i z23 = l.getD i z23 := by
  simp [lentS, List.getD_eq_getElem?_getD, List.getElem?_append_left h]
theorem kept_loop {l : List S23} (hx : l.length ≤ 2147483647) : ∀ (d i : Nat), i + d = l.length → ∀ k, d + 1 ≤ k → unisonlaw01_kept.l0 k (lentS l) l (i : Int) = some true
  | d, i, hd, 0, hk => by omega
  | 0, i, hd, k + 1, hk => by
    have a1 : rd_T23 (lentS l) (l.length : Int) = ⟨1, 77, ⟨#[]⟩⟩ := by
      rw [rd_at]; simp [lentS]
    have a2 : rd_T23 (lentS l) ((l.length + 1 : Nat) : Int) = z23 := by
      rw [rd_at]; simp [lentS, List.getD_eq_getElem?_getD]
    rw [unisonlaw01_kept.l0, if_neg (by omega), if_pos (by omega), if_pos (by rw [lent_length]; omega), show unisonlaw01_number.f 77 = some (1, 77, ⟨#[]⟩) from rfl, some_bind, a1, if_pos (by simp), w1 (by omega),
      if_pos (by omega), if_pos (by rw [lent_length]; omega), a2, show (z23.f2.toList == ([] : List UInt8)) = true from by rw [beq_iff_eq, toList_nil]; rfl]
    rfl
  | d + 1, i, hd, k + 1, hk => by
    rw [unisonlaw01_kept.l0, if_pos (by omega), if_pos (by omega), if_pos (by rw [lent_length]; omega), rd_at, rd_at, lent_at (by omega), if_neg (by simp), w1 (by omega)]
    exact kept_loop hx d (i + 1) (by omega) k (by omega)
theorem kept_row (l : List S23) (hx : l.length ≤ 2147483647) {k : Nat} (hk : l.length + 1 ≤ k) : unisonlaw01_kept.f k (lentS l) l = some true := by
  unfold unisonlaw01_kept.f
  exact kept_loop hx l.length 0 (by omega) k hk
end Go.Proofs.YteehcopkljiikaaDoor.PS
