/- The law KeyWrites: its program answers true at every list; no conditions beyond those in the theorem's head. -/
import Derived.Test.YtohknmlcleifpaaDoorPS4
import Derived.Test.YtohknmlcleifpaaDoorPAx11
import Derived.Test.YtohknmlcleifpaaDoorXV
namespace Go.Proofs.YtohknmlcleifpaaDoor.Pure
open Go.RowKit Go.Proofs.YtohknmlcleifpaaDoorW.PrintWords Go.Proofs.YtohknmlcleifpaaDoorW.PrintLast Go.Proofs.YtohknmlcleifpaaDoorW.PrintMore Go.Proofs.YtohknmlcleifpaaDoorX Go.Proofs.YtohknmlcleifpaaDoorL Go.Proofs.YtohknmlcleifpaaDoor.PA Go.Proofs.YtohknmlcleifpaaDoor.PS Go.Proofs.YtohknmlcleifpaaDoorV
set_option linter.unusedVariables false
set_option linter.unusedSimpArgs false

theorem KeyWrites : ∀ (l0 : List S25), (∀ x ∈ l0, Fine x) → l0.length * 32 ≤ 140737488351232 → ∃ k, unisonlaw02_KeyWrites.f k l0 = some true := by
  intro l _ _
  unfold unisonlaw02_KeyWrites.f
  by_cases h : l.length > 2147483647
  · exact ⟨0, by rw [if_pos (by omega)]⟩
  · refine ⟨l.length + 300 + 1, ?_⟩
    have e : wrap64 ((l.length : Int) + 2) = ((l.length + 2 : Nat) : Int) := by unfold wrap64; omega
    have hc : cpy (List.replicate (l.length + 2) z25) l = l ++ [z25, z25] := by
      unfold cpy
      rw [List.length_replicate, List.take_of_length_le (by omega), List.drop_replicate, show l.length + 2 - l.length = 2 from by omega]; rfl
    have hs : (l ++ [z25, z25]).set l.length (⟨1, 77, (⟨#[]⟩ : ByteArray)⟩ : S25) = l ++ [⟨1, 77, ⟨#[]⟩⟩, z25] := by
      rw [List.set_append_right _ _ (Nat.le_refl _), Nat.sub_self]; rfl
    have e1 : wrap64 ((l.length : Int) + 1) = ((l.length + 1 : Nat) : Int) := by unfold wrap64; omega
    have g0 : rd_T25 (l ++ [(⟨1, 77, ⟨#[]⟩⟩ : S25), z25]) (l.length : Int) = ⟨1, 77, ⟨#[]⟩⟩ := by
      rw [rd_at, List.getD_eq_getElem?_getD, List.getElem?_append_right (Nat.le_refl _), Nat.sub_self]; rfl
    have g1 : rd_T25 (l ++ [(⟨1, 77, ⟨#[]⟩⟩ : S25), z25]) ((l.length + 1 : Nat) : Int) = z25 := by
      rw [rd_at, List.getD_eq_getElem?_getD, List.getElem?_append_right (by omega), show l.length + 1 - l.length = 1 from by omega]; rfl
    rw [if_neg (by omega), awake_all (by omega), some_bind, e, if_pos (by omega), Int.toNat_natCast, if_pos (by omega), hc, some_bind]
    rw [show unisonlaw02_number.f 77 = some (1, 77, ⟨#[]⟩) from rfl, some_bind, if_pos (by omega), if_pos (by rw [List.length_append, List.length_cons]; omega), Int.toNat_natCast, hs, some_bind, if_pos (by rw [List.length_append]; omega),
      List.take_left, some_bind, encode_row l (by omega), some_bind, encode_ref l (by omega), some_bind, same_all l l (by omega) (by omega), some_bind]
    rw [unisonlaw02_KeyWrites.j0]
    rw [if_pos rfl, if_pos (by simp), if_pos (by omega), if_pos (by rw [List.length_append, List.length_cons]; omega), show unisonlaw02_number.f 77 = some (1, 77, ⟨#[]⟩) from rfl, some_bind, g0, if_pos (by decide +kernel), e1, if_pos (by omega),
      if_pos (by rw [List.length_append, List.length_cons, List.length_singleton]; omega), g1, if_pos (by decide +kernel), if_pos rfl]
    rw [beq_self_eq_true]
end Go.Proofs.YtohknmlcleifpaaDoor.Pure
