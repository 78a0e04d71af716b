/- The law ValueBack: its program answers true at every two values; no conditions beyond those in the theorem's head. -/
import Derived.Test.YteehcopkljiikaaDoorPSP
import Derived.Test.YteehcopkljiikaaDoorPSR
import Derived.Test.YteehcopkljiikaaDoorPSG
import Derived.Test.YteehcopkljiikaaDoorPFLValueBack
namespace Go.Proofs.YteehcopkljiikaaDoor.Pure
open Go.RowKit Go.Proofs.YteehcopkljiikaaDoorW.PrintWords Go.Proofs.YteehcopkljiikaaDoorW.PrintLast Go.Proofs.YteehcopkljiikaaDoorW.PrintMore Go.Proofs.YteehcopkljiikaaDoorX Go.Proofs.YteehcopkljiikaaDoorL Go.Proofs.YteehcopkljiikaaDoor.PA Go.Proofs.YteehcopkljiikaaDoor.PS
set_option linter.unusedVariables false
set_option linter.unusedSimpArgs false

theorem print_ok (v : S23) : ((printS v).2 == 0) = right v := by
  unfold printS
  by_cases h : right v = true
  · rw [if_pos h, h]; rfl
  · rw [if_neg h, Bool.eq_false_iff.2 h]; rfl
theorem beq3 (u v : S23) : (u.f0 == v.f0 && (u.f1 == v.f1 && (u.f2.toList == v.f2.toList))) = decide (u = v) := by
  rw [Bool.eq_iff_iff]
  simp only [Bool.and_eq_true, beq_iff_eq, decide_eq_true_eq]
  constructor
  · rintro ⟨h0, h1, h2⟩; exact eta _ _ h0 h1 (toList_inj.1 h2)
  · rintro rfl; exact ⟨rfl, rfl, rfl⟩
theorem back1 (v w : S23) (k : Nat) (hv : right v = true) (hw : right w = true) : unisonlaw01_ValueBack.j1 (k + 1) true (litV v) (litV w) false v.f0 v.f1 v.f2 w.f0 w.f1 w.f2 = some true := by
  rw [unisonlaw01_ValueBack.j1, if_neg (by decide), parse_lit v hv, some_bind, parse_lit w hw, some_bind, if_pos rfl, if_pos (by simp), if_pos rfl, if_pos (by simp), if_pos rfl, beq3]
  congr 1
  rw [beq_iff_eq, Bool.eq_iff_iff, beq_iff_eq, decide_eq_true_eq, toList_inj]
  exact ⟨lit_inj hv hw, fun e => by rw [e]⟩
theorem back_all (v w : S23) (k : Nat) (hk : 400 ≤ k) : unisonlaw01_ValueBack.f k v.f0 v.f1 v.f2 w.f0 w.f1 w.f2 = some true := by
  obtain ⟨k, rfl⟩ : ∃ j, k = j + 1 + 1 := ⟨k - 2, by omega⟩
  unfold unisonlaw01_ValueBack.f
  rw [awake_all (by omega), some_bind, right_ref v, some_bind, right_ref w, some_bind, print_eq v, some_bind, print_eq w, some_bind, print_ok v, print_ok w]
  rw [if_neg (by simp), show (right w != right w) = false by simp, unisonlaw01_ValueBack.j0, if_neg (by decide)]
  by_cases hv : right v = true
  · rw [if_pos hv]
    by_cases hw : right w = true
    · have e1 : (printS v).1 = litV v := by unfold printS; rw [if_pos hv]
      have e2 : (printS w).1 = litV w := by unfold printS; rw [if_pos hw]
      rw [hw, e1, e2]
      exact back1 v w k hv hw
    · rw [Bool.eq_false_iff.2 hw, unisonlaw01_ValueBack.j1]; rfl
  · rw [if_neg hv, unisonlaw01_ValueBack.j1, if_pos rfl]
theorem ValueBack : ∀ (a0_0 a0_1 : Int) (a0_2 : ByteArray) (a1_0 a1_1 : Int) (a1_2 : ByteArray), (Lit.int .i64 a0_0).wf = true → (Lit.int .i64 a0_1).wf = true → (Lit.int .i64 a1_0).wf = true → (Lit.int .i64 a1_1).wf = true → ∃ k, unisonlaw01_ValueBack.f k a0_0 a0_1 a0_2 a1_0 a1_1 a1_2 = some true := by
  intro a b c d e f _ _ _ _
  exact ⟨400, back_all ⟨a, b, c⟩ ⟨d, e, f⟩ 400 (Nat.le_refl _)⟩
end Go.Proofs.YteehcopkljiikaaDoor.Pure
