/- Free, Steps, Down, step, Arm of a disk: what each call answers and does. -/
import Derived.Test.YtakhnkkcllfbjaaDoorDC
namespace Go.Proofs.YtakhnkkcllfbjaaDoorX
open Go.RowKit Go.Proofs.YtakhnkkcllfbjaaDoorW.PrintWords Go.Proofs.YtakhnkkcllfbjaaDoorW.PrintLast Go.Proofs.YtakhnkkcllfbjaaDoorW.PrintMore
set_option linter.unusedVariables false
set_option linter.unusedSimpArgs false
theorem Free_calls {w : World} {a m : Nat} {lay : Lay} {D : AD} (h : DK w a m lay D) : Calls Tryd.prog 12 #[.pointer (some ⟨a, 0, none⟩)] w fun e w' => e = .returned (.int .i64 D.free) ∧ ∃ n, w' = w.drewN n := by
  have hok := h.ok
  have e1 : IntKind.i64.wrap (D.size - D.used) = D.free := by
    have := hok.size0; have := hok.size1; have := hok.used; have := used_pos D
    rw [i64_w]; unfold wrap64 AD.free; omega
  obtain ⟨c0, c1, c2, c3, c4, c5⟩ := head_cells h.head
  clear h hok c1 c3 c4 c5
  go_enter Tryd.func12, Tryd.ntmps12
  go_wp2
  go_region
  all_goals go_wp2
  all_goals go_ret
  all_goals exact ⟨rfl, 1, rfl⟩
theorem Steps_calls {w : World} {a m : Nat} {lay : Lay} {D : AD} (h : DK w a m lay D) : Calls Tryd.prog 24 #[.pointer (some ⟨a, 0, none⟩)] w fun e w' => e = .returned (.int .i64 D.steps) ∧ ∃ n, w' = w.drewN n := by
  obtain ⟨c0, c1, c2, c3, c4, c5⟩ := head_cells h.head
  clear h c0 c1 c2 c3 c4
  go_enter Tryd.func24, Tryd.ntmps24
  go_wp2
  go_ret
  exact ⟨rfl, 0, rfl⟩
theorem Down_calls {w : World} {a m : Nat} {lay : Lay} {D : AD} (h : DK w a m lay D) : Calls Tryd.prog 21 #[.pointer (some ⟨a, 0, none⟩)] w fun e w' => e = .returned (.bool D.down) ∧ ∃ n, w' = w.drewN n := by
  obtain ⟨c0, c1, c2, c3, c4, c5⟩ := head_cells h.head
  clear h c0 c1 c2 c3 c5
  go_enter Tryd.func21, Tryd.ntmps21
  go_wp2
  go_ret
  exact ⟨rfl, 0, rfl⟩
def AD.stepE (D : AD) : Int := if D.armed = 0 then 3 else 0
def AD.stepD (D : AD) : AD := if D.armed = 0 then D.fall else D.tick
theorem stepD_L (D : AD) : D.stepD.L = D.L := by unfold AD.stepD; split <;> rfl
theorem AD.Ok.stepD {D : AD} (h : D.Ok) : D.stepD.Ok := by
  unfold AD.stepD
  split
  · exact h.fall
  · exact h.tick (by have := h.used; unfold AD.used at this; exact this) h.many h.rising h.safe h.named
theorem step_calls {w : World} {a m : Nat} {lay : Lay} {D : AD} (h : DK w a m lay D) : Calls Tryd.prog 31 #[.pointer (some ⟨a, 0, none⟩)] w fun e w' => e = .returned (.int .i64 D.stepE) ∧ DK w' a m lay D.stepD ∧ Fr [a] w w' := by
  obtain ⟨c0, c1, c2, c3, c4, c5⟩ := head_cells h.head
  have f3 := blk_frozen h.head 3
  have f4 := blk_frozen h.head 4
  have f5 := blk_frozen h.head 5
  have hb := h.head
  have A := Aside0.mk h
  have B := Aside0.mk hb
  have fin : ∀ {w' : World} {D' : AD}, Fr [a] w w' → w'.heap[a]? = some (.cells (headD m D') 64 (0, 0)) → D' = D.stepD → DK w' a m lay D.stepD := by
    intro w' D' h1 h2 e
    subst e
    exact A.out.turn h1 h2 (stepD_L D) A.out.ok.stepD
  have F := Aside0.mk @fin
  have hr := h.ok.armed1
  have hr0 := h.ok.armed0
  clear h hb fin c0 c1 c2
  by_cases hz : D.armed = 0
  · have e1 : (D.armed == 0) = true := by simp [hz]
    have e2 : D.stepD = D.fall := if_pos hz
    have e3 : D.stepE = 3 := if_pos hz
    have E := Aside0.mk e2
    have E' := Aside0.mk e3
    clear e2 e3
    rw [hz] at c3
    go_enter Tryd.func31, Tryd.ntmps31
    go_wp2
    go_ret
    refine ⟨by rw [E'.out]; rfl, F.out ((Fr.refl _ _).setCell (.inl (by simp)) _) (D' := D.fall) (blk_put B.out 4 _ rfl) E.out.symm, (Fr.refl _ _).setCell (.inl (by simp)) _⟩
  · have e1 : (D.armed == 0) = false := by simp [hz]
    have e2 : D.stepD = D.tick := if_neg hz
    have e3 : D.stepE = 0 := if_neg hz
    have E := Aside0.mk e2
    have E' := Aside0.mk e3
    clear e2 e3
    have W : wrap64 (D.steps + 1) = IntKind.i64.wrap (D.steps + 1) := (i64_w _).symm
    have W' := Aside0.mk W
    clear W
    by_cases hp : 0 < D.armed
    · have e4 : decide (0 < D.armed) = true := decide_eq_true hp
      have HP := Aside0.mk hp
      have e5 : IntKind.i64.wrap (D.armed - 1) = D.armed - 1 := by rw [i64_w]; unfold wrap64; omega
      clear hp
      go_enter Tryd.func31, Tryd.ntmps31
      go_wp2
      go_ret
      refine ⟨by rw [E'.out]; rfl, F.out (((Fr.refl _ _).setCell (.inl (by simp)) _).setCell (.inl (by simp)) _) (D' := D.tick) (blk_put (blk_put B.out 3 _ rfl) 5 _ ?_) E.out.symm, ((Fr.refl _ _).setCell (.inl (by simp)) _).setCell (.inl (by simp)) _⟩
      simp only [headD, AD.tick, if_pos (show 0 < D.armed by have := HP.out; omega), W'.out]
      rfl
    · have e4 : decide (0 < D.armed) = false := decide_eq_false hp
      have HP : Aside0 (¬ 0 < D.armed) := ⟨hp⟩
      clear hp
      go_enter Tryd.func31, Tryd.ntmps31
      go_wp2
      go_ret
      refine ⟨by rw [E'.out]; rfl, F.out ((Fr.refl _ _).setCell (.inl (by simp)) _) (D' := D.tick) (blk_put B.out 5 _ ?_) E.out.symm, (Fr.refl _ _).setCell (.inl (by simp)) _⟩
      simp only [headD, AD.tick, if_neg (show ¬ 0 < D.armed by have := HP.out; omega), W'.out]
      rfl
theorem Arm_calls {w : World} {a m : Nat} {lay : Lay} {D : AD} (h : DK w a m lay D) (n : Int) (hn : n ≤ 9223372036854775807) : Calls Tryd.prog 15 #[.pointer (some ⟨a, 0, none⟩), .int .i64 n] w fun e w' => e = .returned (.int .i64 (D.arm n).2) ∧ DK w' a m lay (D.arm n).1 ∧ Fr [a] w w' := by
  obtain ⟨c0, c1, c2, c3, c4, c5⟩ := head_cells h.head
  have f3 := blk_frozen h.head 3
  have hb := h.head
  have A := Aside0.mk h
  have B := Aside0.mk hb
  have O := Aside0.mk (h.ok.arm hn)
  clear h hb c0 c1 c2 c5
  by_cases h1 : n < -1
  · have e1 : decide (n < -1) = true := decide_eq_true h1
    have E : Aside0 (D.arm n = (D, 1)) := ⟨if_pos h1⟩
    go_enter Tryd.func15, Tryd.ntmps15
    go_wp2
    go_ret
    rw [E.out]
    exact ⟨rfl, A.out, Fr.refl _ _⟩
  · have e1 : decide (n < -1) = false := decide_eq_false h1
    by_cases h2 : D.down = true
    · have E : Aside0 (D.arm n = (D, 3)) := ⟨(if_neg h1).trans (if_pos h2)⟩
      go_enter Tryd.func15, Tryd.ntmps15
      go_wp2
      go_ret
      rw [E.out]
      exact ⟨rfl, A.out, Fr.refl _ _⟩
    · have E : Aside0 (D.arm n = ({ D with armed := n }, 0)) := ⟨(if_neg h1).trans (if_neg h2)⟩
      have h3 : D.down = false := by simpa using h2
      go_enter Tryd.func15, Tryd.ntmps15
      go_wp2
      go_ret
      have O := O.out
      rw [E.out] at O ⊢
      exact ⟨rfl, A.out.turn ((Fr.refl _ _).setCell (.inl (by simp)) _) (blk_put B.out 3 _ rfl) rfl O, (Fr.refl _ _).setCell (.inl (by simp)) _⟩
end Go.Proofs.YtakhnkkcllfbjaaDoorX
