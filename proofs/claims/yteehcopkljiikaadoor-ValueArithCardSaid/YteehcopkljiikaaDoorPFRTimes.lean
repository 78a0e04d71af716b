-- Laid by a program of ours (wip/gen/xprint.py). Not trusted: Lean checks it.
import Derived.Test.YteehcopkljiikaaDoorPAx0
namespace Go.Proofs.YteehcopkljiikaaDoor.PA
open Go.RowKit Go.Proofs.YteehcopkljiikaaDoorW.PrintWords Go.Proofs.YteehcopkljiikaaDoorW.PrintLast Go.Proofs.YteehcopkljiikaaDoorW.PrintMore Go.Proofs.YteehcopkljiikaaDoorX
attribute [local go_sem] max2_int min2_int max_two min_two max_three min_three max_four min_four   -- for this text's walks alone
set_option linter.unusedVariables false
set_option linter.unusedSimpArgs false
/-! ### unisonref01_times: function 49 -/
def unisonref01_times.j0 : Nat → Int → Int → Int → Option (Int × Bool)
 | 0, _, _, _ => none
 | k + 1, x0, x1, x6 => if x1 < 0 then (if x6 > 0 then (if x6 = 0 then (none) else (if (wrap64 (-x1)) > (wrap64 (Int.tdiv (4611686018427387904 : Int) x6)) then (some (0, false)) else (some (wrap64 (x0 * x1), true)))) else (some (wrap64 (x0 * x1), true))) else (if x6 > 0 then (if x6 = 0 then (none) else (if x1 > (wrap64 (Int.tdiv (4611686018427387904 : Int) x6)) then (some (0, false)) else (some (wrap64 (x0 * x1), true)))) else (some (wrap64 (x0 * x1), true)))
def unisonref01_times.f (k : Nat) (a0 : Int) (a1 : Int) : Option (Int × Bool) := if a0 < 0 then (unisonref01_times.j0 k a0 a1 (wrap64 (-a0))) else (unisonref01_times.j0 k a0 a1 a0)
theorem unisonref01_times.mono_l : ∀ k, (∀ y0 y1 y2, LeO (unisonref01_times.j0 k y0 y1 y2) (unisonref01_times.j0 (k + 1) y0 y1 y2))
 | 0 => fun _ _ _ r h => by simp [unisonref01_times.j0] at h
 | k + 1 => by
  have ih0 := unisonref01_times.mono_l k
  ·
   intro y0 y1 y2
   unfold unisonref01_times.j0
   repeat' first
   | (with_reducible exact ih0 _ _ _)
   | (with_reducible exact LeO.refl _)
   | (with_reducible exact LeO.none _)
   | (with_reducible refine LeO.ite ?_ ?_)
   | (with_reducible refine LeO.bind ?_ (fun _ => ?_))
   | exact ih0 _ _ _
   | exact LeO.none _
   | refine LeO.ite ?_ ?_
   | refine LeO.bind ?_ (fun _ => ?_)
theorem unisonref01_times.mono : ∀ a0 a1 k, LeO (unisonref01_times.f k a0 a1) (unisonref01_times.f (k + 1) a0 a1) := by
 intro a0 a1 k
 have ih0 := unisonref01_times.mono_l k
 unfold unisonref01_times.f
 repeat' first
   | (with_reducible exact ih0 _ _ _)
   | (with_reducible exact LeO.refl _)
   | (with_reducible exact LeO.none _)
   | (with_reducible refine LeO.ite ?_ ?_)
   | (with_reducible refine LeO.bind ?_ (fun _ => ?_))
   | exact ih0 _ _ _
   | exact LeO.none _
   | refine LeO.ite ?_ ?_
   | refine LeO.bind ?_ (fun _ => ?_)
set_option maxHeartbeats 8000000 in
set_option maxRecDepth 100000 in
theorem unisonref01_times.calls (k : Nat) (a0 : Int) (a1 : Int) (r1 : Int) (r2 : Bool) (w : World) (h : unisonref01_times.f k a0 a1 = some (r1, r2)) :
  Calls Tryd.prog 49 #[.int .i64 a0, .int .i64 a1] w fun e w' => e = .returned (.tuple #[.int .i64 r1, .bool r2]) ∧ Drawn0 w w' := by
 have H : (if a0 < 0 then (unisonref01_times.j0 k a0 a1 (wrap64 (-a0))) else (unisonref01_times.j0 k a0 a1 a0)) = some (r1, r2) := h; clear h; have HC3 := Aside0.mk H; clear H
 go_enter Tryd.func49, Tryd.ntmps49
 go_upto_if 10 with (fail)
 go_cut [6] (fun v6 wc => ∃ (kq : Nat) (x6_2 : Int), v6 = .int .i64 x6_2 ∧ Aside0 (unisonref01_times.j0 kq a0 a1 x6_2 = some (r1, r2)) ∧ Aside0 (kq ≤ k) ∧ Drawn0 w wc)
 case first =>
  have H := HC3.out; clear HC3
  by_cases c4 : a0 < 0
  ·
   rw [if_pos c4] at H
   have c4b0 : decide (a0 < 0) = true := decide_eq_true c4; clear c4
   (first | rw [c4b0] | (simp only [i64_w, i32_w, u8_w, u32_w]; rw [c4b0]) | rw [c4b1] | skip)
   have H' := Aside0.mk H
   clear H
   go_wp2
   go_meet
   case rel => exact ⟨_, (wrap64 (-a0)), (by first | rfl | (simp; done) | (simp [*]; done)), H', ⟨by first | omega | exact Nat.le_refl _⟩, by repeat (first | exact Drawn0.refl _ | apply Drawn0.step)⟩
  ·
   rw [if_neg c4] at H
   have c4b0 : decide (a0 < 0) = false := decide_eq_false c4; clear c4
   (first | rw [c4b0] | (simp only [i64_w, i32_w, u8_w, u32_w]; rw [c4b0]) | rw [c4b1] | skip)
   have H' := Aside0.mk H
   clear H
   go_wp2
   go_meet
   case rel => exact ⟨_, (a0), (by first | rfl | (simp; done) | (simp [*]; done)), H', ⟨by first | omega | exact Nat.le_refl _⟩, by repeat (first | exact Drawn0.refl _ | apply Drawn0.step)⟩
 case rest =>
  clear HC3; (try clear p2); (try clear c4); (try clear c4b0); (try clear c4b1)
  obtain ⟨kq, x6_2, rfl, HA, HJ2, ⟨mc2, rfl⟩⟩ := hcut
  cases kq with
  | zero => exact absurd HA.out (by simp [unisonref01_times.j0])
  | succ kj2 =>
   have H := HA.out; clear HA
   simp only [unisonref01_times.j0] at H
   by_cases c5 : a1 < 0
   ·
    rw [if_pos c5] at H
    have c5b0 : decide (a1 < 0) = true := decide_eq_true c5; clear c5
    by_cases c6 : x6_2 > 0
    ·
     rw [if_pos c6] at H
     have c6b0 : decide (0 < x6_2) = true := decide_eq_true c6; clear c6
     by_cases c7 : x6_2 = 0
     ·
      rw [if_pos c7] at H
      exact absurd H (by simp)
     ·
      rw [if_neg c7] at H
      have c7b0 : (x6_2 == 0) = false := beq_eq_false_iff_ne.mpr c7; have c7b1 : (x6_2 != 0) = true := bne_iff_ne.mpr c7
      by_cases c8 : (wrap64 (-a1)) > (wrap64 (Int.tdiv (4611686018427387904 : Int) x6_2))
      ·
       rw [if_pos c8] at H
       have c8b0 : decide ((wrap64 (Int.tdiv (4611686018427387904 : Int) x6_2)) < (wrap64 (-a1))) = true := decide_eq_true c8; clear c8
       simp only [Option.some.injEq, Prod.mk.injEq] at H
       obtain ⟨rfl, rfl⟩ := H
       go_wp2
       go_ret2
       exact ⟨by first | rfl | (simp; done) | (simp [*]; done), by repeat (first | exact Drawn0.refl _ | apply Drawn0.step)⟩
      ·
       rw [if_neg c8] at H
       have c8b0 : decide ((wrap64 (Int.tdiv (4611686018427387904 : Int) x6_2)) < (wrap64 (-a1))) = false := decide_eq_false c8; clear c8
       simp only [Option.some.injEq, Prod.mk.injEq] at H
       obtain ⟨rfl, rfl⟩ := H
       go_wp2
       go_ret2
       exact ⟨by first | rfl | (simp; done) | (simp [*]; done), by repeat (first | exact Drawn0.refl _ | apply Drawn0.step)⟩
    ·
     rw [if_neg c6] at H
     have c6b0 : decide (0 < x6_2) = false := decide_eq_false c6; clear c6
     simp only [Option.some.injEq, Prod.mk.injEq] at H
     obtain ⟨rfl, rfl⟩ := H
     go_wp2
     go_ret2
     exact ⟨by first | rfl | (simp; done) | (simp [*]; done), by repeat (first | exact Drawn0.refl _ | apply Drawn0.step)⟩
   ·
    rw [if_neg c5] at H
    have c5b0 : decide (a1 < 0) = false := decide_eq_false c5; clear c5
    by_cases c9 : x6_2 > 0
    ·
     rw [if_pos c9] at H
     have c9b0 : decide (0 < x6_2) = true := decide_eq_true c9; clear c9
     by_cases c10 : x6_2 = 0
     ·
      rw [if_pos c10] at H
      exact absurd H (by simp)
     ·
      rw [if_neg c10] at H
      have c10b0 : (x6_2 == 0) = false := beq_eq_false_iff_ne.mpr c10; have c10b1 : (x6_2 != 0) = true := bne_iff_ne.mpr c10
      by_cases c11 : a1 > (wrap64 (Int.tdiv (4611686018427387904 : Int) x6_2))
      ·
       rw [if_pos c11] at H
       have c11b0 : decide ((wrap64 (Int.tdiv (4611686018427387904 : Int) x6_2)) < a1) = true := decide_eq_true c11; clear c11
       simp only [Option.some.injEq, Prod.mk.injEq] at H
       obtain ⟨rfl, rfl⟩ := H
       go_wp2
       go_ret2
       exact ⟨by first | rfl | (simp; done) | (simp [*]; done), by repeat (first | exact Drawn0.refl _ | apply Drawn0.step)⟩
      ·
       rw [if_neg c11] at H
       have c11b0 : decide ((wrap64 (Int.tdiv (4611686018427387904 : Int) x6_2)) < a1) = false := decide_eq_false c11; clear c11
       simp only [Option.some.injEq, Prod.mk.injEq] at H
       obtain ⟨rfl, rfl⟩ := H
       go_wp2
       go_ret2
       exact ⟨by first | rfl | (simp; done) | (simp [*]; done), by repeat (first | exact Drawn0.refl _ | apply Drawn0.step)⟩
    ·
     rw [if_neg c9] at H
     have c9b0 : decide (0 < x6_2) = false := decide_eq_false c9; clear c9
     simp only [Option.some.injEq, Prod.mk.injEq] at H
     obtain ⟨rfl, rfl⟩ := H
     go_wp2
     go_ret2
     exact ⟨by first | rfl | (simp; done) | (simp [*]; done), by repeat (first | exact Drawn0.refl _ | apply Drawn0.step)⟩
end Go.Proofs.YteehcopkljiikaaDoor.PA
