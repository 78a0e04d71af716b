-- Laid by a program of ours (wip/gen/xprint.py). Not trusted: Lean checks it.
import Derived.Test.YtlgobbofiingnaaPAx0
namespace Go.Proofs.Ytlgobbofiingnaa.PA
open Go.RowKit Go.Proofs.YtlgobbofiingnaaW.PrintWords Go.Proofs.YtlgobbofiingnaaW.PrintLast Go.Proofs.YtlgobbofiingnaaW.PrintMore Go.Proofs.YtlgobbofiingnaaX
attribute [local go_sem] max2_int min2_int max_two min_two max_three min_three max_four min_four   -- for this text's walks alone
set_option linter.unusedVariables false
set_option linter.unusedSimpArgs false

/-! ### unisonref03_ReadNumber: function 22 -/
mutual
def unisonref03_ReadNumber.l0 : Nat → ByteArray → Int → Int → Int → Option (Int × Int)
 | 0, _, _, _, _ => none
 | k + 1, x0, x4, x5, x6 => if x6 < (x0.size : Int) then (unisonref03_ReadNumber.j1 k x0 x4 x5 x6 (decide (x6 < 10))) else (unisonref03_ReadNumber.j1 k x0 x4 x5 x6 false)
def unisonref03_ReadNumber.j1 : Nat → ByteArray → Int → Int → Int → Bool → Option (Int × Int)
 | 0, _, _, _, _, _ => none
 | k + 1, x0, x4, x5, x6, x14 => if x14 = true then (if 0 ≤ x6 then (if x6 < (x0.size : Int) then (if 0 ≤ x5 then (if 0 ≤ (wrap64 ((wrap64 (x6 + 1)) - 1)) then (if (wrap64 ((wrap64 (x6 + 1)) - 1)) < (x0.size : Int) then (if (bt x0 (wrap64 ((wrap64 (x6 + 1)) - 1))) < 128 then (if (Int.tmod (IntKind.u64.wrap (x4 + (shl .u64 (IntKind.u64.wrap (Int.tmod (bt x0 x6) 128)) x5))) 2) = 1 then (some (wrap64 ((wrap64 (-(wrap64 (IntKind.u64.wrap (Int.tdiv (IntKind.u64.wrap (x4 + (shl .u64 (IntKind.u64.wrap (Int.tmod (bt x0 x6) 128)) x5))) 2))))) - 1), wrap64 (x6 + 1))) else (some (wrap64 (IntKind.u64.wrap (Int.tdiv (IntKind.u64.wrap (x4 + (shl .u64 (IntKind.u64.wrap (Int.tmod (bt x0 x6) 128)) x5))) 2)), wrap64 (x6 + 1)))) else (unisonref03_ReadNumber.l0 k x0 (IntKind.u64.wrap (x4 + (shl .u64 (IntKind.u64.wrap (Int.tmod (bt x0 x6) 128)) x5))) (wrap64 (x5 + 7)) (wrap64 (x6 + 1)))) else (none)) else (none)) else (none)) else (none)) else (none)) else (if (Int.tmod x4 2) = 1 then (some (wrap64 ((wrap64 (-(wrap64 (IntKind.u64.wrap (Int.tdiv x4 2))))) - 1), x6)) else (some (wrap64 (IntKind.u64.wrap (Int.tdiv x4 2)), x6)))
end
def unisonref03_ReadNumber.f (k : Nat) (a0 : ByteArray) : Option (Int × Int) := unisonref03_ReadNumber.l0 k a0 0 0 0
theorem unisonref03_ReadNumber.mono_l : ∀ k, (∀ y0 y1 y2 y3, LeO (unisonref03_ReadNumber.l0 k y0 y1 y2 y3) (unisonref03_ReadNumber.l0 (k + 1) y0 y1 y2 y3)) ∧ (∀ y0 y1 y2 y3 y4, LeO (unisonref03_ReadNumber.j1 k y0 y1 y2 y3 y4) (unisonref03_ReadNumber.j1 (k + 1) y0 y1 y2 y3 y4))
 | 0 => ⟨fun _ _ _ _ r h => by simp [unisonref03_ReadNumber.l0] at h, fun _ _ _ _ _ r h => by simp [unisonref03_ReadNumber.j1] at h⟩
 | k + 1 => by
  obtain ⟨ih0, ih1⟩ := unisonref03_ReadNumber.mono_l k
  refine ⟨?_, ?_⟩
  ·
   intro y0 y1 y2 y3
   unfold unisonref03_ReadNumber.l0
   repeat' first
   | (with_reducible exact ih0 _ _ _ _)
   | (with_reducible exact ih1 _ _ _ _ _)
   | (with_reducible exact LeO.refl _)
   | (with_reducible exact LeO.none _)
   | (with_reducible refine LeO.ite ?_ ?_)
   | (with_reducible refine LeO.bind ?_ (fun _ => ?_))
   | exact ih0 _ _ _ _
   | exact ih1 _ _ _ _ _
   | exact LeO.none _
   | refine LeO.ite ?_ ?_
   | refine LeO.bind ?_ (fun _ => ?_)
  ·
   intro y0 y1 y2 y3 y4
   unfold unisonref03_ReadNumber.j1
   repeat' first
   | (with_reducible exact ih0 _ _ _ _)
   | (with_reducible exact ih1 _ _ _ _ _)
   | (with_reducible exact LeO.refl _)
   | (with_reducible exact LeO.none _)
   | (with_reducible refine LeO.ite ?_ ?_)
   | (with_reducible refine LeO.bind ?_ (fun _ => ?_))
   | exact ih0 _ _ _ _
   | exact ih1 _ _ _ _ _
   | exact LeO.none _
   | refine LeO.ite ?_ ?_
   | refine LeO.bind ?_ (fun _ => ?_)
theorem unisonref03_ReadNumber.mono : ∀ a0 k, LeO (unisonref03_ReadNumber.f k a0) (unisonref03_ReadNumber.f (k + 1) a0) := by
 intro a0 k
 obtain ⟨ih0, ih1⟩ := unisonref03_ReadNumber.mono_l k
 unfold unisonref03_ReadNumber.f
 repeat' first
   | (with_reducible exact ih0 _ _ _ _)
   | (with_reducible exact ih1 _ _ _ _ _)
   | (with_reducible exact LeO.refl _)
   | (with_reducible exact LeO.none _)
   | (with_reducible refine LeO.ite ?_ ?_)
   | (with_reducible refine LeO.bind ?_ (fun _ => ?_))
   | exact ih0 _ _ _ _
   | exact ih1 _ _ _ _ _
   | exact LeO.none _
   | refine LeO.ite ?_ ?_
   | refine LeO.bind ?_ (fun _ => ?_)
set_option maxHeartbeats 8000000 in
set_option maxRecDepth 100000 in
theorem unisonref03_ReadNumber.calls (k : Nat) (a0 : ByteArray) (r1 : Int) (r2 : Int) (w : World) (h : unisonref03_ReadNumber.f k a0 = some (r1, r2)) :
  Calls Try.prog 22 #[.string a0] w fun e w' => e = .returned (.tuple #[.int .i64 r1, .int .i64 r2]) ∧ Drawn0 w w' := by
 have H : (unisonref03_ReadNumber.l0 k a0 0 0 0) = some (r1, r2) := h
 clear h
 have H' := Aside0.mk H
 clear H
 go_enter Try.func22, Try.ntmps22
 go_wp2
 go_loopg [4, 5, 6] k (fun kq v4 v5 v6 w' => ∃ (x4_1 : Int) (x5_1 : Int) (x6_1 : Int), v4 = .int .u64 x4_1 ∧ v5 = .int .i64 x5_1 ∧ v6 = .int .i64 x6_1 ∧ Aside0 (unisonref03_ReadNumber.l0 kq a0 x4_1 x5_1 x6_1 = some (r1, r2)) ∧ Aside0 (kq ≤ k) ∧ Drawn0 w w')
 case atStart => exact ⟨(0), (0), (0), (by first | rfl | (simp; done) | (simp [*]; done)), (by first | rfl | (simp; done) | (simp [*]; done)), (by first | rfl | (simp; done) | (simp [*]; done)), H', ⟨Nat.le_refl _⟩, by repeat (first | exact Drawn0.refl _ | apply Drawn0.step)⟩
 case round =>
  clear H'
  obtain ⟨x4_1, x5_1, x6_1, rfl, rfl, rfl, HA, HK1, ⟨m1, rfl⟩⟩ := hrel
  cases gk with
  | zero => exact absurd HA.out (by simp [unisonref03_ReadNumber.l0])
  | succ k1 =>
   have H := HA.out
   clear HA
   simp only [unisonref03_ReadNumber.l0] at H
   have HC2 := Aside0.mk H
   clear H
   go_upto_region 4 with (fail)
   go_cut [14] (fun v14 wc => ∃ (kq : Nat) (x14_1 : Bool), v14 = .bool x14_1 ∧ Aside0 (unisonref03_ReadNumber.j1 kq a0 x4_1 x5_1 x6_1 x14_1 = some (r1, r2)) ∧ Aside0 (kq ≤ k1) ∧ Drawn0 w wc)
   case first =>
    have H := HC2.out
    clear HC2
    by_cases c3 : x6_1 < (a0.size : Int)
    ·
     rw [if_pos c3] at H
     have c3b0 : decide (x6_1 < (a0.size : Int)) = true := decide_eq_true c3
     clear c3
     (first | rw [c3b0] | (simp only [i64_w, i32_w, u8_w, u32_w]; rw [c3b0]) | rw [c3b1] | skip)
     have H' := Aside0.mk H
     clear H
     go_wp2
     go_meet
     case rel => exact ⟨_, (decide (x6_1 < 10)), (by first | rfl | (simp; done) | (simp [*]; done)), H', ⟨by have := HK1.out; first | omega | exact Nat.le_refl _⟩, by repeat (first | exact Drawn0.refl _ | apply Drawn0.step)⟩
    ·
     rw [if_neg c3] at H
     have c3b0 : decide (x6_1 < (a0.size : Int)) = false := decide_eq_false c3
     clear c3
     (first | rw [c3b0] | (simp only [i64_w, i32_w, u8_w, u32_w]; rw [c3b0]) | rw [c3b1] | skip)
     have H' := Aside0.mk H
     clear H
     go_wp2
     go_meet
     case rel => exact ⟨_, (false), (by first | rfl | (simp; done) | (simp [*]; done)), H', ⟨by have := HK1.out; first | omega | exact Nat.le_refl _⟩, by repeat (first | exact Drawn0.refl _ | apply Drawn0.step)⟩
   case rest =>
    clear HC2
    try clear c2
    try clear p2
    try clear c3
    try clear c3b0
    try clear c3b1
    obtain ⟨kq, x14_1, rfl, HA, HJ1, ⟨mc1, rfl⟩⟩ := hcut
    cases kq with
    | zero => exact absurd HA.out (by simp [unisonref03_ReadNumber.j1])
    | succ kj1 =>
     have H := HA.out
     clear HA
     simp only [unisonref03_ReadNumber.j1] at H
     by_cases c4 : x14_1 = true
     ·
      subst c4
      have H1 : (if 0 ≤ x6_1 then (if x6_1 < (a0.size : Int) then (if 0 ≤ x5_1 then (if 0 ≤ (wrap64 ((wrap64 (x6_1 + 1)) - 1)) then (if (wrap64 ((wrap64 (x6_1 + 1)) - 1)) < (a0.size : Int) then (if (bt a0 (wrap64 ((wrap64 (x6_1 + 1)) - 1))) < 128 then (if (Int.tmod (IntKind.u64.wrap (x4_1 + (shl .u64 (IntKind.u64.wrap (Int.tmod (bt a0 x6_1) 128)) x5_1))) 2) = 1 then (some (wrap64 ((wrap64 (-(wrap64 (IntKind.u64.wrap (Int.tdiv (IntKind.u64.wrap (x4_1 + (shl .u64 (IntKind.u64.wrap (Int.tmod (bt a0 x6_1) 128)) x5_1))) 2))))) - 1), wrap64 (x6_1 + 1))) else (some (wrap64 (IntKind.u64.wrap (Int.tdiv (IntKind.u64.wrap (x4_1 + (shl .u64 (IntKind.u64.wrap (Int.tmod (bt a0 x6_1) 128)) x5_1))) 2)), wrap64 (x6_1 + 1)))) else (unisonref03_ReadNumber.l0 kj1 a0 (IntKind.u64.wrap (x4_1 + (shl .u64 (IntKind.u64.wrap (Int.tmod (bt a0 x6_1) 128)) x5_1))) (wrap64 (x5_1 + 7)) (wrap64 (x6_1 + 1)))) else (none)) else (none)) else (none)) else (none)) else (none)) = some (r1, r2) := by rw [if_pos rfl] at H; exact H
      clear H
      have H := H1
      clear H1
      by_cases c5 : 0 ≤ x6_1
      ·
       rw [if_pos c5] at H
       have c5b0 : decide (0 ≤ x6_1) = true := decide_eq_true c5
       clear c5
       by_cases c6 : x6_1 < (a0.size : Int)
       ·
        rw [if_pos c6] at H
        have c6b0 : decide (x6_1 < (a0.size : Int)) = true := decide_eq_true c6
        clear c6
        by_cases c8 : 0 ≤ x5_1
        ·
         rw [if_pos c8] at H
         have c8b0 := eq_true c8
         have c8b1 : decide (0 ≤ x5_1) = true := decide_eq_true c8
         clear c8
         obtain ⟨ji9, hji9⟩ : ∃ j_ : Int, (shl .u64 (IntKind.u64.wrap (Int.tmod (bt a0 x6_1) 128)) x5_1) = j_ := ⟨_, rfl⟩
         replace H : (if 0 ≤ (wrap64 ((wrap64 (x6_1 + 1)) - 1)) then (if (wrap64 ((wrap64 (x6_1 + 1)) - 1)) < (a0.size : Int) then (if (bt a0 (wrap64 ((wrap64 (x6_1 + 1)) - 1))) < 128 then (if (Int.tmod (IntKind.u64.wrap (x4_1 + (ji9))) 2) = 1 then (some (wrap64 ((wrap64 (-(wrap64 (IntKind.u64.wrap (Int.tdiv (IntKind.u64.wrap (x4_1 + (ji9))) 2))))) - 1), wrap64 (x6_1 + 1))) else (some (wrap64 (IntKind.u64.wrap (Int.tdiv (IntKind.u64.wrap (x4_1 + (ji9))) 2)), wrap64 (x6_1 + 1)))) else (unisonref03_ReadNumber.l0 kj1 a0 (IntKind.u64.wrap (x4_1 + (ji9))) (wrap64 (x5_1 + 7)) (wrap64 (x6_1 + 1)))) else (none)) else (none)) = some (r1, r2) := by first | (rw [hji9] at H; exact H) | (simp only [hji9] at H ⊢; exact H)
         have hji9_ : (IntKind.u64.wrap ((IntKind.u64.wrap (Int.tmod (bt a0 x6_1) 128)) * 2 ^ min x5_1.toNat 64)) = ji9 := hji9
         have hji9z : x5_1 ≤ 64 → (IntKind.u64.wrap ((IntKind.u64.wrap (Int.tmod (bt a0 x6_1) 128)) * 2 ^ x5_1.toNat)) = ji9 := shl_small hji9
         (try have hji9y := hji9z (by (try simp only [decide_eq_true_eq, decide_eq_false_iff_not] at *); omega))
         obtain ⟨ji10, hji10⟩ : ∃ j_ : Int, (wrap64 ((wrap64 (x6_1 + 1)) - 1)) = j_ := ⟨_, rfl⟩
         replace H : (if 0 ≤ (ji10) then (if (ji10) < (a0.size : Int) then (if (bt a0 (ji10)) < 128 then (if (Int.tmod (IntKind.u64.wrap (x4_1 + (ji9))) 2) = 1 then (some (wrap64 ((wrap64 (-(wrap64 (IntKind.u64.wrap (Int.tdiv (IntKind.u64.wrap (x4_1 + (ji9))) 2))))) - 1), wrap64 (x6_1 + 1))) else (some (wrap64 (IntKind.u64.wrap (Int.tdiv (IntKind.u64.wrap (x4_1 + (ji9))) 2)), wrap64 (x6_1 + 1)))) else (unisonref03_ReadNumber.l0 kj1 a0 (IntKind.u64.wrap (x4_1 + (ji9))) (wrap64 (x5_1 + 7)) (wrap64 (x6_1 + 1)))) else (none)) else (none)) = some (r1, r2) := by first | (rw [hji10] at H; exact H) | (simp only [hji10] at H ⊢; exact H)
         have hji10w : (IntKind.i64.wrap ((wrap64 (x6_1 + 1)) - 1)) = ji10 := (i64_w _).trans hji10
         by_cases c11 : 0 ≤ (ji10)
         ·
          rw [if_pos c11] at H
          have c11b0 : decide (0 ≤ (ji10)) = true := decide_eq_true c11
          clear c11
          by_cases c12 : (ji10) < (a0.size : Int)
          ·
           rw [if_pos c12] at H
           have c12b0 : decide ((ji10) < (a0.size : Int)) = true := decide_eq_true c12
           clear c12
           by_cases c14 : (bt a0 (ji10)) < 128
           ·
            rw [if_pos c14] at H
            have c14b0 : decide ((bt a0 (ji10)) < 128) = true := decide_eq_true c14
            clear c14
            by_cases c15 : (Int.tmod (IntKind.u64.wrap (x4_1 + (ji9))) 2) = 1
            ·
             rw [if_pos c15] at H
             have c15b0 : ((Int.tmod (IntKind.u64.wrap (x4_1 + (ji9))) 2) == 1) = true := beq_iff_eq.mpr c15
             have c15b1 : ((Int.tmod (IntKind.u64.wrap (x4_1 + (ji9))) 2) != 1) = false := bne_eq_false_iff_eq.mpr c15
             clear c15
             simp only [Option.some.injEq, Prod.mk.injEq] at H
             obtain ⟨rfl, rfl⟩ := H
             have p7 : 0 ≤ (x6_1 : Int) := of_decide_eq_true (by first | (with_reducible assumption) | assumption)
             have q7 : x6_1 < (a0.size : Int) := of_decide_eq_true (by first | (with_reducible assumption) | assumption)
             have hx7 := bt_at a0 x6_1
             replace p7 := eq_true p7
             replace q7 := eq_true q7
             have p13 : 0 ≤ ((ji10) : Int) := of_decide_eq_true (by first | (with_reducible assumption) | assumption)
             have q13 : (ji10) < (a0.size : Int) := of_decide_eq_true (by first | (with_reducible assumption) | assumption)
             have hx13 := bt_at a0 (ji10)
             replace p13 := eq_true p13
             replace q13 := eq_true q13
             go_wp2
             go_ret2
             exact ⟨by first | rfl | (simp; done) | (simp only [← hji9, ← hji10] <;> (first | rfl | simp)) | (simp [*]; done), by repeat (first | exact Drawn0.refl _ | apply Drawn0.step)⟩
            ·
             rw [if_neg c15] at H
             have c15b0 : ((Int.tmod (IntKind.u64.wrap (x4_1 + (ji9))) 2) == 1) = false := beq_eq_false_iff_ne.mpr c15
             have c15b1 : ((Int.tmod (IntKind.u64.wrap (x4_1 + (ji9))) 2) != 1) = true := bne_iff_ne.mpr c15
             simp only [Option.some.injEq, Prod.mk.injEq] at H
             obtain ⟨rfl, rfl⟩ := H
             have p7 : 0 ≤ (x6_1 : Int) := of_decide_eq_true (by first | (with_reducible assumption) | assumption)
             have q7 : x6_1 < (a0.size : Int) := of_decide_eq_true (by first | (with_reducible assumption) | assumption)
             have hx7 := bt_at a0 x6_1
             replace p7 := eq_true p7
             replace q7 := eq_true q7
             have p13 : 0 ≤ ((ji10) : Int) := of_decide_eq_true (by first | (with_reducible assumption) | assumption)
             have q13 : (ji10) < (a0.size : Int) := of_decide_eq_true (by first | (with_reducible assumption) | assumption)
             have hx13 := bt_at a0 (ji10)
             replace p13 := eq_true p13
             replace q13 := eq_true q13
             go_wp2
             go_ret2
             exact ⟨by first | rfl | (simp; done) | (simp only [← hji9, ← hji10] <;> (first | rfl | simp)) | (simp [*]; done), by repeat (first | exact Drawn0.refl _ | apply Drawn0.step)⟩
           ·
            rw [if_neg c14] at H
            have c14b0 : decide ((bt a0 (ji10)) < 128) = false := decide_eq_false c14
            clear c14
            have H' := Aside0.mk H
            clear H
            have p7 : 0 ≤ (x6_1 : Int) := of_decide_eq_true (by first | (with_reducible assumption) | assumption)
            have q7 : x6_1 < (a0.size : Int) := of_decide_eq_true (by first | (with_reducible assumption) | assumption)
            have hx7 := bt_at a0 x6_1
            replace p7 := eq_true p7
            replace q7 := eq_true q7
            have p13 : 0 ≤ ((ji10) : Int) := of_decide_eq_true (by first | (with_reducible assumption) | assumption)
            have q13 : (ji10) < (a0.size : Int) := of_decide_eq_true (by first | (with_reducible assumption) | assumption)
            have hx13 := bt_at a0 (ji10)
            replace p13 := eq_true p13
            replace q13 := eq_true q13
            go_wp2
            go_roundg kj1
            case measure => have := HK1.out; have := HJ1.out; omega
            case rel => exact ⟨(IntKind.u64.wrap (x4_1 + (ji9))), (wrap64 (x5_1 + 7)), (wrap64 (x6_1 + 1)), (by first | rfl | (simp; done) | (simp only [← hji9] <;> (first | rfl | simp)) | (simp [*]; done)), (by first | rfl | (simp; done) | (simp [*]; done)), (by first | rfl | (simp; done) | (simp [*]; done)), H', ⟨by have := HK1.out; have := HJ1.out; omega⟩, by repeat (first | exact Drawn0.refl _ | apply Drawn0.step)⟩
          ·
           rw [if_neg c12] at H
           exact absurd H (by simp)
         ·
          rw [if_neg c11] at H
          exact absurd H (by simp)
        ·
         rw [if_neg c8] at H
         exact absurd H (by simp)
       ·
        rw [if_neg c6] at H
        exact absurd H (by simp)
      ·
       rw [if_neg c5] at H
       exact absurd H (by simp)
     ·
      replace c4 := Bool.eq_false_iff.mpr c4
      subst c4
      have H1 : (if (Int.tmod x4_1 2) = 1 then (some (wrap64 ((wrap64 (-(wrap64 (IntKind.u64.wrap (Int.tdiv x4_1 2))))) - 1), x6_1)) else (some (wrap64 (IntKind.u64.wrap (Int.tdiv x4_1 2)), x6_1))) = some (r1, r2) := by rw [if_neg (show ¬ (false = true) by decide)] at H; exact H
      clear H
      have H := H1
      clear H1
      by_cases c16 : (Int.tmod x4_1 2) = 1
      ·
       rw [if_pos c16] at H
       have c16b0 : ((Int.tmod x4_1 2) == 1) = true := beq_iff_eq.mpr c16
       have c16b1 : ((Int.tmod x4_1 2) != 1) = false := bne_eq_false_iff_eq.mpr c16
       clear c16
       simp only [Option.some.injEq, Prod.mk.injEq] at H
       obtain ⟨rfl, rfl⟩ := H
       go_wp2
       go_ret2
       exact ⟨by first | rfl | (simp; done) | (simp [*]; done), by repeat (first | exact Drawn0.refl _ | apply Drawn0.step)⟩
      ·
       rw [if_neg c16] at H
       have c16b0 : ((Int.tmod x4_1 2) == 1) = false := beq_eq_false_iff_ne.mpr c16
       have c16b1 : ((Int.tmod x4_1 2) != 1) = true := bne_iff_ne.mpr c16
       simp only [Option.some.injEq, Prod.mk.injEq] at H
       obtain ⟨rfl, rfl⟩ := H
       go_wp2
       go_ret2
       exact ⟨by first | rfl | (simp; done) | (simp [*]; done), by repeat (first | exact Drawn0.refl _ | apply Drawn0.step)⟩

end Go.Proofs.Ytlgobbofiingnaa.PA
