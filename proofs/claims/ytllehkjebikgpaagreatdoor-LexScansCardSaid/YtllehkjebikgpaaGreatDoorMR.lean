/- Several texts in one (merge.py): PFRSkipped, PFRDigit, PFRSmall, PFRPart, PFRRun, PFRIsName, PFRNumber, PFRIsWord, PFRText, PFRSign; no conditions beyond those in each theorem's head. -/
import Derived.Test.YtllehkjebikgpaaGreatDoorPAx0
section
namespace Go.Proofs.YtllehkjebikgpaaGreatDoor.PA
open Go.RowKit Go.Proofs.YtllehkjebikgpaaGreatDoorW.PrintWords Go.Proofs.YtllehkjebikgpaaGreatDoorW.PrintLast Go.Proofs.YtllehkjebikgpaaGreatDoorW.PrintMore Go.Proofs.YtllehkjebikgpaaGreatDoorX
attribute [local go_sem] max2_int min2_int max_two min_two max_three min_three max_four min_four   -- for this text's walks alone
set_option linter.unusedVariables false
set_option linter.unusedSimpArgs false


/-! ### unisonref10_skipped: function 11 -/
mutual
def unisonref10_skipped.l0 : Nat → ByteArray → Int → Option (Int)
 | 0, _, _ => none
 | k + 1, x0, x1 => if x1 < (x0.size : Int) then (if (wrap64 (x1 + 1)) < (x0.size : Int) then (if 0 ≤ x1 then (if (bt x0 x1) = 45 then (if 0 ≤ (wrap64 (x1 + 1)) then (unisonref10_skipped.j1 k x0 x1 ((bt x0 (wrap64 (x1 + 1))) == 45)) else (none)) else (unisonref10_skipped.j1 k x0 x1 false)) else (none)) else (unisonref10_skipped.j1 k x0 x1 false)) else (some x1)
def unisonref10_skipped.j1 : Nat → ByteArray → Int → Bool → Option (Int)
 | 0, _, _, _ => none
 | k + 1, x0, x1, x26 => if x26 = true then (unisonref10_skipped.l1 k x0 x1) else (if 0 ≤ x1 then (if x1 < (x0.size : Int) then (if (bt x0 x1) = 32 then (unisonref10_skipped.l0 k x0 (wrap64 (x1 + 1))) else (if (bt x0 x1) = 9 then (unisonref10_skipped.l0 k x0 (wrap64 (x1 + 1))) else (if (bt x0 x1) = 10 then (unisonref10_skipped.l0 k x0 (wrap64 (x1 + 1))) else (some x1)))) else (none)) else (none))
def unisonref10_skipped.l1 : Nat → ByteArray → Int → Option (Int)
 | 0, _, _ => none
 | k + 1, x0, x1 => if x1 < (x0.size : Int) then (if 0 ≤ x1 then (if (bt x0 x1) = 10 then (unisonref10_skipped.l0 k x0 x1) else (unisonref10_skipped.l1 k x0 (wrap64 (x1 + 1)))) else (none)) else (unisonref10_skipped.l0 k x0 x1)
end
def unisonref10_skipped.f (k : Nat) (a0 : ByteArray) (a1 : Int) : Option (Int) := unisonref10_skipped.l0 k a0 a1
theorem unisonref10_skipped.mono_l : ∀ k, (∀ y0 y1, LeO (unisonref10_skipped.l0 k y0 y1) (unisonref10_skipped.l0 (k + 1) y0 y1)) ∧ (∀ y0 y1 y2, LeO (unisonref10_skipped.j1 k y0 y1 y2) (unisonref10_skipped.j1 (k + 1) y0 y1 y2)) ∧ (∀ y0 y1, LeO (unisonref10_skipped.l1 k y0 y1) (unisonref10_skipped.l1 (k + 1) y0 y1))
 | 0 => ⟨fun _ _ r h => by simp [unisonref10_skipped.l0] at h, fun _ _ _ r h => by simp [unisonref10_skipped.j1] at h, fun _ _ r h => by simp [unisonref10_skipped.l1] at h⟩
 | k + 1 => by
  obtain ⟨ih0, ih1, ih2⟩ := unisonref10_skipped.mono_l k
  refine ⟨?_, ?_, ?_⟩
  ·
   intro y0 y1
   unfold unisonref10_skipped.l0
   repeat' first
   | (with_reducible exact ih0 _ _)
   | (with_reducible exact ih1 _ _ _)
   | (with_reducible exact ih2 _ _)
   | (with_reducible exact LeO.refl _)
   | (with_reducible exact LeO.none _)
   | (with_reducible refine LeO.ite ?_ ?_)
   | (with_reducible refine LeO.bind ?_ (fun _ => ?_))
   | exact ih0 _ _
   | exact ih1 _ _ _
   | exact ih2 _ _
   | exact LeO.none _
   | refine LeO.ite ?_ ?_
   | refine LeO.bind ?_ (fun _ => ?_)
  ·
   intro y0 y1 y2
   unfold unisonref10_skipped.j1
   repeat' first
   | (with_reducible exact ih0 _ _)
   | (with_reducible exact ih1 _ _ _)
   | (with_reducible exact ih2 _ _)
   | (with_reducible exact LeO.refl _)
   | (with_reducible exact LeO.none _)
   | (with_reducible refine LeO.ite ?_ ?_)
   | (with_reducible refine LeO.bind ?_ (fun _ => ?_))
   | exact ih0 _ _
   | exact ih1 _ _ _
   | exact ih2 _ _
   | exact LeO.none _
   | refine LeO.ite ?_ ?_
   | refine LeO.bind ?_ (fun _ => ?_)
  ·
   intro y0 y1
   unfold unisonref10_skipped.l1
   repeat' first
   | (with_reducible exact ih0 _ _)
   | (with_reducible exact ih1 _ _ _)
   | (with_reducible exact ih2 _ _)
   | (with_reducible exact LeO.refl _)
   | (with_reducible exact LeO.none _)
   | (with_reducible refine LeO.ite ?_ ?_)
   | (with_reducible refine LeO.bind ?_ (fun _ => ?_))
   | exact ih0 _ _
   | exact ih1 _ _ _
   | exact ih2 _ _
   | exact LeO.none _
   | refine LeO.ite ?_ ?_
   | refine LeO.bind ?_ (fun _ => ?_)
theorem unisonref10_skipped.mono : ∀ a0 a1 k, LeO (unisonref10_skipped.f k a0 a1) (unisonref10_skipped.f (k + 1) a0 a1) := by
 intro a0 a1 k
 obtain ⟨ih0, ih1, ih2⟩ := unisonref10_skipped.mono_l k
 unfold unisonref10_skipped.f
 repeat' first
   | (with_reducible exact ih0 _ _)
   | (with_reducible exact ih1 _ _ _)
   | (with_reducible exact ih2 _ _)
   | (with_reducible exact LeO.refl _)
   | (with_reducible exact LeO.none _)
   | (with_reducible refine LeO.ite ?_ ?_)
   | (with_reducible refine LeO.bind ?_ (fun _ => ?_))
   | exact ih0 _ _
   | exact ih1 _ _ _
   | exact ih2 _ _
   | exact LeO.none _
   | refine LeO.ite ?_ ?_
   | refine LeO.bind ?_ (fun _ => ?_)
set_option maxHeartbeats 8000000 in
set_option maxRecDepth 100000 in
theorem unisonref10_skipped.calls (k : Nat) (a0 : ByteArray) (a1 : Int) (r : Int) (w : World) (h : unisonref10_skipped.f k a0 a1 = some r) :
  Calls Tryz.prog 11 #[.string a0, .int .i64 a1] w fun e w' => e = .returned (.int .i64 r) ∧ Drawn0 w w' := by
 have H : (unisonref10_skipped.l0 k a0 a1) = some r := h; clear h
 have H' := Aside0.mk H
 clear H
 go_enter Tryz.func11, Tryz.ntmps11
 go_wp2
 go_loopg [1] k (fun kq v1 w' => ∃ (x1_1 : Int), v1 = .int .i64 x1_1 ∧ Aside0 (unisonref10_skipped.l0 kq a0 x1_1 = some r) ∧ Aside0 (kq ≤ k) ∧ Drawn0 w w')
 case atStart => exact ⟨(a1), (by first | rfl | (simp; done) | (simp [*]; done)), H', ⟨Nat.le_refl _⟩, by repeat (first | exact Drawn0.refl _ | apply Drawn0.step)⟩
 case round =>
  clear H'
  (try clear c1); (try clear p2)
  obtain ⟨x1_1, rfl, HA, HK1, ⟨m1, rfl⟩⟩ := hrel
  cases gk with
  | zero => exact absurd HA.out (by simp [unisonref10_skipped.l0])
  | succ k1 =>
   have H := HA.out; clear HA
   simp only [unisonref10_skipped.l0] at H
   by_cases c3 : x1_1 < (a0.size : Int)
   ·
    rw [if_pos c3] at H
    have c3b0 : decide (x1_1 < (a0.size : Int)) = true := decide_eq_true c3; clear c3; have HC4 := Aside0.mk H; clear H
    go_upto_region 2 with (fail)
    go_cut [26] (fun v26 wc => ∃ (kq : Nat) (x26_3 : Bool), v26 = .bool x26_3 ∧ Aside0 (unisonref10_skipped.j1 kq a0 x1_1 x26_3 = some r) ∧ Aside0 (kq ≤ k1) ∧ Drawn0 w wc)
    case first =>
     have H := HC4.out; clear HC4
     by_cases c5 : (wrap64 (x1_1 + 1)) < (a0.size : Int)
     ·
      rw [if_pos c5] at H
      have c5b0 : decide ((wrap64 (x1_1 + 1)) < (a0.size : Int)) = true := decide_eq_true c5; clear c5
      (first | rw [c5b0] | (simp only [i64_w, i32_w, u8_w, u32_w]; rw [c5b0]) | rw [c5b1] | skip)
      by_cases c6 : 0 ≤ x1_1
      ·
       rw [if_pos c6] at H
       have c6b0 : decide (0 ≤ x1_1) = true := decide_eq_true c6; clear c6
       by_cases c8 : (bt a0 x1_1) = 45
       ·
        rw [if_pos c8] at H
        have c8b0 : ((bt a0 x1_1) == 45) = true := beq_iff_eq.mpr c8; have c8b1 : ((bt a0 x1_1) != 45) = false := bne_eq_false_iff_eq.mpr c8; clear c8
        obtain ⟨ji9, hji9⟩ : ∃ j_ : Int, (wrap64 (x1_1 + 1)) = j_ := ⟨_, rfl⟩
        replace H : (if 0 ≤ (ji9) then (unisonref10_skipped.j1 k1 a0 x1_1 ((bt a0 (ji9)) == 45)) else (none)) = some r := by first | (rw [hji9] at H; exact H) | (simp only [hji9] at H ⊢; exact H)
        (try rw [hji9] at c5b0)
        have hji9w : (IntKind.i64.wrap (x1_1 + 1)) = ji9 := (i64_w _).trans hji9
        by_cases c10 : 0 ≤ (ji9)
        ·
         rw [if_pos c10] at H
         have c10b0 : decide (0 ≤ (ji9)) = true := decide_eq_true c10; clear c10
         have H' := Aside0.mk H
         clear H; have p7 : 0 ≤ (x1_1 : Int) := of_decide_eq_true (by first | (with_reducible assumption) | assumption); have q7 : x1_1 < (a0.size : Int) := of_decide_eq_true (by first | (with_reducible assumption) | assumption); have hx7 := bt_at a0 x1_1; replace p7 := eq_true p7; replace q7 := eq_true q7; have p11 : 0 ≤ ((ji9) : Int) := of_decide_eq_true (by first | (with_reducible assumption) | assumption); have q11 : (ji9) < (a0.size : Int) := of_decide_eq_true (by first | (with_reducible assumption) | assumption); have hx11 := bt_at a0 (ji9); replace p11 := eq_true p11; replace q11 := eq_true q11
         go_wp2
         go_meet
         case rel => exact ⟨_, (((bt a0 (ji9)) == 45)), (by first | rfl | (simp; done) | (simp only [← hji9] <;> (first | rfl | simp)) | (simp [*]; done)), H', ⟨by have := HK1.out; first | omega | exact Nat.le_refl _⟩, by repeat (first | exact Drawn0.refl _ | apply Drawn0.step)⟩
        ·
         rw [if_neg c10] at H
         exact absurd H (by simp)
       ·
        rw [if_neg c8] at H
        have c8b0 : ((bt a0 x1_1) == 45) = false := beq_eq_false_iff_ne.mpr c8; have c8b1 : ((bt a0 x1_1) != 45) = true := bne_iff_ne.mpr c8
        have H' := Aside0.mk H
        clear H; have p7 : 0 ≤ (x1_1 : Int) := of_decide_eq_true (by first | (with_reducible assumption) | assumption); have q7 : x1_1 < (a0.size : Int) := of_decide_eq_true (by first | (with_reducible assumption) | assumption); have hx7 := bt_at a0 x1_1; replace p7 := eq_true p7; replace q7 := eq_true q7
        go_wp2
        go_meet
        case rel => exact ⟨_, (false), (by first | rfl | (simp; done) | (simp [*]; done)), H', ⟨by have := HK1.out; first | omega | exact Nat.le_refl _⟩, by repeat (first | exact Drawn0.refl _ | apply Drawn0.step)⟩
      ·
       rw [if_neg c6] at H
       exact absurd H (by simp)
     ·
      rw [if_neg c5] at H
      have c5b0 : decide ((wrap64 (x1_1 + 1)) < (a0.size : Int)) = false := decide_eq_false c5; clear c5
      (first | rw [c5b0] | (simp only [i64_w, i32_w, u8_w, u32_w]; rw [c5b0]) | rw [c5b1] | skip)
      have H' := Aside0.mk H
      clear H
      go_wp2
      go_meet
      case rel => exact ⟨_, (false), (by first | rfl | (simp; done) | (simp [*]; done)), H', ⟨by have := HK1.out; first | omega | exact Nat.le_refl _⟩, by repeat (first | exact Drawn0.refl _ | apply Drawn0.step)⟩
    case rest =>
     clear HC4; (try clear c1); (try clear p1); (try clear q1); (try clear hx1); (try clear p2); (try clear c3); (try clear c3b0); (try clear c5); (try clear c5b0); (try clear c5b1); (try clear c6); (try clear c6b0); (try clear p6); (try clear p7); (try clear q7); (try clear hx7); (try clear c8); (try clear c8b0); (try clear c8b1); (try clear c10); (try clear c10b0); (try clear c11); (try clear p11); (try clear q11); (try clear hx11); (try clear p11); (try clear p2); (try clear p7); (try clear q11); (try clear q7)
     obtain ⟨kq, x26_3, rfl, HA, HJ3, ⟨mc3, rfl⟩⟩ := hcut
     cases kq with
     | zero => exact absurd HA.out (by simp [unisonref10_skipped.j1])
     | succ kj3 =>
      have H := HA.out; clear HA
      simp only [unisonref10_skipped.j1] at H
      by_cases c12 : x26_3 = true
      ·
       subst c12
       have H1 : (unisonref10_skipped.l1 kj3 a0 x1_1) = some r := by rw [if_pos rfl] at H; exact H
       clear H; have H := H1; clear H1
       have H' := Aside0.mk H
       clear H
       go_wp2
       go_loopg [1] kj3 (fun kq v1 w' => ∃ (x1_3 : Int), v1 = .int .i64 x1_3 ∧ Aside0 (unisonref10_skipped.l1 kq a0 x1_3 = some r) ∧ Aside0 (kq ≤ kj3) ∧ Drawn0 w w')
       case atStart => exact ⟨(x1_1), (by first | rfl | (simp; done) | (simp [*]; done)), H', ⟨Nat.le_refl _⟩, by repeat (first | exact Drawn0.refl _ | apply Drawn0.step)⟩
       case round =>
        clear H'
        (try clear c1); (try clear p1); (try clear q1); (try clear hx1); (try clear p2); (try clear c3); (try clear c3b0); (try clear c5); (try clear c5b0); (try clear c5b1); (try clear c6); (try clear c6b0); (try clear p6); (try clear p7); (try clear q7); (try clear hx7); (try clear c8); (try clear c8b0); (try clear c8b1); (try clear c10); (try clear c10b0); (try clear c11); (try clear p11); (try clear q11); (try clear hx11); (try clear c12); (try clear p1); (try clear p11); (try clear p2); (try clear p6); (try clear p7); (try clear q1); (try clear q11); (try clear q7)
        obtain ⟨x1_3, rfl, HA, HK3, ⟨m3, rfl⟩⟩ := hrel
        cases gk with
        | zero => exact absurd HA.out (by simp [unisonref10_skipped.l1])
        | succ k3 =>
         have H := HA.out; clear HA
         simp only [unisonref10_skipped.l1] at H
         by_cases c13 : x1_3 < (a0.size : Int)
         ·
          rw [if_pos c13] at H
          have c13b0 : decide (x1_3 < (a0.size : Int)) = true := decide_eq_true c13; clear c13
          by_cases c14 : 0 ≤ x1_3
          ·
           rw [if_pos c14] at H
           have c14b0 : decide (0 ≤ x1_3) = true := decide_eq_true c14; clear c14
           by_cases c16 : (bt a0 x1_3) = 10
           ·
            rw [if_pos c16] at H
            have c16b0 : ((bt a0 x1_3) == 10) = true := beq_iff_eq.mpr c16; have c16b1 : ((bt a0 x1_3) != 10) = false := bne_eq_false_iff_eq.mpr c16; clear c16
            have H' := Aside0.mk H
            clear H; have p15 : 0 ≤ (x1_3 : Int) := of_decide_eq_true (by first | (with_reducible assumption) | assumption); have q15 : x1_3 < (a0.size : Int) := of_decide_eq_true (by first | (with_reducible assumption) | assumption); have hx15 := bt_at a0 x1_3; replace p15 := eq_true p15; replace q15 := eq_true q15
            go_wp2
            go_roundg k3
            case measure => have := HK1.out; have := HJ3.out; have := HK3.out; omega
            case rel => exact ⟨(x1_3), (by first | rfl | (simp; done) | (simp [*]; done)), H', ⟨by have := HK1.out; have := HJ3.out; have := HK3.out; omega⟩, by repeat (first | exact Drawn0.refl _ | apply Drawn0.step)⟩
           ·
            rw [if_neg c16] at H
            have c16b0 : ((bt a0 x1_3) == 10) = false := beq_eq_false_iff_ne.mpr c16; have c16b1 : ((bt a0 x1_3) != 10) = true := bne_iff_ne.mpr c16
            have H' := Aside0.mk H
            clear H; have p15 : 0 ≤ (x1_3 : Int) := of_decide_eq_true (by first | (with_reducible assumption) | assumption); have q15 : x1_3 < (a0.size : Int) := of_decide_eq_true (by first | (with_reducible assumption) | assumption); have hx15 := bt_at a0 x1_3; replace p15 := eq_true p15; replace q15 := eq_true q15
            go_wp2
            go_roundg k3
            case measure => have := HK1.out; have := HJ3.out; have := HK3.out; omega
            case rel => exact ⟨(wrap64 (x1_3 + 1)), (by first | rfl | (simp; done) | (simp [*]; done)), H', ⟨by have := HK1.out; have := HJ3.out; have := HK3.out; omega⟩, by repeat (first | exact Drawn0.refl _ | apply Drawn0.step)⟩
          ·
           rw [if_neg c14] at H
           exact absurd H (by simp)
         ·
          rw [if_neg c13] at H
          have c13b0 : decide (x1_3 < (a0.size : Int)) = false := decide_eq_false c13; clear c13
          have H' := Aside0.mk H
          clear H
          go_wp2
          go_roundg k3
          case measure => have := HK1.out; have := HJ3.out; have := HK3.out; omega
          case rel => exact ⟨(x1_3), (by first | rfl | (simp; done) | (simp [*]; done)), H', ⟨by have := HK1.out; have := HJ3.out; have := HK3.out; omega⟩, by repeat (first | exact Drawn0.refl _ | apply Drawn0.step)⟩
      ·
       replace c12 := Bool.eq_false_iff.mpr c12
       subst c12
       have H1 : (if 0 ≤ x1_1 then (if x1_1 < (a0.size : Int) then (if (bt a0 x1_1) = 32 then (unisonref10_skipped.l0 kj3 a0 (wrap64 (x1_1 + 1))) else (if (bt a0 x1_1) = 9 then (unisonref10_skipped.l0 kj3 a0 (wrap64 (x1_1 + 1))) else (if (bt a0 x1_1) = 10 then (unisonref10_skipped.l0 kj3 a0 (wrap64 (x1_1 + 1))) else (some x1_1)))) else (none)) else (none)) = some r := by rw [if_neg (show ¬ (false = true) by decide)] at H; exact H
       clear H; have H := H1; clear H1
       by_cases c17 : 0 ≤ x1_1
       ·
        rw [if_pos c17] at H
        have c17b0 : decide (0 ≤ x1_1) = true := decide_eq_true c17; clear c17
        by_cases c18 : x1_1 < (a0.size : Int)
        ·
         rw [if_pos c18] at H
         have c18b0 : decide (x1_1 < (a0.size : Int)) = true := decide_eq_true c18; clear c18
         by_cases c20 : (bt a0 x1_1) = 32
         ·
          rw [if_pos c20] at H
          have c20b0 : ((bt a0 x1_1) == 32) = true := beq_iff_eq.mpr c20; have c20b1 : ((bt a0 x1_1) != 32) = false := bne_eq_false_iff_eq.mpr c20; clear c20
          have H' := Aside0.mk H
          clear H; have p19 : 0 ≤ (x1_1 : Int) := of_decide_eq_true (by first | (with_reducible assumption) | assumption); have q19 : x1_1 < (a0.size : Int) := of_decide_eq_true (by first | (with_reducible assumption) | assumption); have hx19 := bt_at a0 x1_1; replace p19 := eq_true p19; replace q19 := eq_true q19
          go_wp2
          go_roundg kj3
          case measure => have := HK1.out; have := HJ3.out; omega
          case rel => exact ⟨(wrap64 (x1_1 + 1)), (by first | rfl | (simp; done) | (simp [*]; done)), H', ⟨by have := HK1.out; have := HJ3.out; omega⟩, by repeat (first | exact Drawn0.refl _ | apply Drawn0.step)⟩
         ·
          rw [if_neg c20] at H
          have c20b0 : ((bt a0 x1_1) == 32) = false := beq_eq_false_iff_ne.mpr c20; have c20b1 : ((bt a0 x1_1) != 32) = true := bne_iff_ne.mpr c20
          by_cases c22 : (bt a0 x1_1) = 9
          ·
           rw [if_pos c22] at H
           have c22b0 : ((bt a0 x1_1) == 9) = true := beq_iff_eq.mpr c22; have c22b1 : ((bt a0 x1_1) != 9) = false := bne_eq_false_iff_eq.mpr c22; clear c22
           have H' := Aside0.mk H
           clear H; have p19 : 0 ≤ (x1_1 : Int) := of_decide_eq_true (by first | (with_reducible assumption) | assumption); have q19 : x1_1 < (a0.size : Int) := of_decide_eq_true (by first | (with_reducible assumption) | assumption); have hx19 := bt_at a0 x1_1; replace p19 := eq_true p19; replace q19 := eq_true q19; have p21 : 0 ≤ (x1_1 : Int) := of_decide_eq_true (by first | (with_reducible assumption) | assumption); have q21 : x1_1 < (a0.size : Int) := of_decide_eq_true (by first | (with_reducible assumption) | assumption); have hx21 := bt_at a0 x1_1; replace p21 := eq_true p21; replace q21 := eq_true q21
           go_wp2
           go_roundg kj3
           case measure => have := HK1.out; have := HJ3.out; omega
           case rel => exact ⟨(wrap64 (x1_1 + 1)), (by first | rfl | (simp; done) | (simp [*]; done)), H', ⟨by have := HK1.out; have := HJ3.out; omega⟩, by repeat (first | exact Drawn0.refl _ | apply Drawn0.step)⟩
          ·
           rw [if_neg c22] at H
           have c22b0 : ((bt a0 x1_1) == 9) = false := beq_eq_false_iff_ne.mpr c22; have c22b1 : ((bt a0 x1_1) != 9) = true := bne_iff_ne.mpr c22
           by_cases c24 : (bt a0 x1_1) = 10
           ·
            rw [if_pos c24] at H
            have c24b0 : ((bt a0 x1_1) == 10) = true := beq_iff_eq.mpr c24; have c24b1 : ((bt a0 x1_1) != 10) = false := bne_eq_false_iff_eq.mpr c24; clear c24
            have H' := Aside0.mk H
            clear H; have p19 : 0 ≤ (x1_1 : Int) := of_decide_eq_true (by first | (with_reducible assumption) | assumption); have q19 : x1_1 < (a0.size : Int) := of_decide_eq_true (by first | (with_reducible assumption) | assumption); have hx19 := bt_at a0 x1_1; replace p19 := eq_true p19; replace q19 := eq_true q19; have p21 : 0 ≤ (x1_1 : Int) := of_decide_eq_true (by first | (with_reducible assumption) | assumption); have q21 : x1_1 < (a0.size : Int) := of_decide_eq_true (by first | (with_reducible assumption) | assumption); have hx21 := bt_at a0 x1_1; replace p21 := eq_true p21; replace q21 := eq_true q21; have p23 : 0 ≤ (x1_1 : Int) := of_decide_eq_true (by first | (with_reducible assumption) | assumption); have q23 : x1_1 < (a0.size : Int) := of_decide_eq_true (by first | (with_reducible assumption) | assumption); have hx23 := bt_at a0 x1_1; replace p23 := eq_true p23; replace q23 := eq_true q23
            go_wp2
            go_roundg kj3
            case measure => have := HK1.out; have := HJ3.out; omega
            case rel => exact ⟨(wrap64 (x1_1 + 1)), (by first | rfl | (simp; done) | (simp [*]; done)), H', ⟨by have := HK1.out; have := HJ3.out; omega⟩, by repeat (first | exact Drawn0.refl _ | apply Drawn0.step)⟩
           ·
            rw [if_neg c24] at H
            have c24b0 : ((bt a0 x1_1) == 10) = false := beq_eq_false_iff_ne.mpr c24; have c24b1 : ((bt a0 x1_1) != 10) = true := bne_iff_ne.mpr c24
            obtain rfl := Option.some.inj H
            have p19 : 0 ≤ (x1_1 : Int) := of_decide_eq_true (by first | (with_reducible assumption) | assumption); have q19 : x1_1 < (a0.size : Int) := of_decide_eq_true (by first | (with_reducible assumption) | assumption); have hx19 := bt_at a0 x1_1; replace p19 := eq_true p19; replace q19 := eq_true q19; have p21 : 0 ≤ (x1_1 : Int) := of_decide_eq_true (by first | (with_reducible assumption) | assumption); have q21 : x1_1 < (a0.size : Int) := of_decide_eq_true (by first | (with_reducible assumption) | assumption); have hx21 := bt_at a0 x1_1; replace p21 := eq_true p21; replace q21 := eq_true q21; have p23 : 0 ≤ (x1_1 : Int) := of_decide_eq_true (by first | (with_reducible assumption) | assumption); have q23 : x1_1 < (a0.size : Int) := of_decide_eq_true (by first | (with_reducible assumption) | assumption); have hx23 := bt_at a0 x1_1; replace p23 := eq_true p23; replace q23 := eq_true q23
            go_wp2
            go_ret
            exact ⟨by first | rfl | (simp; done) | (simp [*]; done), by repeat (first | exact Drawn0.refl _ | apply Drawn0.step)⟩
        ·
         rw [if_neg c18] at H
         exact absurd H (by simp)
       ·
        rw [if_neg c17] at H
        exact absurd H (by simp)
   ·
    rw [if_neg c3] at H
    have c3b0 : decide (x1_1 < (a0.size : Int)) = false := decide_eq_false c3; clear c3
    obtain rfl := Option.some.inj H
    go_wp2
    go_ret
    exact ⟨by first | rfl | (simp; done) | (simp [*]; done), by repeat (first | exact Drawn0.refl _ | apply Drawn0.step)⟩
end Go.Proofs.YtllehkjebikgpaaGreatDoor.PA
end
section
namespace Go.Proofs.YtllehkjebikgpaaGreatDoor.PA
open Go.RowKit Go.Proofs.YtllehkjebikgpaaGreatDoorW.PrintWords Go.Proofs.YtllehkjebikgpaaGreatDoorW.PrintLast Go.Proofs.YtllehkjebikgpaaGreatDoorW.PrintMore Go.Proofs.YtllehkjebikgpaaGreatDoorX
attribute [local go_sem] max2_int min2_int max_two min_two max_three min_three max_four min_four   -- for this text's walks alone
set_option linter.unusedVariables false
set_option linter.unusedSimpArgs false
/-! ### unisonref10_digit: function 34 -/
def unisonref10_digit.f (a0 : Int) : Option (Bool) := if a0 ≥ 48 then (some (decide (a0 ≤ 57))) else (some false)
set_option maxHeartbeats 8000000 in
set_option maxRecDepth 100000 in
theorem unisonref10_digit.calls (a0 : Int) (r : Bool) (w : World) (h : unisonref10_digit.f a0 = some r) :
  Calls Tryz.prog 34 #[.int .u8 a0] w fun e w' => e = .returned (.bool r) ∧ Drawn0 w w' := by
 have H : (if a0 ≥ 48 then (some (decide (a0 ≤ 57))) else (some false)) = some r := h; clear h
 by_cases c2 : a0 ≥ 48
 ·
  rw [if_pos c2] at H
  have c2b0 : decide (48 ≤ a0) = true := decide_eq_true c2; clear c2
  obtain rfl := Option.some.inj H
  go_enter Tryz.func34, Tryz.ntmps34
  go_wp2
  go_ret
  exact ⟨by first | rfl | (simp; done) | (simp [*]; done), by repeat (first | exact Drawn0.refl _ | apply Drawn0.step)⟩
 ·
  rw [if_neg c2] at H
  have c2b0 : decide (48 ≤ a0) = false := decide_eq_false c2; clear c2
  obtain rfl := Option.some.inj H
  go_enter Tryz.func34, Tryz.ntmps34
  go_wp2
  go_ret
  exact ⟨by first | rfl | (simp; done) | (simp [*]; done), by repeat (first | exact Drawn0.refl _ | apply Drawn0.step)⟩
end Go.Proofs.YtllehkjebikgpaaGreatDoor.PA
end
section
namespace Go.Proofs.YtllehkjebikgpaaGreatDoor.PA
open Go.RowKit Go.Proofs.YtllehkjebikgpaaGreatDoorW.PrintWords Go.Proofs.YtllehkjebikgpaaGreatDoorW.PrintLast Go.Proofs.YtllehkjebikgpaaGreatDoorW.PrintMore Go.Proofs.YtllehkjebikgpaaGreatDoorX
attribute [local go_sem] max2_int min2_int max_two min_two max_three min_three max_four min_four   -- for this text's walks alone
set_option linter.unusedVariables false
set_option linter.unusedSimpArgs false

/-! ### unisonref10_small: function 37 -/
def unisonref10_small.f (a0 : Int) : Option (Bool) := if a0 ≥ 97 then (some (decide (a0 ≤ 122))) else (some false)
set_option maxHeartbeats 8000000 in
set_option maxRecDepth 100000 in
theorem unisonref10_small.calls (a0 : Int) (r : Bool) (w : World) (h : unisonref10_small.f a0 = some r) :
  Calls Tryz.prog 37 #[.int .u8 a0] w fun e w' => e = .returned (.bool r) ∧ Drawn0 w w' := by
 have H : (if a0 ≥ 97 then (some (decide (a0 ≤ 122))) else (some false)) = some r := h; clear h
 by_cases c2 : a0 ≥ 97
 ·
  rw [if_pos c2] at H
  have c2b0 : decide (97 ≤ a0) = true := decide_eq_true c2; clear c2
  obtain rfl := Option.some.inj H
  go_enter Tryz.func37, Tryz.ntmps37
  go_wp2
  go_ret
  exact ⟨by first | rfl | (simp; done) | (simp [*]; done), by repeat (first | exact Drawn0.refl _ | apply Drawn0.step)⟩
 ·
  rw [if_neg c2] at H
  have c2b0 : decide (97 ≤ a0) = false := decide_eq_false c2; clear c2
  obtain rfl := Option.some.inj H
  go_enter Tryz.func37, Tryz.ntmps37
  go_wp2
  go_ret
  exact ⟨by first | rfl | (simp; done) | (simp [*]; done), by repeat (first | exact Drawn0.refl _ | apply Drawn0.step)⟩
end Go.Proofs.YtllehkjebikgpaaGreatDoor.PA
end
section
namespace Go.Proofs.YtllehkjebikgpaaGreatDoor.PA
open Go.RowKit Go.Proofs.YtllehkjebikgpaaGreatDoorW.PrintWords Go.Proofs.YtllehkjebikgpaaGreatDoorW.PrintLast Go.Proofs.YtllehkjebikgpaaGreatDoorW.PrintMore Go.Proofs.YtllehkjebikgpaaGreatDoorX
attribute [local go_sem] max2_int min2_int max_two min_two max_three min_three max_four min_four   -- for this text's walks alone
set_option linter.unusedVariables false
set_option linter.unusedSimpArgs false
/-! ### unisonref10_part: function 33 -/
def unisonref10_part.f (a0 : Int) : Option (Bool) := (unisonref10_small.f a0).bind fun t101 => ((unisonref10_digit.f a0).bind fun t102 => (if t101 = true then (some true) else (if t102 = true then (some true) else (if a0 = 95 then (some true) else (if a0 ≥ 65 then (some (decide (a0 ≤ 90))) else (some false))))))
set_option maxHeartbeats 8000000 in
set_option maxRecDepth 100000 in
theorem unisonref10_part.calls (a0 : Int) (r : Bool) (w : World) (h : unisonref10_part.f a0 = some r) :
  Calls Tryz.prog 33 #[.int .u8 a0] w fun e w' => e = .returned (.bool r) ∧ Drawn0 w w' := by
 have H : ((unisonref10_small.f a0).bind fun t101 => ((unisonref10_digit.f a0).bind fun t102 => (if t101 = true then (some true) else (if t102 = true then (some true) else (if a0 = 95 then (some true) else (if a0 ≥ 65 then (some (decide (a0 ≤ 90))) else (some false))))))) = some r := h; clear h; replace H := Option.bind_eq_some_iff.mp H
 obtain ⟨t101, A20, H⟩ := H
 replace H : ((unisonref10_digit.f a0).bind fun t102 => (if t101 = true then (some true) else (if t102 = true then (some true) else (if a0 = 95 then (some true) else (if a0 ≥ 65 then (some (decide (a0 ≤ 90))) else (some false)))))) = some r := H; have A2 := Aside0.mk A20; clear A20; replace H := Option.bind_eq_some_iff.mp H
 obtain ⟨t102, A30, H⟩ := H
 replace H : (if t101 = true then (some true) else (if t102 = true then (some true) else (if a0 = 95 then (some true) else (if a0 ≥ 65 then (some (decide (a0 ≤ 90))) else (some false))))) = some r := H; have A3 := Aside0.mk A30; clear A30
 by_cases c4 : t101 = true
 ·
  subst c4
  have H1 : (some true) = some r := by rw [if_pos rfl] at H; exact H
  clear H; have H := H1; clear H1
  obtain rfl := Option.some.inj H
  go_enter Tryz.func33, Tryz.ntmps33
  go_wp2_with (first | ((with_reducible refine gate_callee (f := 37) rfl ?_); refine gL (some 6) Tryz.func37 #[.int .u8 a0] ?_; (with_reducible refine (unisonref10_small.calls a0 true _ A2.out).mono ?_); rintro e w' ⟨rfl, ⟨nd, rfl⟩⟩; refine ⟨_, rfl, ?_⟩) | ((with_reducible refine gate_callee (f := 34) rfl ?_); refine gL (some 8) Tryz.func34 #[.int .u8 a0] ?_; (with_reducible refine (unisonref10_digit.calls a0 t102 _ A3.out).mono ?_); rintro e w' ⟨rfl, ⟨nd, rfl⟩⟩; refine ⟨_, rfl, ?_⟩))
  go_ret
  exact ⟨by first | rfl | (simp; done) | (simp [*]; done), by repeat (first | exact Drawn0.refl _ | apply Drawn0.step)⟩
 ·
  replace c4 := Bool.eq_false_iff.mpr c4
  subst c4
  have H1 : (if t102 = true then (some true) else (if a0 = 95 then (some true) else (if a0 ≥ 65 then (some (decide (a0 ≤ 90))) else (some false)))) = some r := by rw [if_neg (show ¬ (false = true) by decide)] at H; exact H
  clear H; have H := H1; clear H1
  by_cases c5 : t102 = true
  ·
   subst c5
   have H1 : (some true) = some r := by rw [if_pos rfl] at H; exact H
   clear H; have H := H1; clear H1
   obtain rfl := Option.some.inj H
   go_enter Tryz.func33, Tryz.ntmps33
   go_wp2_with (first | ((with_reducible refine gate_callee (f := 37) rfl ?_); refine gL (some 6) Tryz.func37 #[.int .u8 a0] ?_; (with_reducible refine (unisonref10_small.calls a0 false _ A2.out).mono ?_); rintro e w' ⟨rfl, ⟨nd, rfl⟩⟩; refine ⟨_, rfl, ?_⟩) | ((with_reducible refine gate_callee (f := 34) rfl ?_); refine gL (some 8) Tryz.func34 #[.int .u8 a0] ?_; (with_reducible refine (unisonref10_digit.calls a0 true _ A3.out).mono ?_); rintro e w' ⟨rfl, ⟨nd, rfl⟩⟩; refine ⟨_, rfl, ?_⟩))
   go_ret
   exact ⟨by first | rfl | (simp; done) | (simp [*]; done), by repeat (first | exact Drawn0.refl _ | apply Drawn0.step)⟩
  ·
   replace c5 := Bool.eq_false_iff.mpr c5
   subst c5
   have H1 : (if a0 = 95 then (some true) else (if a0 ≥ 65 then (some (decide (a0 ≤ 90))) else (some false))) = some r := by rw [if_neg (show ¬ (false = true) by decide)] at H; exact H
   clear H; have H := H1; clear H1
   by_cases c6 : a0 = 95
   ·
    rw [if_pos c6] at H
    have c6b0 : (a0 == 95) = true := beq_iff_eq.mpr c6; have c6b1 : (a0 != 95) = false := bne_eq_false_iff_eq.mpr c6; clear c6
    obtain rfl := Option.some.inj H
    go_enter Tryz.func33, Tryz.ntmps33
    go_wp2_with (first | ((with_reducible refine gate_callee (f := 37) rfl ?_); refine gL (some 6) Tryz.func37 #[.int .u8 a0] ?_; (with_reducible refine (unisonref10_small.calls a0 false _ A2.out).mono ?_); rintro e w' ⟨rfl, ⟨nd, rfl⟩⟩; refine ⟨_, rfl, ?_⟩) | ((with_reducible refine gate_callee (f := 34) rfl ?_); refine gL (some 8) Tryz.func34 #[.int .u8 a0] ?_; (with_reducible refine (unisonref10_digit.calls a0 false _ A3.out).mono ?_); rintro e w' ⟨rfl, ⟨nd, rfl⟩⟩; refine ⟨_, rfl, ?_⟩))
    go_ret
    exact ⟨by first | rfl | (simp; done) | (simp [*]; done), by repeat (first | exact Drawn0.refl _ | apply Drawn0.step)⟩
   ·
    rw [if_neg c6] at H
    have c6b0 : (a0 == 95) = false := beq_eq_false_iff_ne.mpr c6; have c6b1 : (a0 != 95) = true := bne_iff_ne.mpr c6
    by_cases c7 : a0 ≥ 65
    ·
     rw [if_pos c7] at H
     have c7b0 : decide (65 ≤ a0) = true := decide_eq_true c7; clear c7
     obtain rfl := Option.some.inj H
     go_enter Tryz.func33, Tryz.ntmps33
     go_wp2_with (first | ((with_reducible refine gate_callee (f := 37) rfl ?_); refine gL (some 6) Tryz.func37 #[.int .u8 a0] ?_; (with_reducible refine (unisonref10_small.calls a0 false _ A2.out).mono ?_); rintro e w' ⟨rfl, ⟨nd, rfl⟩⟩; refine ⟨_, rfl, ?_⟩) | ((with_reducible refine gate_callee (f := 34) rfl ?_); refine gL (some 8) Tryz.func34 #[.int .u8 a0] ?_; (with_reducible refine (unisonref10_digit.calls a0 false _ A3.out).mono ?_); rintro e w' ⟨rfl, ⟨nd, rfl⟩⟩; refine ⟨_, rfl, ?_⟩))
     go_ret
     exact ⟨by first | rfl | (simp; done) | (simp [*]; done), by repeat (first | exact Drawn0.refl _ | apply Drawn0.step)⟩
    ·
     rw [if_neg c7] at H
     have c7b0 : decide (65 ≤ a0) = false := decide_eq_false c7; clear c7
     obtain rfl := Option.some.inj H
     go_enter Tryz.func33, Tryz.ntmps33
     go_wp2_with (first | ((with_reducible refine gate_callee (f := 37) rfl ?_); refine gL (some 6) Tryz.func37 #[.int .u8 a0] ?_; (with_reducible refine (unisonref10_small.calls a0 false _ A2.out).mono ?_); rintro e w' ⟨rfl, ⟨nd, rfl⟩⟩; refine ⟨_, rfl, ?_⟩) | ((with_reducible refine gate_callee (f := 34) rfl ?_); refine gL (some 8) Tryz.func34 #[.int .u8 a0] ?_; (with_reducible refine (unisonref10_digit.calls a0 false _ A3.out).mono ?_); rintro e w' ⟨rfl, ⟨nd, rfl⟩⟩; refine ⟨_, rfl, ?_⟩))
     go_ret
     exact ⟨by first | rfl | (simp; done) | (simp [*]; done), by repeat (first | exact Drawn0.refl _ | apply Drawn0.step)⟩
end Go.Proofs.YtllehkjebikgpaaGreatDoor.PA
end
section
namespace Go.Proofs.YtllehkjebikgpaaGreatDoor.PA
open Go.RowKit Go.Proofs.YtllehkjebikgpaaGreatDoorW.PrintWords Go.Proofs.YtllehkjebikgpaaGreatDoorW.PrintLast Go.Proofs.YtllehkjebikgpaaGreatDoorW.PrintMore Go.Proofs.YtllehkjebikgpaaGreatDoorX
attribute [local go_sem] max2_int min2_int max_two min_two max_three min_three max_four min_four   -- for this text's walks alone
set_option linter.unusedVariables false
set_option linter.unusedSimpArgs false
/-! ### unisonref10_run: function 22 -/
def unisonref10_run.l0 : Nat → ByteArray → Int → Int → Option (ByteArray)
 | 0, _, _, _ => none
 | k + 1, x0, x1, x5 => if x5 < (x0.size : Int) then (if 0 ≤ x5 then ((unisonref10_part.f (bt x0 x5)).bind fun t103 => (if t103 = true then (unisonref10_run.l0 k x0 x1 (wrap64 (x5 + 1))) else (if 0 ≤ x1 then (if x1 ≤ x5 then (if x5 ≤ (x0.size : Int) then (some (x0.extract (x1 : Int).toNat (x5 : Int).toNat)) else (none)) else (none)) else (none)))) else (none)) else (if 0 ≤ x1 then (if x1 ≤ x5 then (if x5 ≤ (x0.size : Int) then (some (x0.extract (x1 : Int).toNat (x5 : Int).toNat)) else (none)) else (none)) else (none))
def unisonref10_run.f (k : Nat) (a0 : ByteArray) (a1 : Int) : Option (ByteArray) := unisonref10_run.l0 k a0 a1 a1
theorem unisonref10_run.mono_l : ∀ k, (∀ y0 y1 y2, LeO (unisonref10_run.l0 k y0 y1 y2) (unisonref10_run.l0 (k + 1) y0 y1 y2))
 | 0 => fun _ _ _ r h => by simp [unisonref10_run.l0] at h
 | k + 1 => by
  have ih0 := unisonref10_run.mono_l k
  ·
   intro y0 y1 y2
   unfold unisonref10_run.l0
   repeat' first
   | (with_reducible exact ih0 _ _ _)
   | (with_reducible exact LeO.refl _)
   | (with_reducible exact LeO.none _)
   | (with_reducible refine LeO.ite ?_ ?_)
   | (with_reducible refine LeO.bind ?_ (fun _ => ?_))
   | exact ih0 _ _ _
   | exact LeO.none _
   | refine LeO.ite ?_ ?_
   | refine LeO.bind ?_ (fun _ => ?_)
theorem unisonref10_run.mono : ∀ a0 a1 k, LeO (unisonref10_run.f k a0 a1) (unisonref10_run.f (k + 1) a0 a1) := by
 intro a0 a1 k
 have ih0 := unisonref10_run.mono_l k
 unfold unisonref10_run.f
 repeat' first
   | (with_reducible exact ih0 _ _ _)
   | (with_reducible exact LeO.refl _)
   | (with_reducible exact LeO.none _)
   | (with_reducible refine LeO.ite ?_ ?_)
   | (with_reducible refine LeO.bind ?_ (fun _ => ?_))
   | exact ih0 _ _ _
   | exact LeO.none _
   | refine LeO.ite ?_ ?_
   | refine LeO.bind ?_ (fun _ => ?_)
set_option maxHeartbeats 8000000 in
set_option maxRecDepth 100000 in
theorem unisonref10_run.calls (k : Nat) (a0 : ByteArray) (a1 : Int) (r : ByteArray) (w : World) (h : unisonref10_run.f k a0 a1 = some r) :
  Calls Tryz.prog 22 #[.string a0, .int .i64 a1] w fun e w' => e = .returned (.string r) ∧ Drawn0 w w' := by
 have H : (unisonref10_run.l0 k a0 a1 a1) = some r := h; clear h
 have H' := Aside0.mk H
 clear H
 go_enter Tryz.func22, Tryz.ntmps22
 go_wp2
 go_loopg [5] k (fun kq v5 w' => ∃ (x5_1 : Int), v5 = .int .i64 x5_1 ∧ Aside0 (unisonref10_run.l0 kq a0 a1 x5_1 = some r) ∧ Aside0 (kq ≤ k) ∧ Drawn0 w w')
 case atStart => exact ⟨(a1), (by first | rfl | (simp; done) | (simp [*]; done)), H', ⟨Nat.le_refl _⟩, by repeat (first | exact Drawn0.refl _ | apply Drawn0.step)⟩
 case round =>
  clear H'
  (try clear c2); (try clear p2)
  obtain ⟨x5_1, rfl, HA, HK1, ⟨m1, rfl⟩⟩ := hrel
  cases gk with
  | zero => exact absurd HA.out (by simp [unisonref10_run.l0])
  | succ k1 =>
   have H := HA.out; clear HA
   simp only [unisonref10_run.l0] at H
   by_cases c3 : x5_1 < (a0.size : Int)
   ·
    rw [if_pos c3] at H
    have c3b0 : decide (x5_1 < (a0.size : Int)) = true := decide_eq_true c3; clear c3
    by_cases c4 : 0 ≤ x5_1
    ·
     rw [if_pos c4] at H
     have c4b0 : decide (0 ≤ x5_1) = true := decide_eq_true c4; clear c4; replace H := Option.bind_eq_some_iff.mp H
     obtain ⟨t103, A60, H⟩ := H
     replace H : (if t103 = true then (unisonref10_run.l0 k1 a0 a1 (wrap64 (x5_1 + 1))) else (if 0 ≤ a1 then (if a1 ≤ x5_1 then (if x5_1 ≤ (a0.size : Int) then (some (a0.extract (a1 : Int).toNat (x5_1 : Int).toNat)) else (none)) else (none)) else (none))) = some r := H; have A6 := Aside0.mk A60; clear A60
     by_cases c7 : t103 = true
     ·
      subst c7
      have H1 : (unisonref10_run.l0 k1 a0 a1 (wrap64 (x5_1 + 1))) = some r := by rw [if_pos rfl] at H; exact H
      clear H; have H := H1; clear H1
      have H' := Aside0.mk H
      clear H; have p5 : 0 ≤ (x5_1 : Int) := of_decide_eq_true (by first | (with_reducible assumption) | assumption); have q5 : x5_1 < (a0.size : Int) := of_decide_eq_true (by first | (with_reducible assumption) | assumption); have hx5 := bt_at a0 x5_1; replace p5 := eq_true p5; replace q5 := eq_true q5
      go_wp2_with (first | ((with_reducible refine gate_callee (f := 33) rfl ?_); refine gL (some 15) Tryz.func33 #[.int .u8 (bt a0 x5_1)] ?_; (with_reducible refine (unisonref10_part.calls (bt a0 x5_1) true _ A6.out).mono ?_); rintro e w' ⟨rfl, ⟨nd, rfl⟩⟩; refine ⟨_, rfl, ?_⟩))
      go_roundg k1
      case measure => have := HK1.out; omega
      case rel => exact ⟨(wrap64 (x5_1 + 1)), (by first | rfl | (simp; done) | (simp [*]; done)), H', ⟨by have := HK1.out; omega⟩, by repeat (first | exact Drawn0.refl _ | apply Drawn0.step)⟩
     ·
      replace c7 := Bool.eq_false_iff.mpr c7
      subst c7
      have H1 : (if 0 ≤ a1 then (if a1 ≤ x5_1 then (if x5_1 ≤ (a0.size : Int) then (some (a0.extract (a1 : Int).toNat (x5_1 : Int).toNat)) else (none)) else (none)) else (none)) = some r := by rw [if_neg (show ¬ (false = true) by decide)] at H; exact H
      clear H; have H := H1; clear H1
      by_cases c8 : 0 ≤ a1
      ·
       rw [if_pos c8] at H
       have c8b0 := eq_true c8; have c8b1 : decide (0 ≤ a1) = true := decide_eq_true c8; clear c8
       by_cases c9 : a1 ≤ x5_1
       ·
        rw [if_pos c9] at H
        have c9b0 := eq_true c9; have c9b1 : decide (a1 ≤ x5_1) = true := decide_eq_true c9; clear c9
        by_cases c10 : x5_1 ≤ (a0.size : Int)
        ·
         rw [if_pos c10] at H
         have c10b0 := eq_true c10; have c10b1 : decide (x5_1 ≤ (a0.size : Int)) = true := decide_eq_true c10; clear c10
         obtain rfl := Option.some.inj H
         have p5 : 0 ≤ (x5_1 : Int) := of_decide_eq_true (by first | (with_reducible assumption) | assumption); have q5 : x5_1 < (a0.size : Int) := of_decide_eq_true (by first | (with_reducible assumption) | assumption); have hx5 := bt_at a0 x5_1; replace p5 := eq_true p5; replace q5 := eq_true q5
         go_wp2_with (first | ((with_reducible refine gate_callee (f := 33) rfl ?_); refine gL (some 15) Tryz.func33 #[.int .u8 (bt a0 x5_1)] ?_; (with_reducible refine (unisonref10_part.calls (bt a0 x5_1) false _ A6.out).mono ?_); rintro e w' ⟨rfl, ⟨nd, rfl⟩⟩; refine ⟨_, rfl, ?_⟩))
         go_ret
         exact ⟨by first | rfl | (simp; done) | (simp [*]; done), by repeat (first | exact Drawn0.refl _ | apply Drawn0.step)⟩
        ·
         rw [if_neg c10] at H
         exact absurd H (by simp)
       ·
        rw [if_neg c9] at H
        exact absurd H (by simp)
      ·
       rw [if_neg c8] at H
       exact absurd H (by simp)
    ·
     rw [if_neg c4] at H
     exact absurd H (by simp)
   ·
    rw [if_neg c3] at H
    have c3b0 : decide (x5_1 < (a0.size : Int)) = false := decide_eq_false c3; clear c3
    by_cases c11 : 0 ≤ a1
    ·
     rw [if_pos c11] at H
     have c11b0 := eq_true c11; have c11b1 : decide (0 ≤ a1) = true := decide_eq_true c11; clear c11
     by_cases c12 : a1 ≤ x5_1
     ·
      rw [if_pos c12] at H
      have c12b0 := eq_true c12; have c12b1 : decide (a1 ≤ x5_1) = true := decide_eq_true c12; clear c12
      by_cases c13 : x5_1 ≤ (a0.size : Int)
      ·
       rw [if_pos c13] at H
       have c13b0 := eq_true c13; have c13b1 : decide (x5_1 ≤ (a0.size : Int)) = true := decide_eq_true c13; clear c13
       obtain rfl := Option.some.inj H
       go_wp2
       go_ret
       exact ⟨by first | rfl | (simp; done) | (simp [*]; done), by repeat (first | exact Drawn0.refl _ | apply Drawn0.step)⟩
      ·
       rw [if_neg c13] at H
       exact absurd H (by simp)
     ·
      rw [if_neg c12] at H
      exact absurd H (by simp)
    ·
     rw [if_neg c11] at H
     exact absurd H (by simp)
end Go.Proofs.YtllehkjebikgpaaGreatDoor.PA
end
section
namespace Go.Proofs.YtllehkjebikgpaaGreatDoor.PA
open Go.RowKit Go.Proofs.YtllehkjebikgpaaGreatDoorW.PrintWords Go.Proofs.YtllehkjebikgpaaGreatDoorW.PrintLast Go.Proofs.YtllehkjebikgpaaGreatDoorW.PrintMore Go.Proofs.YtllehkjebikgpaaGreatDoorX
attribute [local go_sem] max2_int min2_int max_two min_two max_three min_three max_four min_four   -- for this text's walks alone
set_option linter.unusedVariables false
set_option linter.unusedSimpArgs false

/-! ### unisonref10_IsName: function 24 -/
mutual
def unisonref10_IsName.j0 : Nat → ByteArray → Bool → Option (Bool)
 | 0, _, _ => none
 | k + 1, x0, x13 => if x13 = true then (some false) else (unisonref10_IsName.l0 k x0 0)
def unisonref10_IsName.l0 : Nat → ByteArray → Int → Option (Bool)
 | 0, _, _ => none
 | k + 1, x0, x3 => if x3 < (x0.size : Int) then (if 0 ≤ x3 then ((unisonref10_small.f (bt x0 x3)).bind fun t104 => ((unisonref10_digit.f (bt x0 x3)).bind fun t105 => (if t104 = true then (unisonref10_IsName.l0 k x0 (wrap64 (x3 + 1))) else (if x3 = 0 then (some false) else (if t105 = true then (unisonref10_IsName.l0 k x0 (wrap64 (x3 + 1))) else (if (bt x0 x3) = 95 then (unisonref10_IsName.l0 k x0 (wrap64 (x3 + 1))) else (some false))))))) else (none)) else (some true)
end
def unisonref10_IsName.f (k : Nat) (a0 : ByteArray) : Option (Bool) := if (a0.size : Int) < 1 then (unisonref10_IsName.j0 k a0 true) else (unisonref10_IsName.j0 k a0 (decide ((a0.size : Int) > 16)))
theorem unisonref10_IsName.mono_l : ∀ k, (∀ y0 y1, LeO (unisonref10_IsName.j0 k y0 y1) (unisonref10_IsName.j0 (k + 1) y0 y1)) ∧ (∀ y0 y1, LeO (unisonref10_IsName.l0 k y0 y1) (unisonref10_IsName.l0 (k + 1) y0 y1))
 | 0 => ⟨fun _ _ r h => by simp [unisonref10_IsName.j0] at h, fun _ _ r h => by simp [unisonref10_IsName.l0] at h⟩
 | k + 1 => by
  obtain ⟨ih0, ih1⟩ := unisonref10_IsName.mono_l k
  refine ⟨?_, ?_⟩
  ·
   intro y0 y1
   unfold unisonref10_IsName.j0
   repeat' first
   | (with_reducible exact ih0 _ _)
   | (with_reducible exact ih1 _ _)
   | (with_reducible exact LeO.refl _)
   | (with_reducible exact LeO.none _)
   | (with_reducible refine LeO.ite ?_ ?_)
   | (with_reducible refine LeO.bind ?_ (fun _ => ?_))
   | exact ih0 _ _
   | exact ih1 _ _
   | exact LeO.none _
   | refine LeO.ite ?_ ?_
   | refine LeO.bind ?_ (fun _ => ?_)
  ·
   intro y0 y1
   unfold unisonref10_IsName.l0
   repeat' first
   | (with_reducible exact ih0 _ _)
   | (with_reducible exact ih1 _ _)
   | (with_reducible exact LeO.refl _)
   | (with_reducible exact LeO.none _)
   | (with_reducible refine LeO.ite ?_ ?_)
   | (with_reducible refine LeO.bind ?_ (fun _ => ?_))
   | exact ih0 _ _
   | exact ih1 _ _
   | exact LeO.none _
   | refine LeO.ite ?_ ?_
   | refine LeO.bind ?_ (fun _ => ?_)
theorem unisonref10_IsName.mono : ∀ a0 k, LeO (unisonref10_IsName.f k a0) (unisonref10_IsName.f (k + 1) a0) := by
 intro a0 k
 obtain ⟨ih0, ih1⟩ := unisonref10_IsName.mono_l k
 unfold unisonref10_IsName.f
 repeat' first
   | (with_reducible exact ih0 _ _)
   | (with_reducible exact ih1 _ _)
   | (with_reducible exact LeO.refl _)
   | (with_reducible exact LeO.none _)
   | (with_reducible refine LeO.ite ?_ ?_)
   | (with_reducible refine LeO.bind ?_ (fun _ => ?_))
   | exact ih0 _ _
   | exact ih1 _ _
   | exact LeO.none _
   | refine LeO.ite ?_ ?_
   | refine LeO.bind ?_ (fun _ => ?_)
set_option maxHeartbeats 8000000 in
set_option maxRecDepth 100000 in
theorem unisonref10_IsName.calls (k : Nat) (a0 : ByteArray) (r : Bool) (w : World) (h : unisonref10_IsName.f k a0 = some r) :
  Calls Tryz.prog 24 #[.string a0] w fun e w' => e = .returned (.bool r) ∧ Drawn0 w w' := by
 have H : (if (a0.size : Int) < 1 then (unisonref10_IsName.j0 k a0 true) else (unisonref10_IsName.j0 k a0 (decide ((a0.size : Int) > 16)))) = some r := h; clear h; have HC2 := Aside0.mk H; clear H
 go_enter Tryz.func24, Tryz.ntmps24
 go_upto_region 1 with (fail)
 go_cut [13] (fun v13 wc => ∃ (kq : Nat) (x13_1 : Bool), v13 = .bool x13_1 ∧ Aside0 (unisonref10_IsName.j0 kq a0 x13_1 = some r) ∧ Aside0 (kq ≤ k) ∧ Drawn0 w wc)
 case first =>
  have H := HC2.out; clear HC2
  by_cases c3 : (a0.size : Int) < 1
  ·
   rw [if_pos c3] at H
   have c3b0 : decide ((a0.size : Int) < 1) = true := decide_eq_true c3; have c3b1 : decide (a0.size < 1) = true := decide_eq_true (by omega); clear c3
   (first | rw [c3b0] | (simp only [i64_w, i32_w, u8_w, u32_w]; rw [c3b0]) | rw [c3b1] | skip)
   have H' := Aside0.mk H
   clear H
   go_wp2
   go_meet
   case rel => exact ⟨_, (true), (by first | rfl | (simp; done) | (simp [*]; done)), H', ⟨by first | omega | exact Nat.le_refl _⟩, by repeat (first | exact Drawn0.refl _ | apply Drawn0.step)⟩
  ·
   rw [if_neg c3] at H
   have c3b0 : decide ((a0.size : Int) < 1) = false := decide_eq_false c3; have c3b1 : decide (a0.size < 1) = false := decide_eq_false (by omega); clear c3
   (first | rw [c3b0] | (simp only [i64_w, i32_w, u8_w, u32_w]; rw [c3b0]) | rw [c3b1] | skip)
   have H' := Aside0.mk H
   clear H
   go_wp2
   go_meet
   case rel => exact ⟨_, (decide ((a0.size : Int) > 16)), (by first | rfl | (simp; done) | (simp [*]; done)), H', ⟨by first | omega | exact Nat.le_refl _⟩, by repeat (first | exact Drawn0.refl _ | apply Drawn0.step)⟩
 case rest =>
  clear HC2; (try clear c2); (try clear p2); (try clear c3); (try clear c3b0); (try clear c3b1)
  obtain ⟨kq, x13_1, rfl, HA, HJ1, ⟨mc1, rfl⟩⟩ := hcut
  cases kq with
  | zero => exact absurd HA.out (by simp [unisonref10_IsName.j0])
  | succ kj1 =>
   have H := HA.out; clear HA
   simp only [unisonref10_IsName.j0] at H
   by_cases c4 : x13_1 = true
   ·
    subst c4
    have H1 : (some false) = some r := by rw [if_pos rfl] at H; exact H
    clear H; have H := H1; clear H1
    obtain rfl := Option.some.inj H
    go_wp2
    go_ret
    exact ⟨by first | rfl | (simp; done) | (simp [*]; done), by repeat (first | exact Drawn0.refl _ | apply Drawn0.step)⟩
   ·
    replace c4 := Bool.eq_false_iff.mpr c4
    subst c4
    have H1 : (unisonref10_IsName.l0 kj1 a0 0) = some r := by rw [if_neg (show ¬ (false = true) by decide)] at H; exact H
    clear H; have H := H1; clear H1
    have H' := Aside0.mk H
    clear H
    go_wp2
    go_loopg [3] kj1 (fun kq v3 w' => ∃ (x3_2 : Int), v3 = .int .i64 x3_2 ∧ Aside0 (unisonref10_IsName.l0 kq a0 x3_2 = some r) ∧ Aside0 (kq ≤ kj1) ∧ Drawn0 w w')
    case atStart => exact ⟨(0), (by first | rfl | (simp; done) | (simp [*]; done)), H', ⟨Nat.le_refl _⟩, by repeat (first | exact Drawn0.refl _ | apply Drawn0.step)⟩
    case round =>
     clear H'
     (try clear c1); (try clear c2); (try clear p2); (try clear c3); (try clear c3b0); (try clear c3b1); (try clear c4); (try clear p2)
     obtain ⟨x3_2, rfl, HA, HK2, ⟨m2, rfl⟩⟩ := hrel
     cases gk with
     | zero => exact absurd HA.out (by simp [unisonref10_IsName.l0])
     | succ k2 =>
      have H := HA.out; clear HA
      simp only [unisonref10_IsName.l0] at H
      by_cases c5 : x3_2 < (a0.size : Int)
      ·
       rw [if_pos c5] at H
       have c5b0 : decide (x3_2 < (a0.size : Int)) = true := decide_eq_true c5; clear c5
       by_cases c6 : 0 ≤ x3_2
       ·
        rw [if_pos c6] at H
        have c6b0 : decide (0 ≤ x3_2) = true := decide_eq_true c6; clear c6; replace H := Option.bind_eq_some_iff.mp H
        obtain ⟨t104, A80, H⟩ := H
        replace H : ((unisonref10_digit.f (bt a0 x3_2)).bind fun t105 => (if t104 = true then (unisonref10_IsName.l0 k2 a0 (wrap64 (x3_2 + 1))) else (if x3_2 = 0 then (some false) else (if t105 = true then (unisonref10_IsName.l0 k2 a0 (wrap64 (x3_2 + 1))) else (if (bt a0 x3_2) = 95 then (unisonref10_IsName.l0 k2 a0 (wrap64 (x3_2 + 1))) else (some false)))))) = some r := H; have A8 := Aside0.mk A80; clear A80; replace H := Option.bind_eq_some_iff.mp H
        obtain ⟨t105, A100, H⟩ := H
        replace H : (if t104 = true then (unisonref10_IsName.l0 k2 a0 (wrap64 (x3_2 + 1))) else (if x3_2 = 0 then (some false) else (if t105 = true then (unisonref10_IsName.l0 k2 a0 (wrap64 (x3_2 + 1))) else (if (bt a0 x3_2) = 95 then (unisonref10_IsName.l0 k2 a0 (wrap64 (x3_2 + 1))) else (some false))))) = some r := H; have A10 := Aside0.mk A100; clear A100
        by_cases c11 : t104 = true
        ·
         subst c11
         have H1 : (unisonref10_IsName.l0 k2 a0 (wrap64 (x3_2 + 1))) = some r := by rw [if_pos rfl] at H; exact H
         clear H; have H := H1; clear H1
         have H' := Aside0.mk H
         clear H; have p7 : 0 ≤ (x3_2 : Int) := of_decide_eq_true (by first | (with_reducible assumption) | assumption); have q7 : x3_2 < (a0.size : Int) := of_decide_eq_true (by first | (with_reducible assumption) | assumption); have hx7 := bt_at a0 x3_2; replace p7 := eq_true p7; replace q7 := eq_true q7
         go_wp2_with (first | ((with_reducible refine gate_callee (f := 37) rfl ?_); refine gL (some 23) Tryz.func37 #[.int .u8 (bt a0 x3_2)] ?_; (with_reducible refine (unisonref10_small.calls (bt a0 x3_2) true _ A8.out).mono ?_); rintro e w' ⟨rfl, ⟨nd, rfl⟩⟩; refine ⟨_, rfl, ?_⟩; have p9 : 0 ≤ (x3_2 : Int) := of_decide_eq_true (by first | (with_reducible assumption) | assumption); have q9 : x3_2 < (a0.size : Int) := of_decide_eq_true (by first | (with_reducible assumption) | assumption); have hx9 := bt_at a0 x3_2; replace p9 := eq_true p9; replace q9 := eq_true q9) | ((with_reducible refine gate_callee (f := 34) rfl ?_); refine gL (some 27) Tryz.func34 #[.int .u8 (bt a0 x3_2)] ?_; (with_reducible refine (unisonref10_digit.calls (bt a0 x3_2) t105 _ A10.out).mono ?_); rintro e w' ⟨rfl, ⟨nd, rfl⟩⟩; refine ⟨_, rfl, ?_⟩))
         go_roundg k2
         case measure => have := HJ1.out; have := HK2.out; omega
         case rel => exact ⟨(wrap64 (x3_2 + 1)), (by first | rfl | (simp; done) | (simp [*]; done)), H', ⟨by have := HJ1.out; have := HK2.out; omega⟩, by repeat (first | exact Drawn0.refl _ | apply Drawn0.step)⟩
        ·
         replace c11 := Bool.eq_false_iff.mpr c11
         subst c11
         have H1 : (if x3_2 = 0 then (some false) else (if t105 = true then (unisonref10_IsName.l0 k2 a0 (wrap64 (x3_2 + 1))) else (if (bt a0 x3_2) = 95 then (unisonref10_IsName.l0 k2 a0 (wrap64 (x3_2 + 1))) else (some false)))) = some r := by rw [if_neg (show ¬ (false = true) by decide)] at H; exact H
         clear H; have H := H1; clear H1
         by_cases c12 : x3_2 = 0
         ·
          rw [if_pos c12] at H
          have c12b0 : (x3_2 == 0) = true := beq_iff_eq.mpr c12; have c12b1 : (x3_2 != 0) = false := bne_eq_false_iff_eq.mpr c12; clear c12
          obtain rfl := Option.some.inj H
          have p7 : 0 ≤ (x3_2 : Int) := of_decide_eq_true (by first | (with_reducible assumption) | assumption); have q7 : x3_2 < (a0.size : Int) := of_decide_eq_true (by first | (with_reducible assumption) | assumption); have hx7 := bt_at a0 x3_2; replace p7 := eq_true p7; replace q7 := eq_true q7
          go_wp2_with (first | ((with_reducible refine gate_callee (f := 37) rfl ?_); refine gL (some 23) Tryz.func37 #[.int .u8 (bt a0 x3_2)] ?_; (with_reducible refine (unisonref10_small.calls (bt a0 x3_2) false _ A8.out).mono ?_); rintro e w' ⟨rfl, ⟨nd, rfl⟩⟩; refine ⟨_, rfl, ?_⟩; have p9 : 0 ≤ (x3_2 : Int) := of_decide_eq_true (by first | (with_reducible assumption) | assumption); have q9 : x3_2 < (a0.size : Int) := of_decide_eq_true (by first | (with_reducible assumption) | assumption); have hx9 := bt_at a0 x3_2; replace p9 := eq_true p9; replace q9 := eq_true q9) | ((with_reducible refine gate_callee (f := 34) rfl ?_); refine gL (some 27) Tryz.func34 #[.int .u8 (bt a0 x3_2)] ?_; (with_reducible refine (unisonref10_digit.calls (bt a0 x3_2) t105 _ A10.out).mono ?_); rintro e w' ⟨rfl, ⟨nd, rfl⟩⟩; refine ⟨_, rfl, ?_⟩))
          go_ret
          exact ⟨by first | rfl | (simp; done) | (simp [*]; done), by repeat (first | exact Drawn0.refl _ | apply Drawn0.step)⟩
         ·
          rw [if_neg c12] at H
          have c12b0 : (x3_2 == 0) = false := beq_eq_false_iff_ne.mpr c12; have c12b1 : (x3_2 != 0) = true := bne_iff_ne.mpr c12
          by_cases c13 : t105 = true
          ·
           subst c13
           have H1 : (unisonref10_IsName.l0 k2 a0 (wrap64 (x3_2 + 1))) = some r := by rw [if_pos rfl] at H; exact H
           clear H; have H := H1; clear H1
           have H' := Aside0.mk H
           clear H; have p7 : 0 ≤ (x3_2 : Int) := of_decide_eq_true (by first | (with_reducible assumption) | assumption); have q7 : x3_2 < (a0.size : Int) := of_decide_eq_true (by first | (with_reducible assumption) | assumption); have hx7 := bt_at a0 x3_2; replace p7 := eq_true p7; replace q7 := eq_true q7
           go_wp2_with (first | ((with_reducible refine gate_callee (f := 37) rfl ?_); refine gL (some 23) Tryz.func37 #[.int .u8 (bt a0 x3_2)] ?_; (with_reducible refine (unisonref10_small.calls (bt a0 x3_2) false _ A8.out).mono ?_); rintro e w' ⟨rfl, ⟨nd, rfl⟩⟩; refine ⟨_, rfl, ?_⟩; have p9 : 0 ≤ (x3_2 : Int) := of_decide_eq_true (by first | (with_reducible assumption) | assumption); have q9 : x3_2 < (a0.size : Int) := of_decide_eq_true (by first | (with_reducible assumption) | assumption); have hx9 := bt_at a0 x3_2; replace p9 := eq_true p9; replace q9 := eq_true q9) | ((with_reducible refine gate_callee (f := 34) rfl ?_); refine gL (some 27) Tryz.func34 #[.int .u8 (bt a0 x3_2)] ?_; (with_reducible refine (unisonref10_digit.calls (bt a0 x3_2) true _ A10.out).mono ?_); rintro e w' ⟨rfl, ⟨nd, rfl⟩⟩; refine ⟨_, rfl, ?_⟩))
           go_roundg k2
           case measure => have := HJ1.out; have := HK2.out; omega
           case rel => exact ⟨(wrap64 (x3_2 + 1)), (by first | rfl | (simp; done) | (simp [*]; done)), H', ⟨by have := HJ1.out; have := HK2.out; omega⟩, by repeat (first | exact Drawn0.refl _ | apply Drawn0.step)⟩
          ·
           replace c13 := Bool.eq_false_iff.mpr c13
           subst c13
           have H1 : (if (bt a0 x3_2) = 95 then (unisonref10_IsName.l0 k2 a0 (wrap64 (x3_2 + 1))) else (some false)) = some r := by rw [if_neg (show ¬ (false = true) by decide)] at H; exact H
           clear H; have H := H1; clear H1
           by_cases c15 : (bt a0 x3_2) = 95
           ·
            rw [if_pos c15] at H
            have c15b0 : ((bt a0 x3_2) == 95) = true := beq_iff_eq.mpr c15; have c15b1 : ((bt a0 x3_2) != 95) = false := bne_eq_false_iff_eq.mpr c15; clear c15
            have H' := Aside0.mk H
            clear H; have p7 : 0 ≤ (x3_2 : Int) := of_decide_eq_true (by first | (with_reducible assumption) | assumption); have q7 : x3_2 < (a0.size : Int) := of_decide_eq_true (by first | (with_reducible assumption) | assumption); have hx7 := bt_at a0 x3_2; replace p7 := eq_true p7; replace q7 := eq_true q7
            go_wp2_with (first | ((with_reducible refine gate_callee (f := 37) rfl ?_); refine gL (some 23) Tryz.func37 #[.int .u8 (bt a0 x3_2)] ?_; (with_reducible refine (unisonref10_small.calls (bt a0 x3_2) false _ A8.out).mono ?_); rintro e w' ⟨rfl, ⟨nd, rfl⟩⟩; refine ⟨_, rfl, ?_⟩; have p9 : 0 ≤ (x3_2 : Int) := of_decide_eq_true (by first | (with_reducible assumption) | assumption); have q9 : x3_2 < (a0.size : Int) := of_decide_eq_true (by first | (with_reducible assumption) | assumption); have hx9 := bt_at a0 x3_2; replace p9 := eq_true p9; replace q9 := eq_true q9) | ((with_reducible refine gate_callee (f := 34) rfl ?_); refine gL (some 27) Tryz.func34 #[.int .u8 (bt a0 x3_2)] ?_; (with_reducible refine (unisonref10_digit.calls (bt a0 x3_2) false _ A10.out).mono ?_); rintro e w' ⟨rfl, ⟨nd, rfl⟩⟩; refine ⟨_, rfl, ?_⟩; have p14 : 0 ≤ (x3_2 : Int) := of_decide_eq_true (by first | (with_reducible assumption) | assumption); have q14 : x3_2 < (a0.size : Int) := of_decide_eq_true (by first | (with_reducible assumption) | assumption); have hx14 := bt_at a0 x3_2; replace p14 := eq_true p14; replace q14 := eq_true q14))
            go_roundg k2
            case measure => have := HJ1.out; have := HK2.out; omega
            case rel => exact ⟨(wrap64 (x3_2 + 1)), (by first | rfl | (simp; done) | (simp [*]; done)), H', ⟨by have := HJ1.out; have := HK2.out; omega⟩, by repeat (first | exact Drawn0.refl _ | apply Drawn0.step)⟩
           ·
            rw [if_neg c15] at H
            have c15b0 : ((bt a0 x3_2) == 95) = false := beq_eq_false_iff_ne.mpr c15; have c15b1 : ((bt a0 x3_2) != 95) = true := bne_iff_ne.mpr c15
            obtain rfl := Option.some.inj H
            have p7 : 0 ≤ (x3_2 : Int) := of_decide_eq_true (by first | (with_reducible assumption) | assumption); have q7 : x3_2 < (a0.size : Int) := of_decide_eq_true (by first | (with_reducible assumption) | assumption); have hx7 := bt_at a0 x3_2; replace p7 := eq_true p7; replace q7 := eq_true q7
            go_wp2_with (first | ((with_reducible refine gate_callee (f := 37) rfl ?_); refine gL (some 23) Tryz.func37 #[.int .u8 (bt a0 x3_2)] ?_; (with_reducible refine (unisonref10_small.calls (bt a0 x3_2) false _ A8.out).mono ?_); rintro e w' ⟨rfl, ⟨nd, rfl⟩⟩; refine ⟨_, rfl, ?_⟩; have p9 : 0 ≤ (x3_2 : Int) := of_decide_eq_true (by first | (with_reducible assumption) | assumption); have q9 : x3_2 < (a0.size : Int) := of_decide_eq_true (by first | (with_reducible assumption) | assumption); have hx9 := bt_at a0 x3_2; replace p9 := eq_true p9; replace q9 := eq_true q9) | ((with_reducible refine gate_callee (f := 34) rfl ?_); refine gL (some 27) Tryz.func34 #[.int .u8 (bt a0 x3_2)] ?_; (with_reducible refine (unisonref10_digit.calls (bt a0 x3_2) false _ A10.out).mono ?_); rintro e w' ⟨rfl, ⟨nd, rfl⟩⟩; refine ⟨_, rfl, ?_⟩; have p14 : 0 ≤ (x3_2 : Int) := of_decide_eq_true (by first | (with_reducible assumption) | assumption); have q14 : x3_2 < (a0.size : Int) := of_decide_eq_true (by first | (with_reducible assumption) | assumption); have hx14 := bt_at a0 x3_2; replace p14 := eq_true p14; replace q14 := eq_true q14))
            go_ret
            exact ⟨by first | rfl | (simp; done) | (simp [*]; done), by repeat (first | exact Drawn0.refl _ | apply Drawn0.step)⟩
       ·
        rw [if_neg c6] at H
        exact absurd H (by simp)
      ·
       rw [if_neg c5] at H
       have c5b0 : decide (x3_2 < (a0.size : Int)) = false := decide_eq_false c5; clear c5
       obtain rfl := Option.some.inj H
       go_wp2
       go_ret
       exact ⟨by first | rfl | (simp; done) | (simp [*]; done), by repeat (first | exact Drawn0.refl _ | apply Drawn0.step)⟩
end Go.Proofs.YtllehkjebikgpaaGreatDoor.PA
end
section
namespace Go.Proofs.YtllehkjebikgpaaGreatDoor.PA
open Go.RowKit Go.Proofs.YtllehkjebikgpaaGreatDoorW.PrintWords Go.Proofs.YtllehkjebikgpaaGreatDoorW.PrintLast Go.Proofs.YtllehkjebikgpaaGreatDoorW.PrintMore Go.Proofs.YtllehkjebikgpaaGreatDoorX
attribute [local go_sem] max2_int min2_int max_two min_two max_three min_three max_four min_four   -- for this text's walks alone
set_option linter.unusedVariables false
set_option linter.unusedSimpArgs false

/-! ### unisonref10_number: function 35 -/
mutual
def unisonref10_number.l0 : Nat → ByteArray → Int → Int → Option (Int × Bool)
 | 0, _, _, _ => none
 | k + 1, x0, x4, x5 => if x5 < (x0.size : Int) then (if 0 ≤ x5 then ((unisonref10_digit.f (bt x0 x5)).bind fun t106 => (if t106 = true then (if x5 = 1 then (if 0 < (x0.size : Int) then (unisonref10_number.j1 k x0 x4 x5 ((bt x0 0) == 48)) else (none)) else (unisonref10_number.j1 k x0 x4 x5 false)) else (unisonref10_number.j1 k x0 x4 x5 true))) else (none)) else (some (x4, true))
def unisonref10_number.j1 : Nat → ByteArray → Int → Int → Bool → Option (Int × Bool)
 | 0, _, _, _, _ => none
 | k + 1, x0, x4, x5, x28 => if x28 = true then (some (0, false)) else (if 0 ≤ x5 then (if x5 < (x0.size : Int) then (if x4 > ((4611686018427387904 - (((bt x0 x5) - 48) % 256)) / 10) then (some (0, false)) else (unisonref10_number.l0 k x0 (wrap64 ((wrap64 (10 * x4)) + (((bt x0 x5) - 48) % 256))) (wrap64 (x5 + 1)))) else (none)) else (none))
end
def unisonref10_number.f (k : Nat) (a0 : ByteArray) : Option (Int × Bool) := unisonref10_number.l0 k a0 0 0
theorem unisonref10_number.mono_l : ∀ k, (∀ y0 y1 y2, LeO (unisonref10_number.l0 k y0 y1 y2) (unisonref10_number.l0 (k + 1) y0 y1 y2)) ∧ (∀ y0 y1 y2 y3, LeO (unisonref10_number.j1 k y0 y1 y2 y3) (unisonref10_number.j1 (k + 1) y0 y1 y2 y3))
 | 0 => ⟨fun _ _ _ r h => by simp [unisonref10_number.l0] at h, fun _ _ _ _ r h => by simp [unisonref10_number.j1] at h⟩
 | k + 1 => by
  obtain ⟨ih0, ih1⟩ := unisonref10_number.mono_l k
  refine ⟨?_, ?_⟩
  ·
   intro y0 y1 y2
   unfold unisonref10_number.l0
   repeat' first
   | (with_reducible exact ih0 _ _ _)
   | (with_reducible exact ih1 _ _ _ _)
   | (with_reducible exact LeO.refl _)
   | (with_reducible exact LeO.none _)
   | (with_reducible refine LeO.ite ?_ ?_)
   | (with_reducible refine LeO.bind ?_ (fun _ => ?_))
   | exact ih0 _ _ _
   | exact ih1 _ _ _ _
   | exact LeO.none _
   | refine LeO.ite ?_ ?_
   | refine LeO.bind ?_ (fun _ => ?_)
  ·
   intro y0 y1 y2 y3
   unfold unisonref10_number.j1
   repeat' first
   | (with_reducible exact ih0 _ _ _)
   | (with_reducible exact ih1 _ _ _ _)
   | (with_reducible exact LeO.refl _)
   | (with_reducible exact LeO.none _)
   | (with_reducible refine LeO.ite ?_ ?_)
   | (with_reducible refine LeO.bind ?_ (fun _ => ?_))
   | exact ih0 _ _ _
   | exact ih1 _ _ _ _
   | exact LeO.none _
   | refine LeO.ite ?_ ?_
   | refine LeO.bind ?_ (fun _ => ?_)
theorem unisonref10_number.mono : ∀ a0 k, LeO (unisonref10_number.f k a0) (unisonref10_number.f (k + 1) a0) := by
 intro a0 k
 obtain ⟨ih0, ih1⟩ := unisonref10_number.mono_l k
 unfold unisonref10_number.f
 repeat' first
   | (with_reducible exact ih0 _ _ _)
   | (with_reducible exact ih1 _ _ _ _)
   | (with_reducible exact LeO.refl _)
   | (with_reducible exact LeO.none _)
   | (with_reducible refine LeO.ite ?_ ?_)
   | (with_reducible refine LeO.bind ?_ (fun _ => ?_))
   | exact ih0 _ _ _
   | exact ih1 _ _ _ _
   | exact LeO.none _
   | refine LeO.ite ?_ ?_
   | refine LeO.bind ?_ (fun _ => ?_)
set_option maxHeartbeats 8000000 in
set_option maxRecDepth 100000 in
theorem unisonref10_number.calls (k : Nat) (a0 : ByteArray) (r1 : Int) (r2 : Bool) (w : World) (h : unisonref10_number.f k a0 = some (r1, r2)) :
  Calls Tryz.prog 35 #[.string a0] w fun e w' => e = .returned (.tuple #[.int .i64 r1, .bool r2]) ∧ Drawn0 w w' := by
 have H : (unisonref10_number.l0 k a0 0 0) = some (r1, r2) := h; clear h
 have H' := Aside0.mk H
 clear H
 go_enter Tryz.func35, Tryz.ntmps35
 go_wp2
 go_loopg [4, 5] k (fun kq v4 v5 w' => ∃ (x4_1 : Int) (x5_1 : Int), v4 = .int .i64 x4_1 ∧ v5 = .int .i64 x5_1 ∧ Aside0 (unisonref10_number.l0 kq a0 x4_1 x5_1 = some (r1, r2)) ∧ Aside0 (kq ≤ k) ∧ Drawn0 w w')
 case atStart => exact ⟨(0), (0), (by first | rfl | (simp; done) | (simp [*]; done)), (by first | rfl | (simp; done) | (simp [*]; done)), H', ⟨Nat.le_refl _⟩, by repeat (first | exact Drawn0.refl _ | apply Drawn0.step)⟩
 case round =>
  clear H'
  obtain ⟨x4_1, x5_1, rfl, rfl, HA, HK1, ⟨m1, rfl⟩⟩ := hrel
  cases gk with
  | zero => exact absurd HA.out (by simp [unisonref10_number.l0])
  | succ k1 =>
   have H := HA.out; clear HA
   simp only [unisonref10_number.l0] at H
   by_cases c2 : x5_1 < (a0.size : Int)
   ·
    rw [if_pos c2] at H
    have c2b0 : decide (x5_1 < (a0.size : Int)) = true := decide_eq_true c2; clear c2
    by_cases c3 : 0 ≤ x5_1
    ·
     rw [if_pos c3] at H
     have c3b0 : decide (0 ≤ x5_1) = true := decide_eq_true c3; clear c3; replace H := Option.bind_eq_some_iff.mp H
     obtain ⟨t106, A50, H⟩ := H
     replace H : (if t106 = true then (if x5_1 = 1 then (if 0 < (a0.size : Int) then (unisonref10_number.j1 k1 a0 x4_1 x5_1 ((bt a0 0) == 48)) else (none)) else (unisonref10_number.j1 k1 a0 x4_1 x5_1 false)) else (unisonref10_number.j1 k1 a0 x4_1 x5_1 true)) = some (r1, r2) := H; have A5 := Aside0.mk A50; clear A50; have HC6 := Aside0.mk H; clear H; have p4 : 0 ≤ (x5_1 : Int) := of_decide_eq_true (by first | (with_reducible assumption) | assumption); have q4 : x5_1 < (a0.size : Int) := of_decide_eq_true (by first | (with_reducible assumption) | assumption); have hx4 := bt_at a0 x5_1; replace p4 := eq_true p4; replace q4 := eq_true q4
     go_upto_region 6 with (first | ((with_reducible refine gate_callee (f := 34) rfl ?_); refine gL (some 17) Tryz.func34 #[.int .u8 (bt a0 x5_1)] ?_; (with_reducible refine (unisonref10_digit.calls (bt a0 x5_1) t106 _ A5.out).mono ?_); rintro e w' ⟨rfl, ⟨nd, rfl⟩⟩; refine ⟨_, rfl, ?_⟩))
     (try simp only [Act.put, List.setIfInBounds_toArray, List.set_cons_zero, List.set_cons_succ])
     go_cut [28] (fun v28 wc => ∃ (kq : Nat) (x28_5 : Bool), v28 = .bool x28_5 ∧ Aside0 (unisonref10_number.j1 kq a0 x4_1 x5_1 x28_5 = some (r1, r2)) ∧ Aside0 (kq ≤ k1) ∧ Drawn0 w wc)
     case first =>
      have H := HC6.out; clear HC6
      by_cases c7 : t106 = true
      ·
       subst c7
       have H1 : (if x5_1 = 1 then (if 0 < (a0.size : Int) then (unisonref10_number.j1 k1 a0 x4_1 x5_1 ((bt a0 0) == 48)) else (none)) else (unisonref10_number.j1 k1 a0 x4_1 x5_1 false)) = some (r1, r2) := by rw [if_pos rfl] at H; exact H
       clear H; have H := H1; clear H1
       by_cases c8 : x5_1 = 1
       ·
        rw [if_pos c8] at H
        have c8b0 : (x5_1 == 1) = true := beq_iff_eq.mpr c8; have c8b1 : (x5_1 != 1) = false := bne_eq_false_iff_eq.mpr c8; clear c8
        (first | rw [c8b0] | (simp only [i64_w, i32_w, u8_w, u32_w]; rw [c8b0]) | rw [c8b1] | skip)
        by_cases c9 : 0 < (a0.size : Int)
        ·
         rw [if_pos c9] at H
         have c9b0 : decide (0 < (a0.size : Int)) = true := decide_eq_true c9; have c9b1 : decide (0 < a0.size) = true := decide_eq_true (by omega); clear c9
         have H' := Aside0.mk H
         clear H; have p10 : 0 ≤ (0 : Int) := (by omega); have q10 : 0 < a0.size := (by have : (0 : Int) < (a0.size : Int) := of_decide_eq_true (by first | (with_reducible assumption) | assumption); omega); have hx10 : ∀ h : 0 < a0.size, ((a0[0]'h).toNat : Int) = bt a0 0 := bt_at a0 0; clear p10; have qi10 : (0 < (a0.size : Int)) = True := eq_true (of_decide_eq_true (by first | (with_reducible assumption) | assumption)); replace q10 := eq_true q10
         go_wp2
         go_meet
         case rel => exact ⟨_, (((bt a0 0) == 48)), (by first | rfl | (simp; done) | (simp [*]; done)), H', ⟨by have := HK1.out; first | omega | exact Nat.le_refl _⟩, by repeat (first | exact Drawn0.refl _ | apply Drawn0.step)⟩
        ·
         rw [if_neg c9] at H
         exact absurd H (by simp)
       ·
        rw [if_neg c8] at H
        have c8b0 : (x5_1 == 1) = false := beq_eq_false_iff_ne.mpr c8; have c8b1 : (x5_1 != 1) = true := bne_iff_ne.mpr c8
        (first | rw [c8b0] | (simp only [i64_w, i32_w, u8_w, u32_w]; rw [c8b0]) | rw [c8b1] | skip)
        have H' := Aside0.mk H
        clear H
        go_wp2
        go_meet
        case rel => exact ⟨_, (false), (by first | rfl | (simp; done) | (simp [*]; done)), H', ⟨by have := HK1.out; first | omega | exact Nat.le_refl _⟩, by repeat (first | exact Drawn0.refl _ | apply Drawn0.step)⟩
      ·
       replace c7 := Bool.eq_false_iff.mpr c7
       subst c7
       have H1 : (unisonref10_number.j1 k1 a0 x4_1 x5_1 true) = some (r1, r2) := by rw [if_neg (show ¬ (false = true) by decide)] at H; exact H
       clear H; have H := H1; clear H1
       have H' := Aside0.mk H
       clear H
       go_wp2
       go_meet
       case rel => exact ⟨_, (true), (by first | rfl | (simp; done) | (simp [*]; done)), H', ⟨by have := HK1.out; first | omega | exact Nat.le_refl _⟩, by repeat (first | exact Drawn0.refl _ | apply Drawn0.step)⟩
     case rest =>
      clear HC6; (try clear p1); (try clear q1); (try clear hx1); (try clear qi1); (try clear c2); (try clear c2b0); (try clear p2); (try clear c3); (try clear c3b0); (try clear p4); (try clear q4); (try clear hx4); (try clear c7); (try clear c8); (try clear c8b0); (try clear c8b1); (try clear c9); (try clear c9b0); (try clear c9b1); (try clear p10); (try clear q10); (try clear hx10); (try clear qi10); (try clear p10); (try clear p4); (try clear q10); (try clear q4)
      obtain ⟨kq, x28_5, rfl, HA, HJ5, ⟨mc5, rfl⟩⟩ := hcut
      cases kq with
      | zero => exact absurd HA.out (by simp [unisonref10_number.j1])
      | succ kj5 =>
       have H := HA.out; clear HA
       simp only [unisonref10_number.j1] at H
       by_cases c11 : x28_5 = true
       ·
        subst c11
        have H1 : (some (0, false)) = some (r1, r2) := by rw [if_pos rfl] at H; exact H
        clear H; have H := H1; clear H1
        simp only [Option.some.injEq, Prod.mk.injEq] at H
        obtain ⟨rfl, rfl⟩ := H
        go_wp2
        go_ret2
        exact ⟨by first | rfl | (simp; done) | (simp [*]; done), by repeat (first | exact Drawn0.refl _ | apply Drawn0.step)⟩
       ·
        replace c11 := Bool.eq_false_iff.mpr c11
        subst c11
        have H1 : (if 0 ≤ x5_1 then (if x5_1 < (a0.size : Int) then (if x4_1 > ((4611686018427387904 - (((bt a0 x5_1) - 48) % 256)) / 10) then (some (0, false)) else (unisonref10_number.l0 kj5 a0 (wrap64 ((wrap64 (10 * x4_1)) + (((bt a0 x5_1) - 48) % 256))) (wrap64 (x5_1 + 1)))) else (none)) else (none)) = some (r1, r2) := by rw [if_neg (show ¬ (false = true) by decide)] at H; exact H
        clear H; have H := H1; clear H1
        by_cases c12 : 0 ≤ x5_1
        ·
         rw [if_pos c12] at H
         have c12b0 : decide (0 ≤ x5_1) = true := decide_eq_true c12; clear c12
         by_cases c13 : x5_1 < (a0.size : Int)
         ·
          rw [if_pos c13] at H
          have c13b0 : decide (x5_1 < (a0.size : Int)) = true := decide_eq_true c13; clear c13
          by_cases c15 : x4_1 > ((4611686018427387904 - (((bt a0 x5_1) - 48) % 256)) / 10)
          ·
           rw [if_pos c15] at H
           have c15b0 : decide (((4611686018427387904 - (((bt a0 x5_1) - 48) % 256)) / 10) < x4_1) = true := decide_eq_true c15; clear c15
           simp only [Option.some.injEq, Prod.mk.injEq] at H
           obtain ⟨rfl, rfl⟩ := H
           have p14 : 0 ≤ (x5_1 : Int) := of_decide_eq_true (by first | (with_reducible assumption) | assumption); have q14 : x5_1 < (a0.size : Int) := of_decide_eq_true (by first | (with_reducible assumption) | assumption); have hx14 := bt_at a0 x5_1; replace p14 := eq_true p14; replace q14 := eq_true q14
           go_wp2
           go_ret2
           exact ⟨by first | rfl | (simp; done) | (simp [*]; done), by repeat (first | exact Drawn0.refl _ | apply Drawn0.step)⟩
          ·
           rw [if_neg c15] at H
           have c15b0 : decide (((4611686018427387904 - (((bt a0 x5_1) - 48) % 256)) / 10) < x4_1) = false := decide_eq_false c15; clear c15
           have H' := Aside0.mk H
           clear H; have p14 : 0 ≤ (x5_1 : Int) := of_decide_eq_true (by first | (with_reducible assumption) | assumption); have q14 : x5_1 < (a0.size : Int) := of_decide_eq_true (by first | (with_reducible assumption) | assumption); have hx14 := bt_at a0 x5_1; replace p14 := eq_true p14; replace q14 := eq_true q14
           go_wp2
           go_roundg kj5
           case measure => have := HK1.out; have := HJ5.out; omega
           case rel => exact ⟨(wrap64 ((wrap64 (10 * x4_1)) + (((bt a0 x5_1) - 48) % 256))), (wrap64 (x5_1 + 1)), (by first | rfl | (simp; done) | (simp [*]; done)), (by first | rfl | (simp; done) | (simp [*]; done)), H', ⟨by have := HK1.out; have := HJ5.out; omega⟩, by repeat (first | exact Drawn0.refl _ | apply Drawn0.step)⟩
         ·
          rw [if_neg c13] at H
          exact absurd H (by simp)
        ·
         rw [if_neg c12] at H
         exact absurd H (by simp)
    ·
     rw [if_neg c3] at H
     exact absurd H (by simp)
   ·
    rw [if_neg c2] at H
    have c2b0 : decide (x5_1 < (a0.size : Int)) = false := decide_eq_false c2; clear c2
    simp only [Option.some.injEq, Prod.mk.injEq] at H
    obtain ⟨rfl, rfl⟩ := H
    go_wp2
    go_ret2
    exact ⟨by first | rfl | (simp; done) | (simp [*]; done), by repeat (first | exact Drawn0.refl _ | apply Drawn0.step)⟩
end Go.Proofs.YtllehkjebikgpaaGreatDoor.PA
end
section
namespace Go.Proofs.YtllehkjebikgpaaGreatDoor.PA
open Go.RowKit Go.Proofs.YtllehkjebikgpaaGreatDoorW.PrintWords Go.Proofs.YtllehkjebikgpaaGreatDoorW.PrintLast Go.Proofs.YtllehkjebikgpaaGreatDoorW.PrintMore Go.Proofs.YtllehkjebikgpaaGreatDoorX
attribute [local go_sem] max2_int min2_int max_two min_two max_three min_three max_four min_four   -- for this text's walks alone
set_option linter.unusedVariables false
set_option linter.unusedSimpArgs false
/-! ### unisonref10_IsWord: function 36 -/
def unisonref10_IsWord.l0 : Nat → ByteArray → List ByteArray → Int → Option (Bool)
 | 0, _, _, _ => none
 | k + 1, x0, x3, x4 => if x4 < (x3.length : Int) then (if 0 ≤ x4 then (if (rdOf ByteArray.empty x3 x4).toList = x0.toList then (some true) else (unisonref10_IsWord.l0 k x0 x3 (wrap64 (x4 + 1)))) else (none)) else (some false)
def unisonref10_IsWord.f (k : Nat) (a0 : ByteArray) : Option (Bool) := unisonref10_IsWord.l0 k a0 (([(⟨#[83, 69, 76, 69, 67, 84]⟩ : ByteArray), (⟨#[73, 78, 83, 69, 82, 84]⟩ : ByteArray), (⟨#[73, 78, 84, 79]⟩ : ByteArray), (⟨#[86, 65, 76, 85, 69, 83]⟩ : ByteArray), (⟨#[85, 80, 68, 65, 84, 69]⟩ : ByteArray), (⟨#[83, 69, 84]⟩ : ByteArray), (⟨#[68, 69, 76, 69, 84, 69]⟩ : ByteArray), (⟨#[70, 82, 79, 77]⟩ : ByteArray), (⟨#[74, 79, 73, 78]⟩ : ByteArray), (⟨#[79, 78]⟩ : ByteArray), (⟨#[87, 72, 69, 82, 69]⟩ : ByteArray), (⟨#[71, 82, 79, 85, 80]⟩ : ByteArray), (⟨#[79, 82, 68, 69, 82]⟩ : ByteArray), (⟨#[66, 89]⟩ : ByteArray), (⟨#[68, 69, 83, 67]⟩ : ByteArray), (⟨#[76, 73, 77, 73, 84]⟩ : ByteArray), (⟨#[65, 78, 68]⟩ : ByteArray), (⟨#[79, 82]⟩ : ByteArray), (⟨#[78, 79, 84]⟩ : ByteArray), (⟨#[73, 83]⟩ : ByteArray), (⟨#[78, 85, 76, 76]⟩ : ByteArray), (⟨#[84, 82, 85, 69]⟩ : ByteArray), (⟨#[70, 65, 76, 83, 69]⟩ : ByteArray), (⟨#[67, 79, 85, 78, 84]⟩ : ByteArray), (⟨#[83, 85, 77]⟩ : ByteArray), (⟨#[77, 73, 78]⟩ : ByteArray), (⟨#[77, 65, 88]⟩ : ByteArray)] : List ByteArray)) 0
theorem unisonref10_IsWord.mono_l : ∀ k, (∀ y0 y1 y2, LeO (unisonref10_IsWord.l0 k y0 y1 y2) (unisonref10_IsWord.l0 (k + 1) y0 y1 y2))
 | 0 => fun _ _ _ r h => by simp [unisonref10_IsWord.l0] at h
 | k + 1 => by
  have ih0 := unisonref10_IsWord.mono_l k
  ·
   intro y0 y1 y2
   unfold unisonref10_IsWord.l0
   repeat' first
   | (with_reducible exact ih0 _ _ _)
   | (with_reducible exact LeO.refl _)
   | (with_reducible exact LeO.none _)
   | (with_reducible refine LeO.ite ?_ ?_)
   | (with_reducible refine LeO.bind ?_ (fun _ => ?_))
   | exact ih0 _ _ _
   | exact LeO.none _
   | refine LeO.ite ?_ ?_
   | refine LeO.bind ?_ (fun _ => ?_)
theorem unisonref10_IsWord.mono : ∀ a0 k, LeO (unisonref10_IsWord.f k a0) (unisonref10_IsWord.f (k + 1) a0) := by
 intro a0 k
 have ih0 := unisonref10_IsWord.mono_l k
 unfold unisonref10_IsWord.f
 repeat' first
   | (with_reducible exact ih0 _ _ _)
   | (with_reducible exact LeO.refl _)
   | (with_reducible exact LeO.none _)
   | (with_reducible refine LeO.ite ?_ ?_)
   | (with_reducible refine LeO.bind ?_ (fun _ => ?_))
   | exact ih0 _ _ _
   | exact LeO.none _
   | refine LeO.ite ?_ ?_
   | refine LeO.bind ?_ (fun _ => ?_)
set_option maxHeartbeats 8000000 in
set_option maxRecDepth 100000 in
theorem unisonref10_IsWord.calls (k : Nat) (a0 : ByteArray) (r : Bool) (w : World) (h : unisonref10_IsWord.f k a0 = some r) :
  Calls Tryz.prog 36 #[.string a0] w fun e w' => e = .returned (.bool r) ∧ Below w.heap.size w w' := by
 have HB := Aside0.mk (Below.refl w.heap.size w); have H : (unisonref10_IsWord.l0 k a0 (([(⟨#[83, 69, 76, 69, 67, 84]⟩ : ByteArray), (⟨#[73, 78, 83, 69, 82, 84]⟩ : ByteArray), (⟨#[73, 78, 84, 79]⟩ : ByteArray), (⟨#[86, 65, 76, 85, 69, 83]⟩ : ByteArray), (⟨#[85, 80, 68, 65, 84, 69]⟩ : ByteArray), (⟨#[83, 69, 84]⟩ : ByteArray), (⟨#[68, 69, 76, 69, 84, 69]⟩ : ByteArray), (⟨#[70, 82, 79, 77]⟩ : ByteArray), (⟨#[74, 79, 73, 78]⟩ : ByteArray), (⟨#[79, 78]⟩ : ByteArray), (⟨#[87, 72, 69, 82, 69]⟩ : ByteArray), (⟨#[71, 82, 79, 85, 80]⟩ : ByteArray), (⟨#[79, 82, 68, 69, 82]⟩ : ByteArray), (⟨#[66, 89]⟩ : ByteArray), (⟨#[68, 69, 83, 67]⟩ : ByteArray), (⟨#[76, 73, 77, 73, 84]⟩ : ByteArray), (⟨#[65, 78, 68]⟩ : ByteArray), (⟨#[79, 82]⟩ : ByteArray), (⟨#[78, 79, 84]⟩ : ByteArray), (⟨#[73, 83]⟩ : ByteArray), (⟨#[78, 85, 76, 76]⟩ : ByteArray), (⟨#[84, 82, 85, 69]⟩ : ByteArray), (⟨#[70, 65, 76, 83, 69]⟩ : ByteArray), (⟨#[67, 79, 85, 78, 84]⟩ : ByteArray), (⟨#[83, 85, 77]⟩ : ByteArray), (⟨#[77, 73, 78]⟩ : ByteArray), (⟨#[77, 65, 88]⟩ : ByteArray)] : List ByteArray)) 0) = some r := h; clear h
 obtain ⟨y107, hy107⟩ : ∃ y_ : List ByteArray, y_ = (([(⟨#[83, 69, 76, 69, 67, 84]⟩ : ByteArray), (⟨#[73, 78, 83, 69, 82, 84]⟩ : ByteArray), (⟨#[73, 78, 84, 79]⟩ : ByteArray), (⟨#[86, 65, 76, 85, 69, 83]⟩ : ByteArray), (⟨#[85, 80, 68, 65, 84, 69]⟩ : ByteArray), (⟨#[83, 69, 84]⟩ : ByteArray), (⟨#[68, 69, 76, 69, 84, 69]⟩ : ByteArray), (⟨#[70, 82, 79, 77]⟩ : ByteArray), (⟨#[74, 79, 73, 78]⟩ : ByteArray), (⟨#[79, 78]⟩ : ByteArray), (⟨#[87, 72, 69, 82, 69]⟩ : ByteArray), (⟨#[71, 82, 79, 85, 80]⟩ : ByteArray), (⟨#[79, 82, 68, 69, 82]⟩ : ByteArray), (⟨#[66, 89]⟩ : ByteArray), (⟨#[68, 69, 83, 67]⟩ : ByteArray), (⟨#[76, 73, 77, 73, 84]⟩ : ByteArray), (⟨#[65, 78, 68]⟩ : ByteArray), (⟨#[79, 82]⟩ : ByteArray), (⟨#[78, 79, 84]⟩ : ByteArray), (⟨#[73, 83]⟩ : ByteArray), (⟨#[78, 85, 76, 76]⟩ : ByteArray), (⟨#[84, 82, 85, 69]⟩ : ByteArray), (⟨#[70, 65, 76, 83, 69]⟩ : ByteArray), (⟨#[67, 79, 85, 78, 84]⟩ : ByteArray), (⟨#[83, 85, 77]⟩ : ByteArray), (⟨#[77, 73, 78]⟩ : ByteArray), (⟨#[77, 65, 88]⟩ : ByteArray)] : List ByteArray)) := ⟨_, rfl⟩
 replace H : (unisonref10_IsWord.l0 k a0 y107 0) = some r := by first | (rw [hy107]; with_reducible exact H) | (have H2_ := (Option.bind_some _ _).symm.trans H; rw [hy107]; with_reducible exact H2_) | (have H2_ := (Option.bind_some _ _).symm.trans H; with_reducible exact H2_) | with_reducible exact H | (rw [hy107]; exact H) | exact H
 have Ny107 := Aside0.mk hy107; clear hy107
 have H' := Aside0.mk H
 clear H
 go_enter Tryz.func36, Tryz.ntmps36
 go_wp2_with (first | ((with_reducible refine gate_dst (N := 5) rfl ?_); refine Kd.R_lit Kd.string _ 9 ?hg (N := 5) ?hd (xs := ([(⟨#[83, 69, 76, 69, 67, 84]⟩ : ByteArray), (⟨#[73, 78, 83, 69, 82, 84]⟩ : ByteArray), (⟨#[73, 78, 84, 79]⟩ : ByteArray), (⟨#[86, 65, 76, 85, 69, 83]⟩ : ByteArray), (⟨#[85, 80, 68, 65, 84, 69]⟩ : ByteArray), (⟨#[83, 69, 84]⟩ : ByteArray), (⟨#[68, 69, 76, 69, 84, 69]⟩ : ByteArray), (⟨#[70, 82, 79, 77]⟩ : ByteArray), (⟨#[74, 79, 73, 78]⟩ : ByteArray), (⟨#[79, 78]⟩ : ByteArray), (⟨#[87, 72, 69, 82, 69]⟩ : ByteArray), (⟨#[71, 82, 79, 85, 80]⟩ : ByteArray), (⟨#[79, 82, 68, 69, 82]⟩ : ByteArray), (⟨#[66, 89]⟩ : ByteArray), (⟨#[68, 69, 83, 67]⟩ : ByteArray), (⟨#[76, 73, 77, 73, 84]⟩ : ByteArray), (⟨#[65, 78, 68]⟩ : ByteArray), (⟨#[79, 82]⟩ : ByteArray), (⟨#[78, 79, 84]⟩ : ByteArray), (⟨#[73, 83]⟩ : ByteArray), (⟨#[78, 85, 76, 76]⟩ : ByteArray), (⟨#[84, 82, 85, 69]⟩ : ByteArray), (⟨#[70, 65, 76, 83, 69]⟩ : ByteArray), (⟨#[67, 79, 85, 78, 84]⟩ : ByteArray), (⟨#[83, 85, 77]⟩ : ByteArray), (⟨#[77, 73, 78]⟩ : ByteArray), (⟨#[77, 65, 88]⟩ : ByteArray)] : List ByteArray)) (inner := [.string (⟨#[83, 69, 76, 69, 67, 84]⟩ : ByteArray), .string (⟨#[73, 78, 83, 69, 82, 84]⟩ : ByteArray), .string (⟨#[73, 78, 84, 79]⟩ : ByteArray), .string (⟨#[86, 65, 76, 85, 69, 83]⟩ : ByteArray), .string (⟨#[85, 80, 68, 65, 84, 69]⟩ : ByteArray), .string (⟨#[83, 69, 84]⟩ : ByteArray), .string (⟨#[68, 69, 76, 69, 84, 69]⟩ : ByteArray), .string (⟨#[70, 82, 79, 77]⟩ : ByteArray), .string (⟨#[74, 79, 73, 78]⟩ : ByteArray), .string (⟨#[79, 78]⟩ : ByteArray), .string (⟨#[87, 72, 69, 82, 69]⟩ : ByteArray), .string (⟨#[71, 82, 79, 85, 80]⟩ : ByteArray), .string (⟨#[79, 82, 68, 69, 82]⟩ : ByteArray), .string (⟨#[66, 89]⟩ : ByteArray), .string (⟨#[68, 69, 83, 67]⟩ : ByteArray), .string (⟨#[76, 73, 77, 73, 84]⟩ : ByteArray), .string (⟨#[65, 78, 68]⟩ : ByteArray), .string (⟨#[79, 82]⟩ : ByteArray), .string (⟨#[78, 79, 84]⟩ : ByteArray), .string (⟨#[73, 83]⟩ : ByteArray), .string (⟨#[78, 85, 76, 76]⟩ : ByteArray), .string (⟨#[84, 82, 85, 69]⟩ : ByteArray), .string (⟨#[70, 65, 76, 83, 69]⟩ : ByteArray), .string (⟨#[67, 79, 85, 78, 84]⟩ : ByteArray), .string (⟨#[83, 85, 77]⟩ : ByteArray), .string (⟨#[77, 73, 78]⟩ : ByteArray), .string (⟨#[77, 65, 88]⟩ : ByteArray)]) (ok := fun _ => True) (okp := fun _ => True) ?hr ?hp (fun _ hk => hk) trivial (Below.refl _ _) (Nat.le_refl _) (by simp) ?_; (case hd => rfl); (case hg => rfl); (case hr => first | (go_simp; done) | (go_simp; rfl)); (case hp => exact (Reps.one (show Kd.M Kd.string _ _ _ (⟨#[83, 69, 76, 69, 67, 84]⟩ : ByteArray) [.string (⟨#[83, 69, 76, 69, 67, 84]⟩ : ByteArray)] from rfl) (Reps.one (show Kd.M Kd.string _ _ _ (⟨#[73, 78, 83, 69, 82, 84]⟩ : ByteArray) [.string (⟨#[73, 78, 83, 69, 82, 84]⟩ : ByteArray)] from rfl) (Reps.one (show Kd.M Kd.string _ _ _ (⟨#[73, 78, 84, 79]⟩ : ByteArray) [.string (⟨#[73, 78, 84, 79]⟩ : ByteArray)] from rfl) (Reps.one (show Kd.M Kd.string _ _ _ (⟨#[86, 65, 76, 85, 69, 83]⟩ : ByteArray) [.string (⟨#[86, 65, 76, 85, 69, 83]⟩ : ByteArray)] from rfl) (Reps.one (show Kd.M Kd.string _ _ _ (⟨#[85, 80, 68, 65, 84, 69]⟩ : ByteArray) [.string (⟨#[85, 80, 68, 65, 84, 69]⟩ : ByteArray)] from rfl) (Reps.one (show Kd.M Kd.string _ _ _ (⟨#[83, 69, 84]⟩ : ByteArray) [.string (⟨#[83, 69, 84]⟩ : ByteArray)] from rfl) (Reps.one (show Kd.M Kd.string _ _ _ (⟨#[68, 69, 76, 69, 84, 69]⟩ : ByteArray) [.string (⟨#[68, 69, 76, 69, 84, 69]⟩ : ByteArray)] from rfl) (Reps.one (show Kd.M Kd.string _ _ _ (⟨#[70, 82, 79, 77]⟩ : ByteArray) [.string (⟨#[70, 82, 79, 77]⟩ : ByteArray)] from rfl) (Reps.one (show Kd.M Kd.string _ _ _ (⟨#[74, 79, 73, 78]⟩ : ByteArray) [.string (⟨#[74, 79, 73, 78]⟩ : ByteArray)] from rfl) (Reps.one (show Kd.M Kd.string _ _ _ (⟨#[79, 78]⟩ : ByteArray) [.string (⟨#[79, 78]⟩ : ByteArray)] from rfl) (Reps.one (show Kd.M Kd.string _ _ _ (⟨#[87, 72, 69, 82, 69]⟩ : ByteArray) [.string (⟨#[87, 72, 69, 82, 69]⟩ : ByteArray)] from rfl) (Reps.one (show Kd.M Kd.string _ _ _ (⟨#[71, 82, 79, 85, 80]⟩ : ByteArray) [.string (⟨#[71, 82, 79, 85, 80]⟩ : ByteArray)] from rfl) (Reps.one (show Kd.M Kd.string _ _ _ (⟨#[79, 82, 68, 69, 82]⟩ : ByteArray) [.string (⟨#[79, 82, 68, 69, 82]⟩ : ByteArray)] from rfl) (Reps.one (show Kd.M Kd.string _ _ _ (⟨#[66, 89]⟩ : ByteArray) [.string (⟨#[66, 89]⟩ : ByteArray)] from rfl) (Reps.one (show Kd.M Kd.string _ _ _ (⟨#[68, 69, 83, 67]⟩ : ByteArray) [.string (⟨#[68, 69, 83, 67]⟩ : ByteArray)] from rfl) (Reps.one (show Kd.M Kd.string _ _ _ (⟨#[76, 73, 77, 73, 84]⟩ : ByteArray) [.string (⟨#[76, 73, 77, 73, 84]⟩ : ByteArray)] from rfl) (Reps.one (show Kd.M Kd.string _ _ _ (⟨#[65, 78, 68]⟩ : ByteArray) [.string (⟨#[65, 78, 68]⟩ : ByteArray)] from rfl) (Reps.one (show Kd.M Kd.string _ _ _ (⟨#[79, 82]⟩ : ByteArray) [.string (⟨#[79, 82]⟩ : ByteArray)] from rfl) (Reps.one (show Kd.M Kd.string _ _ _ (⟨#[78, 79, 84]⟩ : ByteArray) [.string (⟨#[78, 79, 84]⟩ : ByteArray)] from rfl) (Reps.one (show Kd.M Kd.string _ _ _ (⟨#[73, 83]⟩ : ByteArray) [.string (⟨#[73, 83]⟩ : ByteArray)] from rfl) (Reps.one (show Kd.M Kd.string _ _ _ (⟨#[78, 85, 76, 76]⟩ : ByteArray) [.string (⟨#[78, 85, 76, 76]⟩ : ByteArray)] from rfl) (Reps.one (show Kd.M Kd.string _ _ _ (⟨#[84, 82, 85, 69]⟩ : ByteArray) [.string (⟨#[84, 82, 85, 69]⟩ : ByteArray)] from rfl) (Reps.one (show Kd.M Kd.string _ _ _ (⟨#[70, 65, 76, 83, 69]⟩ : ByteArray) [.string (⟨#[70, 65, 76, 83, 69]⟩ : ByteArray)] from rfl) (Reps.one (show Kd.M Kd.string _ _ _ (⟨#[67, 79, 85, 78, 84]⟩ : ByteArray) [.string (⟨#[67, 79, 85, 78, 84]⟩ : ByteArray)] from rfl) (Reps.one (show Kd.M Kd.string _ _ _ (⟨#[83, 85, 77]⟩ : ByteArray) [.string (⟨#[83, 85, 77]⟩ : ByteArray)] from rfl) (Reps.one (show Kd.M Kd.string _ _ _ (⟨#[77, 73, 78]⟩ : ByteArray) [.string (⟨#[77, 73, 78]⟩ : ByteArray)] from rfl) (Reps.one (show Kd.M Kd.string _ _ _ (⟨#[77, 65, 88]⟩ : ByteArray) [.string (⟨#[77, 65, 88]⟩ : ByteArray)] from rfl) (Reps.none _ _))))))))))))))))))))))))))))); intro v108 w2 ho3 hb hg_ hnew_; clear hg_ hnew_; (first | rw [← Ny107.out] at ho3 | (simp only [Int.reduceToNat] at ho3; rw [← Ny107.out] at ho3)); have HO109 := Aside0.mk (Kd.R_lower ho3 (below_size bel)); replace HB := bs hb; clear hb ho3))
 go_loopg [4] k (fun kq v4 w' => ∃ (x4_1 : Int), v4 = .int .i64 x4_1 ∧ Aside0 (unisonref10_IsWord.l0 kq a0 y107 x4_1 = some r) ∧ Aside0 (kq ≤ k) ∧ Aside0 (Kd.R Kd.string 9 w' w.heap.size (fun _ => True) v108 y107) ∧ Aside0 (Below w.heap.size w w'))
 case atStart => exact ⟨(0), (by first | rfl | (simp; done) | (simp [*]; done)), H', ⟨Nat.le_refl _⟩, ⟨by (with_reducible repeat (first | apply Kd.R_alloc | apply Kd.R_drewN | apply Kd.R_drew)); exact HO109.out⟩, ⟨by repeat (first | (with_reducible first | exact HB.out | apply below_alloc | apply pw_below_drewN | apply below_drew1) | exact HB.out)⟩⟩
 case round =>
  clear H'
  (try clear p2); (try clear c3)
  obtain ⟨x4_1, rfl, HA, HK1, HO_3, HB⟩ := hrel
  cases gk with
  | zero => exact absurd HA.out (by simp [unisonref10_IsWord.l0])
  | succ k1 =>
   have H := HA.out; clear HA
   simp only [unisonref10_IsWord.l0] at H
   by_cases c4 : x4_1 < (y107.length : Int)
   ·
    rw [if_pos c4] at H
    have c4b0 : decide (x4_1 < (y107.length : Int)) = true := decide_eq_true c4; clear c4
    by_cases c5 : 0 ≤ x4_1
    ·
     rw [if_pos c5] at H
     have c5b0 : decide (0 ≤ x4_1) = true := decide_eq_true c5; clear c5
     by_cases c6 : (rdOf ByteArray.empty y107 x4_1).toList = a0.toList
     ·
      rw [if_pos c6] at H
      have c6b0 : ((rdOf ByteArray.empty y107 x4_1).toList == a0.toList) = true := beq_iff_eq.mpr c6; have c6b1 : ((rdOf ByteArray.empty y107 x4_1).toList != a0.toList) = false := bne_eq_false_iff_eq.mpr c6; clear c6
      obtain rfl := Option.some.inj H
      obtain ⟨Ao7, co7, eo7⟩ := Kd.R_slice HO_3.out
      subst eo7
      have p110 : 0 ≤ (x4_1 : Int) := of_decide_eq_true (by first | (with_reducible assumption) | assumption); have q110 : x4_1 < (y107.length : Int) := of_decide_eq_true (by first | (with_reducible assumption) | assumption)
      obtain ⟨ad110, e110, hx110_0⟩ := Kd.at_string (Kd.R_reads' HO_3.out).2.2 x4_1 p110 q110
      cases e110
      replace p110 := eq_true p110; replace q110 := eq_true q110
      go_wp2
      go_ret
      exact ⟨by first | rfl | (simp [errW_none, errW_some] <;> rfl) | (simp [*, errW_none, errW_some] <;> rfl), by repeat (first | (with_reducible first | exact HB.out | apply below_alloc | apply pw_below_drewN | apply below_drew1) | exact HB.out)⟩
     ·
      rw [if_neg c6] at H
      have c6b0 : ((rdOf ByteArray.empty y107 x4_1).toList == a0.toList) = false := beq_eq_false_iff_ne.mpr c6; have c6b1 : ((rdOf ByteArray.empty y107 x4_1).toList != a0.toList) = true := bne_iff_ne.mpr c6
      have H' := Aside0.mk H
      clear H
      obtain ⟨Ao8, co8, eo8⟩ := Kd.R_slice HO_3.out
      subst eo8
      have p110 : 0 ≤ (x4_1 : Int) := of_decide_eq_true (by first | (with_reducible assumption) | assumption); have q110 : x4_1 < (y107.length : Int) := of_decide_eq_true (by first | (with_reducible assumption) | assumption)
      obtain ⟨ad110, e110, hx110_0⟩ := Kd.at_string (Kd.R_reads' HO_3.out).2.2 x4_1 p110 q110
      cases e110
      replace p110 := eq_true p110; replace q110 := eq_true q110
      go_wp2
      go_roundg k1
      case measure => have := HK1.out; omega
      case rel => exact ⟨(wrap64 (x4_1 + 1)), (by first | rfl | (simp; done) | (simp [*]; done)), H', ⟨by have := HK1.out; omega⟩, ⟨by (with_reducible repeat (first | apply Kd.R_alloc | apply Kd.R_drewN | apply Kd.R_drew)); exact HO_3.out⟩, ⟨by repeat (first | (with_reducible first | exact HB.out | apply below_alloc | apply pw_below_drewN | apply below_drew1) | exact HB.out)⟩⟩
    ·
     rw [if_neg c5] at H
     exact absurd H (by simp)
   ·
    rw [if_neg c4] at H
    have c4b0 : decide (x4_1 < (y107.length : Int)) = false := decide_eq_false c4; clear c4
    obtain rfl := Option.some.inj H
    obtain ⟨Ao9, co9, eo9⟩ := Kd.R_slice HO_3.out
    subst eo9
    go_wp2
    go_ret
    exact ⟨by first | rfl | (simp [errW_none, errW_some] <;> rfl) | (simp [*, errW_none, errW_some] <;> rfl), by repeat (first | (with_reducible first | exact HB.out | apply below_alloc | apply pw_below_drewN | apply below_drew1) | exact HB.out)⟩
end Go.Proofs.YtllehkjebikgpaaGreatDoor.PA
end
section
namespace Go.Proofs.YtllehkjebikgpaaGreatDoor.PA
open Go.RowKit Go.Proofs.YtllehkjebikgpaaGreatDoorW.PrintWords Go.Proofs.YtllehkjebikgpaaGreatDoorW.PrintLast Go.Proofs.YtllehkjebikgpaaGreatDoorW.PrintMore Go.Proofs.YtllehkjebikgpaaGreatDoorX
attribute [local go_sem] max2_int min2_int max_two min_two max_three min_three max_four min_four   -- for this text's walks alone
set_option linter.unusedVariables false
set_option linter.unusedSimpArgs false

/-! ### unisonref10_text: function 25 -/
def unisonref10_text.l0 : Nat → ByteArray → Int → Int → Option (ByteArray × Bool)
 | 0, _, _, _ => none
 | k + 1, x0, x1, x6 => if x6 < (x0.size : Int) then (if 0 ≤ x6 then (if (bt x0 x6) = 39 then (if (wrap64 (x6 + 1)) < (x0.size : Int) then (if 0 ≤ (wrap64 (x6 + 1)) then (if (bt x0 (wrap64 (x6 + 1))) = 39 then (unisonref10_text.l0 k x0 x1 (wrap64 (x6 + 2))) else (if 0 ≤ x1 then (if x1 ≤ (wrap64 (x6 + 1)) then (if (wrap64 (x6 + 1)) ≤ (x0.size : Int) then (some (x0.extract (x1 : Int).toNat ((wrap64 (x6 + 1)) : Int).toNat, true)) else (none)) else (none)) else (none))) else (none)) else (if 0 ≤ x1 then (if x1 ≤ (wrap64 (x6 + 1)) then (if (wrap64 (x6 + 1)) ≤ (x0.size : Int) then (some (x0.extract (x1 : Int).toNat ((wrap64 (x6 + 1)) : Int).toNat, true)) else (none)) else (none)) else (none))) else (unisonref10_text.l0 k x0 x1 (wrap64 (x6 + 1)))) else (none)) else (some ((⟨#[]⟩ : ByteArray), false))
def unisonref10_text.f (k : Nat) (a0 : ByteArray) (a1 : Int) : Option (ByteArray × Bool) := unisonref10_text.l0 k a0 a1 (wrap64 (a1 + 1))
theorem unisonref10_text.mono_l : ∀ k, (∀ y0 y1 y2, LeO (unisonref10_text.l0 k y0 y1 y2) (unisonref10_text.l0 (k + 1) y0 y1 y2))
 | 0 => fun _ _ _ r h => by simp [unisonref10_text.l0] at h
 | k + 1 => by
  have ih0 := unisonref10_text.mono_l k
  ·
   intro y0 y1 y2
   unfold unisonref10_text.l0
   repeat' first
   | (with_reducible exact ih0 _ _ _)
   | (with_reducible exact LeO.refl _)
   | (with_reducible exact LeO.none _)
   | (with_reducible refine LeO.ite ?_ ?_)
   | (with_reducible refine LeO.bind ?_ (fun _ => ?_))
   | exact ih0 _ _ _
   | exact LeO.none _
   | refine LeO.ite ?_ ?_
   | refine LeO.bind ?_ (fun _ => ?_)
theorem unisonref10_text.mono : ∀ a0 a1 k, LeO (unisonref10_text.f k a0 a1) (unisonref10_text.f (k + 1) a0 a1) := by
 intro a0 a1 k
 have ih0 := unisonref10_text.mono_l k
 unfold unisonref10_text.f
 repeat' first
   | (with_reducible exact ih0 _ _ _)
   | (with_reducible exact LeO.refl _)
   | (with_reducible exact LeO.none _)
   | (with_reducible refine LeO.ite ?_ ?_)
   | (with_reducible refine LeO.bind ?_ (fun _ => ?_))
   | exact ih0 _ _ _
   | exact LeO.none _
   | refine LeO.ite ?_ ?_
   | refine LeO.bind ?_ (fun _ => ?_)
set_option maxHeartbeats 8000000 in
set_option maxRecDepth 100000 in
theorem unisonref10_text.calls (k : Nat) (a0 : ByteArray) (a1 : Int) (r1 : ByteArray) (r2 : Bool) (w : World) (h : unisonref10_text.f k a0 a1 = some (r1, r2)) :
  Calls Tryz.prog 25 #[.string a0, .int .i64 a1] w fun e w' => e = .returned (.tuple #[.string r1, .bool r2]) ∧ Drawn0 w w' := by
 have H : (unisonref10_text.l0 k a0 a1 (wrap64 (a1 + 1))) = some (r1, r2) := h; clear h
 have H' := Aside0.mk H
 clear H
 go_enter Tryz.func25, Tryz.ntmps25
 go_wp2
 go_loopg [6] k (fun kq v6 w' => ∃ (x6_1 : Int), v6 = .int .i64 x6_1 ∧ Aside0 (unisonref10_text.l0 kq a0 a1 x6_1 = some (r1, r2)) ∧ Aside0 (kq ≤ k) ∧ Drawn0 w w')
 case atStart => exact ⟨(wrap64 (a1 + 1)), (by first | rfl | (simp; done) | (simp [*]; done)), H', ⟨Nat.le_refl _⟩, by repeat (first | exact Drawn0.refl _ | apply Drawn0.step)⟩
 case round =>
  clear H'
  (try clear c2); (try clear p2)
  obtain ⟨x6_1, rfl, HA, HK1, ⟨m1, rfl⟩⟩ := hrel
  cases gk with
  | zero => exact absurd HA.out (by simp [unisonref10_text.l0])
  | succ k1 =>
   have H := HA.out; clear HA
   simp only [unisonref10_text.l0] at H
   by_cases c3 : x6_1 < (a0.size : Int)
   ·
    rw [if_pos c3] at H
    have c3b0 : decide (x6_1 < (a0.size : Int)) = true := decide_eq_true c3; clear c3
    by_cases c4 : 0 ≤ x6_1
    ·
     rw [if_pos c4] at H
     have c4b0 : decide (0 ≤ x6_1) = true := decide_eq_true c4; clear c4
     by_cases c6 : (bt a0 x6_1) = 39
     ·
      rw [if_pos c6] at H
      have c6b0 : ((bt a0 x6_1) == 39) = true := beq_iff_eq.mpr c6; have c6b1 : ((bt a0 x6_1) != 39) = false := bne_eq_false_iff_eq.mpr c6; clear c6
      by_cases c7 : (wrap64 (x6_1 + 1)) < (a0.size : Int)
      ·
       rw [if_pos c7] at H
       have c7b0 : decide ((wrap64 (x6_1 + 1)) < (a0.size : Int)) = true := decide_eq_true c7; clear c7
       obtain ⟨ji8, hji8⟩ : ∃ j_ : Int, (wrap64 (x6_1 + 1)) = j_ := ⟨_, rfl⟩
       replace H : (if 0 ≤ (ji8) then (if (bt a0 (ji8)) = 39 then (unisonref10_text.l0 k1 a0 a1 (wrap64 (x6_1 + 2))) else (if 0 ≤ a1 then (if a1 ≤ (ji8) then (if (ji8) ≤ (a0.size : Int) then (some (a0.extract (a1 : Int).toNat ((ji8) : Int).toNat, true)) else (none)) else (none)) else (none))) else (none)) = some (r1, r2) := by first | (rw [hji8] at H; exact H) | (simp only [hji8] at H ⊢; exact H)
       (try rw [hji8] at c7b0)
       have hji8w : (IntKind.i64.wrap (x6_1 + 1)) = ji8 := (i64_w _).trans hji8
       by_cases c9 : 0 ≤ (ji8)
       ·
        rw [if_pos c9] at H
        have c9b0 : decide (0 ≤ (ji8)) = true := decide_eq_true c9; clear c9
        by_cases c11 : (bt a0 (ji8)) = 39
        ·
         rw [if_pos c11] at H
         have c11b0 : ((bt a0 (ji8)) == 39) = true := beq_iff_eq.mpr c11; have c11b1 : ((bt a0 (ji8)) != 39) = false := bne_eq_false_iff_eq.mpr c11; clear c11
         have H' := Aside0.mk H
         clear H; have p5 : 0 ≤ (x6_1 : Int) := of_decide_eq_true (by first | (with_reducible assumption) | assumption); have q5 : x6_1 < (a0.size : Int) := of_decide_eq_true (by first | (with_reducible assumption) | assumption); have hx5 := bt_at a0 x6_1; replace p5 := eq_true p5; replace q5 := eq_true q5; have p10 : 0 ≤ ((ji8) : Int) := of_decide_eq_true (by first | (with_reducible assumption) | assumption); have q10 : (ji8) < (a0.size : Int) := of_decide_eq_true (by first | (with_reducible assumption) | assumption); have hx10 := bt_at a0 (ji8); replace p10 := eq_true p10; replace q10 := eq_true q10
         go_wp2
         go_roundg k1
         case measure => have := HK1.out; omega
         case rel => exact ⟨(wrap64 (x6_1 + 2)), (by first | rfl | (simp; done) | (simp [*]; done)), H', ⟨by have := HK1.out; omega⟩, by repeat (first | exact Drawn0.refl _ | apply Drawn0.step)⟩
        ·
         rw [if_neg c11] at H
         have c11b0 : ((bt a0 (ji8)) == 39) = false := beq_eq_false_iff_ne.mpr c11; have c11b1 : ((bt a0 (ji8)) != 39) = true := bne_iff_ne.mpr c11
         by_cases c12 : 0 ≤ a1
         ·
          rw [if_pos c12] at H
          have c12b0 := eq_true c12; have c12b1 : decide (0 ≤ a1) = true := decide_eq_true c12; clear c12
          by_cases c13 : a1 ≤ (ji8)
          ·
           rw [if_pos c13] at H
           have c13b0 := eq_true c13; have c13b1 : decide (a1 ≤ (ji8)) = true := decide_eq_true c13; clear c13
           by_cases c14 : (ji8) ≤ (a0.size : Int)
           ·
            rw [if_pos c14] at H
            have c14b0 := eq_true c14; have c14b1 : decide ((ji8) ≤ (a0.size : Int)) = true := decide_eq_true c14; clear c14
            simp only [Option.some.injEq, Prod.mk.injEq] at H
            obtain ⟨rfl, rfl⟩ := H
            have p5 : 0 ≤ (x6_1 : Int) := of_decide_eq_true (by first | (with_reducible assumption) | assumption); have q5 : x6_1 < (a0.size : Int) := of_decide_eq_true (by first | (with_reducible assumption) | assumption); have hx5 := bt_at a0 x6_1; replace p5 := eq_true p5; replace q5 := eq_true q5; have p10 : 0 ≤ ((ji8) : Int) := of_decide_eq_true (by first | (with_reducible assumption) | assumption); have q10 : (ji8) < (a0.size : Int) := of_decide_eq_true (by first | (with_reducible assumption) | assumption); have hx10 := bt_at a0 (ji8); replace p10 := eq_true p10; replace q10 := eq_true q10
            go_wp2
            go_ret2
            exact ⟨by first | rfl | (simp; done) | (simp only [← hji8] <;> (first | rfl | simp)) | (simp [*]; done), by repeat (first | exact Drawn0.refl _ | apply Drawn0.step)⟩
           ·
            rw [if_neg c14] at H
            exact absurd H (by simp)
          ·
           rw [if_neg c13] at H
           exact absurd H (by simp)
         ·
          rw [if_neg c12] at H
          exact absurd H (by simp)
       ·
        rw [if_neg c9] at H
        exact absurd H (by simp)
      ·
       rw [if_neg c7] at H
       have c7b0 : decide ((wrap64 (x6_1 + 1)) < (a0.size : Int)) = false := decide_eq_false c7; clear c7
       by_cases c15 : 0 ≤ a1
       ·
        rw [if_pos c15] at H
        have c15b0 := eq_true c15; have c15b1 : decide (0 ≤ a1) = true := decide_eq_true c15; clear c15
        by_cases c16 : a1 ≤ (wrap64 (x6_1 + 1))
        ·
         rw [if_pos c16] at H
         have c16b0 := eq_true c16; have c16b1 : decide (a1 ≤ (wrap64 (x6_1 + 1))) = true := decide_eq_true c16
         by_cases c17 : (wrap64 (x6_1 + 1)) ≤ (a0.size : Int)
         ·
          rw [if_pos c17] at H
          have c17b0 := eq_true c17; have c17b1 : decide ((wrap64 (x6_1 + 1)) ≤ (a0.size : Int)) = true := decide_eq_true c17
          simp only [Option.some.injEq, Prod.mk.injEq] at H
          obtain ⟨rfl, rfl⟩ := H
          have p5 : 0 ≤ (x6_1 : Int) := of_decide_eq_true (by first | (with_reducible assumption) | assumption); have q5 : x6_1 < (a0.size : Int) := of_decide_eq_true (by first | (with_reducible assumption) | assumption); have hx5 := bt_at a0 x6_1; replace p5 := eq_true p5; replace q5 := eq_true q5
          go_wp2
          go_ret2
          exact ⟨by first | rfl | (simp; done) | (simp [*]; done), by repeat (first | exact Drawn0.refl _ | apply Drawn0.step)⟩
         ·
          rw [if_neg c17] at H
          exact absurd H (by simp)
        ·
         rw [if_neg c16] at H
         exact absurd H (by simp)
       ·
        rw [if_neg c15] at H
        exact absurd H (by simp)
     ·
      rw [if_neg c6] at H
      have c6b0 : ((bt a0 x6_1) == 39) = false := beq_eq_false_iff_ne.mpr c6; have c6b1 : ((bt a0 x6_1) != 39) = true := bne_iff_ne.mpr c6
      have H' := Aside0.mk H
      clear H; have p5 : 0 ≤ (x6_1 : Int) := of_decide_eq_true (by first | (with_reducible assumption) | assumption); have q5 : x6_1 < (a0.size : Int) := of_decide_eq_true (by first | (with_reducible assumption) | assumption); have hx5 := bt_at a0 x6_1; replace p5 := eq_true p5; replace q5 := eq_true q5
      go_wp2
      go_roundg k1
      case measure => have := HK1.out; omega
      case rel => exact ⟨(wrap64 (x6_1 + 1)), (by first | rfl | (simp; done) | (simp [*]; done)), H', ⟨by have := HK1.out; omega⟩, by repeat (first | exact Drawn0.refl _ | apply Drawn0.step)⟩
    ·
     rw [if_neg c4] at H
     exact absurd H (by simp)
   ·
    rw [if_neg c3] at H
    have c3b0 : decide (x6_1 < (a0.size : Int)) = false := decide_eq_false c3; clear c3
    simp only [Option.some.injEq, Prod.mk.injEq] at H
    obtain ⟨rfl, rfl⟩ := H
    go_wp2
    go_ret2
    exact ⟨by first | rfl | (simp; done) | (simp [*]; done), by repeat (first | exact Drawn0.refl _ | apply Drawn0.step)⟩
end Go.Proofs.YtllehkjebikgpaaGreatDoor.PA
end
section
namespace Go.Proofs.YtllehkjebikgpaaGreatDoor.PA
open Go.RowKit Go.Proofs.YtllehkjebikgpaaGreatDoorW.PrintWords Go.Proofs.YtllehkjebikgpaaGreatDoorW.PrintLast Go.Proofs.YtllehkjebikgpaaGreatDoorW.PrintMore Go.Proofs.YtllehkjebikgpaaGreatDoorX
attribute [local go_sem] max2_int min2_int max_two min_two max_three min_three max_four min_four   -- for this text's walks alone
set_option linter.unusedVariables false
set_option linter.unusedSimpArgs false

/-! ### unisonref10_sign: function 27 -/
mutual
def unisonref10_sign.j0 : Nat → ByteArray → Int → ByteArray → Option (ByteArray)
 | 0, _, _, _ => none
 | k + 1, x0, x1, x5 => if x5.toList = ([60, 62] : List UInt8) then (unisonref10_sign.j1 k x0 x1 x5 true) else (if x5.toList = ([60, 61] : List UInt8) then (unisonref10_sign.j1 k x0 x1 x5 true) else (unisonref10_sign.j1 k x0 x1 x5 (x5.toList == ([62, 61] : List UInt8))))
def unisonref10_sign.j1 : Nat → ByteArray → Int → ByteArray → Bool → Option (ByteArray)
 | 0, _, _, _, _ => none
 | k + 1, x0, x1, x5, x27 => if x27 = true then (some x5) else (unisonref10_sign.l0 k x0 x1 (⟨#[59, 44, 40, 41, 46, 42, 43, 45, 47, 37, 61, 60, 62]⟩ : ByteArray) 0)
def unisonref10_sign.l0 : Nat → ByteArray → Int → ByteArray → Int → Option (ByteArray)
 | 0, _, _, _, _ => none
 | k + 1, x0, x1, x6, x7 => if x7 < (x6.size : Int) then (if 0 ≤ x7 then (if 0 ≤ x1 then (if x1 < (x0.size : Int) then (if (bt x6 x7) = (bt x0 x1) then (if x7 ≤ (wrap64 (x7 + 1)) then (if (wrap64 (x7 + 1)) ≤ (x6.size : Int) then (some (x6.extract (x7 : Int).toNat ((wrap64 (x7 + 1)) : Int).toNat)) else (none)) else (none)) else (unisonref10_sign.l0 k x0 x1 x6 (wrap64 (x7 + 1)))) else (none)) else (none)) else (none)) else (some (⟨#[]⟩ : ByteArray))
end
def unisonref10_sign.f (k : Nat) (a0 : ByteArray) (a1 : Int) : Option (ByteArray) := if (wrap64 (a1 + 1)) < (a0.size : Int) then (if 0 ≤ a1 then (if a1 ≤ (wrap64 (a1 + 2)) then (if (wrap64 (a1 + 2)) ≤ (a0.size : Int) then (unisonref10_sign.j0 k a0 a1 (a0.extract (a1 : Int).toNat ((wrap64 (a1 + 2)) : Int).toNat)) else (none)) else (none)) else (none)) else (unisonref10_sign.j0 k a0 a1 (⟨#[]⟩ : ByteArray))
theorem unisonref10_sign.mono_l : ∀ k, (∀ y0 y1 y2, LeO (unisonref10_sign.j0 k y0 y1 y2) (unisonref10_sign.j0 (k + 1) y0 y1 y2)) ∧ (∀ y0 y1 y2 y3, LeO (unisonref10_sign.j1 k y0 y1 y2 y3) (unisonref10_sign.j1 (k + 1) y0 y1 y2 y3)) ∧ (∀ y0 y1 y2 y3, LeO (unisonref10_sign.l0 k y0 y1 y2 y3) (unisonref10_sign.l0 (k + 1) y0 y1 y2 y3))
 | 0 => ⟨fun _ _ _ r h => by simp [unisonref10_sign.j0] at h, fun _ _ _ _ r h => by simp [unisonref10_sign.j1] at h, fun _ _ _ _ r h => by simp [unisonref10_sign.l0] at h⟩
 | k + 1 => by
  obtain ⟨ih0, ih1, ih2⟩ := unisonref10_sign.mono_l k
  refine ⟨?_, ?_, ?_⟩
  ·
   intro y0 y1 y2
   unfold unisonref10_sign.j0
   repeat' first
   | (with_reducible exact ih0 _ _ _)
   | (with_reducible exact ih1 _ _ _ _)
   | (with_reducible exact ih2 _ _ _ _)
   | (with_reducible exact LeO.refl _)
   | (with_reducible exact LeO.none _)
   | (with_reducible refine LeO.ite ?_ ?_)
   | (with_reducible refine LeO.bind ?_ (fun _ => ?_))
   | exact ih0 _ _ _
   | exact ih1 _ _ _ _
   | exact ih2 _ _ _ _
   | exact LeO.none _
   | refine LeO.ite ?_ ?_
   | refine LeO.bind ?_ (fun _ => ?_)
  ·
   intro y0 y1 y2 y3
   unfold unisonref10_sign.j1
   repeat' first
   | (with_reducible exact ih0 _ _ _)
   | (with_reducible exact ih1 _ _ _ _)
   | (with_reducible exact ih2 _ _ _ _)
   | (with_reducible exact LeO.refl _)
   | (with_reducible exact LeO.none _)
   | (with_reducible refine LeO.ite ?_ ?_)
   | (with_reducible refine LeO.bind ?_ (fun _ => ?_))
   | exact ih0 _ _ _
   | exact ih1 _ _ _ _
   | exact ih2 _ _ _ _
   | exact LeO.none _
   | refine LeO.ite ?_ ?_
   | refine LeO.bind ?_ (fun _ => ?_)
  ·
   intro y0 y1 y2 y3
   unfold unisonref10_sign.l0
   repeat' first
   | (with_reducible exact ih0 _ _ _)
   | (with_reducible exact ih1 _ _ _ _)
   | (with_reducible exact ih2 _ _ _ _)
   | (with_reducible exact LeO.refl _)
   | (with_reducible exact LeO.none _)
   | (with_reducible refine LeO.ite ?_ ?_)
   | (with_reducible refine LeO.bind ?_ (fun _ => ?_))
   | exact ih0 _ _ _
   | exact ih1 _ _ _ _
   | exact ih2 _ _ _ _
   | exact LeO.none _
   | refine LeO.ite ?_ ?_
   | refine LeO.bind ?_ (fun _ => ?_)
theorem unisonref10_sign.mono : ∀ a0 a1 k, LeO (unisonref10_sign.f k a0 a1) (unisonref10_sign.f (k + 1) a0 a1) := by
 intro a0 a1 k
 obtain ⟨ih0, ih1, ih2⟩ := unisonref10_sign.mono_l k
 unfold unisonref10_sign.f
 repeat' first
   | (with_reducible exact ih0 _ _ _)
   | (with_reducible exact ih1 _ _ _ _)
   | (with_reducible exact ih2 _ _ _ _)
   | (with_reducible exact LeO.refl _)
   | (with_reducible exact LeO.none _)
   | (with_reducible refine LeO.ite ?_ ?_)
   | (with_reducible refine LeO.bind ?_ (fun _ => ?_))
   | exact ih0 _ _ _
   | exact ih1 _ _ _ _
   | exact ih2 _ _ _ _
   | exact LeO.none _
   | refine LeO.ite ?_ ?_
   | refine LeO.bind ?_ (fun _ => ?_)
set_option maxHeartbeats 8000000 in
set_option maxRecDepth 100000 in
theorem unisonref10_sign.calls (k : Nat) (a0 : ByteArray) (a1 : Int) (r : ByteArray) (w : World) (h : unisonref10_sign.f k a0 a1 = some r) :
  Calls Tryz.prog 27 #[.string a0, .int .i64 a1] w fun e w' => e = .returned (.string r) ∧ Drawn0 w w' := by
 have H : (if (wrap64 (a1 + 1)) < (a0.size : Int) then (if 0 ≤ a1 then (if a1 ≤ (wrap64 (a1 + 2)) then (if (wrap64 (a1 + 2)) ≤ (a0.size : Int) then (unisonref10_sign.j0 k a0 a1 (a0.extract (a1 : Int).toNat ((wrap64 (a1 + 2)) : Int).toNat)) else (none)) else (none)) else (none)) else (unisonref10_sign.j0 k a0 a1 (⟨#[]⟩ : ByteArray))) = some r := h; clear h; have HC3 := Aside0.mk H; clear H
 go_enter Tryz.func27, Tryz.ntmps27
 go_upto_if 12 with (fail)
 repeat (go_quiet (fail); go_upto_if 12 with (fail))
 go_cut [5] (fun v5 wc => ∃ (kq : Nat) (x5_2 : ByteArray), v5 = .string x5_2 ∧ Aside0 (unisonref10_sign.j0 kq a0 a1 x5_2 = some r) ∧ Aside0 (kq ≤ k) ∧ Drawn0 w wc)
 case first =>
  have H := HC3.out; clear HC3
  by_cases c4 : (wrap64 (a1 + 1)) < (a0.size : Int)
  ·
   rw [if_pos c4] at H
   have c4b0 : decide ((wrap64 (a1 + 1)) < (a0.size : Int)) = true := decide_eq_true c4; clear c4
   (first | rw [c4b0] | (simp only [i64_w, i32_w, u8_w, u32_w]; rw [c4b0]) | rw [c4b1] | skip)
   by_cases c5 : 0 ≤ a1
   ·
    rw [if_pos c5] at H
    have c5b0 := eq_true c5; have c5b1 : decide (0 ≤ a1) = true := decide_eq_true c5; clear c5
    by_cases c6 : a1 ≤ (wrap64 (a1 + 2))
    ·
     rw [if_pos c6] at H
     have c6b0 := eq_true c6; have c6b1 : decide (a1 ≤ (wrap64 (a1 + 2))) = true := decide_eq_true c6
     by_cases c7 : (wrap64 (a1 + 2)) ≤ (a0.size : Int)
     ·
      rw [if_pos c7] at H
      have c7b0 := eq_true c7; have c7b1 : decide ((wrap64 (a1 + 2)) ≤ (a0.size : Int)) = true := decide_eq_true c7
      have H' := Aside0.mk H
      clear H
      go_wp2
      repeat (go_quiet (fail); try go_wp2)
      go_meet
      case rel => exact ⟨_, (a0.extract (a1 : Int).toNat ((wrap64 (a1 + 2)) : Int).toNat), (by first | rfl | (simp; done) | (simp [*]; done)), H', ⟨by first | omega | exact Nat.le_refl _⟩, by repeat (first | exact Drawn0.refl _ | apply Drawn0.step)⟩
     ·
      rw [if_neg c7] at H
      exact absurd H (by simp)
    ·
     rw [if_neg c6] at H
     exact absurd H (by simp)
   ·
    rw [if_neg c5] at H
    exact absurd H (by simp)
  ·
   rw [if_neg c4] at H
   have c4b0 : decide ((wrap64 (a1 + 1)) < (a0.size : Int)) = false := decide_eq_false c4; clear c4
   (first | rw [c4b0] | (simp only [i64_w, i32_w, u8_w, u32_w]; rw [c4b0]) | rw [c4b1] | skip)
   have H' := Aside0.mk H
   clear H
   go_wp2
   repeat (go_quiet (fail); try go_wp2)
   go_meet
   case rel => exact ⟨_, ((⟨#[]⟩ : ByteArray)), (by first | rfl | (simp; done) | (simp [*]; done)), H', ⟨by first | omega | exact Nat.le_refl _⟩, by repeat (first | exact Drawn0.refl _ | apply Drawn0.step)⟩
 case rest =>
  clear HC3; (try clear c2); (try clear p2); (try clear c4); (try clear c4b0); (try clear c4b1); (try clear c5); (try clear c5b0); (try clear c5b1); (try clear c6); (try clear c6b0); (try clear c6b1); (try clear p6); (try clear c7); (try clear c7b0); (try clear c7b1)
  obtain ⟨kq, x5_2, rfl, HA, HJ2, ⟨mc2, rfl⟩⟩ := hcut
  cases kq with
  | zero => exact absurd HA.out (by simp [unisonref10_sign.j0])
  | succ kj2 =>
   have H := HA.out; clear HA
   simp only [unisonref10_sign.j0] at H
   have HC8 := Aside0.mk H; clear H
   go_upto_region 4 with (fail)
   repeat (go_quiet (fail); go_upto_region 4 with (fail))
   go_cut [27] (fun v27 wc => ∃ (kq : Nat) (x27_7 : Bool), v27 = .bool x27_7 ∧ Aside0 (unisonref10_sign.j1 kq a0 a1 x5_2 x27_7 = some r) ∧ Aside0 (kq ≤ kj2) ∧ Drawn0 w wc)
   case first =>
    have H := HC8.out; clear HC8
    by_cases c9 : x5_2.toList = ([60, 62] : List UInt8)
    ·
     rw [if_pos c9] at H
     have c9b0 : (x5_2.toList == ([60, 62] : List UInt8)) = true := beq_iff_eq.mpr c9; have c9b1 : (x5_2.toList != ([60, 62] : List UInt8)) = false := bne_eq_false_iff_eq.mpr c9; clear c9
     (first | rw [c9b0] | (simp only [i64_w, i32_w, u8_w, u32_w]; rw [c9b0]) | rw [c9b1] | skip)
     have H' := Aside0.mk H
     clear H
     go_wp2
     repeat (go_quiet (fail); try go_wp2)
     go_meet
     case rel => exact ⟨_, (true), (by first | rfl | (simp; done) | (simp [*]; done)), H', ⟨by have := HJ2.out; first | omega | exact Nat.le_refl _⟩, by repeat (first | exact Drawn0.refl _ | apply Drawn0.step)⟩
    ·
     rw [if_neg c9] at H
     have c9b0 : (x5_2.toList == ([60, 62] : List UInt8)) = false := beq_eq_false_iff_ne.mpr c9; have c9b1 : (x5_2.toList != ([60, 62] : List UInt8)) = true := bne_iff_ne.mpr c9
     (first | rw [c9b0] | (simp only [i64_w, i32_w, u8_w, u32_w]; rw [c9b0]) | rw [c9b1] | skip)
     by_cases c10 : x5_2.toList = ([60, 61] : List UInt8)
     ·
      rw [if_pos c10] at H
      have c10b0 : (x5_2.toList == ([60, 61] : List UInt8)) = true := beq_iff_eq.mpr c10; have c10b1 : (x5_2.toList != ([60, 61] : List UInt8)) = false := bne_eq_false_iff_eq.mpr c10; clear c10
      have H' := Aside0.mk H
      clear H
      go_wp2
      repeat (go_quiet (fail); try go_wp2)
      go_meet
      case rel => exact ⟨_, (true), (by first | rfl | (simp; done) | (simp [*]; done)), H', ⟨by have := HJ2.out; first | omega | exact Nat.le_refl _⟩, by repeat (first | exact Drawn0.refl _ | apply Drawn0.step)⟩
     ·
      rw [if_neg c10] at H
      have c10b0 : (x5_2.toList == ([60, 61] : List UInt8)) = false := beq_eq_false_iff_ne.mpr c10; have c10b1 : (x5_2.toList != ([60, 61] : List UInt8)) = true := bne_iff_ne.mpr c10
      have H' := Aside0.mk H
      clear H
      go_wp2
      repeat (go_quiet (fail); try go_wp2)
      go_meet
      case rel => exact ⟨_, ((x5_2.toList == ([62, 61] : List UInt8))), (by first | rfl | (simp; done) | (simp [*]; done)), H', ⟨by have := HJ2.out; first | omega | exact Nat.le_refl _⟩, by repeat (first | exact Drawn0.refl _ | apply Drawn0.step)⟩
   case rest =>
    clear HC8; (try clear c1); (try clear c2); (try clear p2); (try clear c4); (try clear c4b0); (try clear c4b1); (try clear c5); (try clear c5b0); (try clear c5b1); (try clear c6); (try clear c6b0); (try clear c6b1); (try clear p6); (try clear c7); (try clear c7b0); (try clear c7b1); (try clear c9); (try clear c9b0); (try clear c9b1); (try clear c10); (try clear c10b0); (try clear c10b1); (try clear p2); (try clear p6)
    obtain ⟨kq, x27_7, rfl, HA, HJ7, ⟨mc7, rfl⟩⟩ := hcut
    cases kq with
    | zero => exact absurd HA.out (by simp [unisonref10_sign.j1])
    | succ kj7 =>
     have H := HA.out; clear HA
     simp only [unisonref10_sign.j1] at H
     by_cases c11 : x27_7 = true
     ·
      subst c11
      have H1 : (some x5_2) = some r := by rw [if_pos rfl] at H; exact H
      clear H; have H := H1; clear H1
      obtain rfl := Option.some.inj H
      go_wp2
      repeat (go_quiet (fail); try go_wp2)
      go_ret
      exact ⟨by first | rfl | (simp; done) | (simp [*]; done), by repeat (first | exact Drawn0.refl _ | apply Drawn0.step)⟩
     ·
      replace c11 := Bool.eq_false_iff.mpr c11
      subst c11
      have H1 : (unisonref10_sign.l0 kj7 a0 a1 (⟨#[59, 44, 40, 41, 46, 42, 43, 45, 47, 37, 61, 60, 62]⟩ : ByteArray) 0) = some r := by rw [if_neg (show ¬ (false = true) by decide)] at H; exact H
      clear H; have H := H1; clear H1
      have H' := Aside0.mk H
      clear H
      go_wp2
      repeat (go_quiet (fail); try go_wp2)
      go_loopg [7] kj7 (fun kq v7 w' => ∃ (x7_3 : Int), v7 = .int .i64 x7_3 ∧ Aside0 (unisonref10_sign.l0 kq a0 a1 (⟨#[59, 44, 40, 41, 46, 42, 43, 45, 47, 37, 61, 60, 62]⟩ : ByteArray) x7_3 = some r) ∧ Aside0 (kq ≤ kj7) ∧ Drawn0 w w')
      case atStart => exact ⟨(0), (by first | rfl | (simp; done) | (simp [*]; done)), H', ⟨Nat.le_refl _⟩, by repeat (first | exact Drawn0.refl _ | apply Drawn0.step)⟩
      case round =>
       clear H'
       (try clear c1); (try clear c2); (try clear p2); (try clear c4); (try clear c4b0); (try clear c4b1); (try clear c5); (try clear c5b0); (try clear c5b1); (try clear c6); (try clear c6b0); (try clear c6b1); (try clear p6); (try clear c7); (try clear c7b0); (try clear c7b1); (try clear c9); (try clear c9b0); (try clear c9b1); (try clear c10); (try clear c10b0); (try clear c10b1); (try clear c11); (try clear p2); (try clear p6)
       obtain ⟨x7_3, rfl, HA, HK3, ⟨m3, rfl⟩⟩ := hrel
       cases gk with
       | zero => exact absurd HA.out (by simp [unisonref10_sign.l0])
       | succ k3 =>
        have H := HA.out; clear HA
        simp only [unisonref10_sign.l0] at H
        by_cases c12 : x7_3 < ((⟨#[59, 44, 40, 41, 46, 42, 43, 45, 47, 37, 61, 60, 62]⟩ : ByteArray).size : Int)
        ·
         rw [if_pos c12] at H
         have c12b0 : decide (x7_3 < ((⟨#[59, 44, 40, 41, 46, 42, 43, 45, 47, 37, 61, 60, 62]⟩ : ByteArray).size : Int)) = true := decide_eq_true c12; clear c12
         have c12z : decide (x7_3 < (13 : Int)) = true := c12b0
         by_cases c13 : 0 ≤ x7_3
         ·
          rw [if_pos c13] at H
          have c13b0 : decide (0 ≤ x7_3) = true := decide_eq_true c13; clear c13
          by_cases c15 : 0 ≤ a1
          ·
           rw [if_pos c15] at H
           have c15b0 : decide (0 ≤ a1) = true := decide_eq_true c15; clear c15
           by_cases c16 : a1 < (a0.size : Int)
           ·
            rw [if_pos c16] at H
            have c16b0 : decide (a1 < (a0.size : Int)) = true := decide_eq_true c16; clear c16
            by_cases c18 : (bt (⟨#[59, 44, 40, 41, 46, 42, 43, 45, 47, 37, 61, 60, 62]⟩ : ByteArray) x7_3) = (bt a0 a1)
            ·
             rw [if_pos c18] at H
             have c18b0 : ((bt (⟨#[59, 44, 40, 41, 46, 42, 43, 45, 47, 37, 61, 60, 62]⟩ : ByteArray) x7_3) == (bt a0 a1)) = true := beq_iff_eq.mpr c18; have c18b1 : ((bt (⟨#[59, 44, 40, 41, 46, 42, 43, 45, 47, 37, 61, 60, 62]⟩ : ByteArray) x7_3) != (bt a0 a1)) = false := bne_eq_false_iff_eq.mpr c18; clear c18; have c19b0 := eq_true (of_decide_eq_true (by first | (with_reducible assumption) | assumption) : 0 ≤ x7_3)
             by_cases c20 : x7_3 ≤ (wrap64 (x7_3 + 1))
             ·
              rw [if_pos c20] at H
              have c20b0 := eq_true c20; have c20b1 : decide (x7_3 ≤ (wrap64 (x7_3 + 1))) = true := decide_eq_true c20
              by_cases c21 : (wrap64 (x7_3 + 1)) ≤ ((⟨#[59, 44, 40, 41, 46, 42, 43, 45, 47, 37, 61, 60, 62]⟩ : ByteArray).size : Int)
              ·
               rw [if_pos c21] at H
               have c21b0 := eq_true c21; have c21b1 : decide ((wrap64 (x7_3 + 1)) ≤ ((⟨#[59, 44, 40, 41, 46, 42, 43, 45, 47, 37, 61, 60, 62]⟩ : ByteArray).size : Int)) = true := decide_eq_true c21
               (try (have z1_ : (wrap64 (x7_3 + 1) ≤ (13 : Int)) = True := c21b0)); (try (have z2_ : (x7_3 + 1 ≤ (13 : Int)) = True := eq_true (by have h_ : x7_3 < 13 := of_decide_eq_true (by first | (with_reducible assumption) | assumption); omega))); (try (have z3_ : (x7_3 ≤ x7_3 + 1) = True := eq_true (by omega)))
               obtain rfl := Option.some.inj H
               have p14 : 0 ≤ (x7_3 : Int) := of_decide_eq_true (by first | (with_reducible assumption) | assumption); have q14 : x7_3 < (13 : Int) := of_decide_eq_true (by first | (with_reducible assumption) | assumption); have hx14 := bt_at (⟨#[59, 44, 40, 41, 46, 42, 43, 45, 47, 37, 61, 60, 62]⟩ : ByteArray) x7_3; replace p14 := eq_true p14; replace q14 := eq_true q14; have p17 : 0 ≤ (a1 : Int) := of_decide_eq_true (by first | (with_reducible assumption) | assumption); have q17 : a1 < (a0.size : Int) := of_decide_eq_true (by first | (with_reducible assumption) | assumption); have hx17 := bt_at a0 a1; replace p17 := eq_true p17; replace q17 := eq_true q17
               go_wp2
               repeat (go_quiet (fail); try go_wp2)
               go_ret
               exact ⟨by first | rfl | (simp; done) | (simp [*]; done), by repeat (first | exact Drawn0.refl _ | apply Drawn0.step)⟩
              ·
               rw [if_neg c21] at H
               exact absurd H (by simp)
             ·
              rw [if_neg c20] at H
              exact absurd H (by simp)
            ·
             rw [if_neg c18] at H
             have c18b0 : ((bt (⟨#[59, 44, 40, 41, 46, 42, 43, 45, 47, 37, 61, 60, 62]⟩ : ByteArray) x7_3) == (bt a0 a1)) = false := beq_eq_false_iff_ne.mpr c18; have c18b1 : ((bt (⟨#[59, 44, 40, 41, 46, 42, 43, 45, 47, 37, 61, 60, 62]⟩ : ByteArray) x7_3) != (bt a0 a1)) = true := bne_iff_ne.mpr c18
             have H' := Aside0.mk H
             clear H; have p14 : 0 ≤ (x7_3 : Int) := of_decide_eq_true (by first | (with_reducible assumption) | assumption); have q14 : x7_3 < (13 : Int) := of_decide_eq_true (by first | (with_reducible assumption) | assumption); have hx14 := bt_at (⟨#[59, 44, 40, 41, 46, 42, 43, 45, 47, 37, 61, 60, 62]⟩ : ByteArray) x7_3; replace p14 := eq_true p14; replace q14 := eq_true q14; have p17 : 0 ≤ (a1 : Int) := of_decide_eq_true (by first | (with_reducible assumption) | assumption); have q17 : a1 < (a0.size : Int) := of_decide_eq_true (by first | (with_reducible assumption) | assumption); have hx17 := bt_at a0 a1; replace p17 := eq_true p17; replace q17 := eq_true q17
             go_wp2
             repeat (go_quiet (fail); try go_wp2)
             go_roundg k3
             case measure => have := HJ2.out; have := HJ7.out; have := HK3.out; omega
             case rel => exact ⟨(wrap64 (x7_3 + 1)), (by first | rfl | (simp; done) | (simp [*]; done)), H', ⟨by have := HJ2.out; have := HJ7.out; have := HK3.out; omega⟩, by repeat (first | exact Drawn0.refl _ | apply Drawn0.step)⟩
           ·
            rw [if_neg c16] at H
            exact absurd H (by simp)
          ·
           rw [if_neg c15] at H
           exact absurd H (by simp)
         ·
          rw [if_neg c13] at H
          exact absurd H (by simp)
        ·
         rw [if_neg c12] at H
         have c12b0 : decide (x7_3 < ((⟨#[59, 44, 40, 41, 46, 42, 43, 45, 47, 37, 61, 60, 62]⟩ : ByteArray).size : Int)) = false := decide_eq_false c12; clear c12
         have c12z : decide (x7_3 < (13 : Int)) = false := c12b0
         obtain rfl := Option.some.inj H
         go_wp2
         repeat (go_quiet (fail); try go_wp2)
         go_ret
         exact ⟨by first | rfl | (simp; done) | (simp [*]; done), by repeat (first | exact Drawn0.refl _ | apply Drawn0.step)⟩
end Go.Proofs.YtllehkjebikgpaaGreatDoor.PA
end
